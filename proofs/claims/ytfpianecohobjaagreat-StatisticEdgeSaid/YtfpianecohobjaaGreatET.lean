/- StatisticOf: a part of its proof. No condition. -/
import Derived.Test.YtfpianecohobjaaGreatES
import Derived.Test.YtfpianecohobjaaGreatEH2
import Derived.Test.YtfpianecohobjaaGreatEPx46
import Derived.Test.YtfpianecohobjaaGreatEMh
import Derived.Test.YtfpianecohobjaaGreatEMk
import Derived.Test.YtfpianecohobjaaGreatEMd
import Derived.Test.YtfpianecohobjaaGreatEPx35
import Derived.Test.YtfpianecohobjaaGreatEPx36
import Derived.Test.YtfpianecohobjaaGreatEPx58
namespace Go.Proofs.YtfpianecohobjaaGreat.P
open Go.RowKit Go.Proofs.YtfpianecohobjaaGreatW.PrintWords Go.Proofs.YtfpianecohobjaaGreatW.PrintLast
set_option maxRecDepth 100000
set_option linter.unusedVariables false
set_option linter.unusedSimpArgs false
set_option linter.unusedSectionVars false
def kLt (a b : S75) : Prop := a.f0 < b.f0 ∨ (a.f0 = b.f0 ∧ (a.f1 < b.f1 ∨ (a.f1 = b.f1 ∧ a.f2 < b.f2)))
def kEq (a b : S75) : Prop := a.f0 = b.f0 ∧ a.f1 = b.f1 ∧ a.f2 = b.f2
instance (a b : S75) : Decidable (kLt a b) := by unfold kLt; exact inferInstance
instance (a b : S75) : Decidable (kEq a b) := by unfold kEq; exact inferInstance
def kIn (a : S75) : Prop := (0 ≤ a.f0 ∧ a.f0 ≤ 1000) ∧ (0 ≤ a.f1 ∧ a.f1 ≤ 1000) ∧ (0 ≤ a.f2 ∧ a.f2 ≤ 1000)
theorem cmp_lt {a b : S75} (ha : kIn a) (hb : kIn b) : cmpE a.f0 a.f1 a.f2 b.f0 b.f1 b.f2 < 0 ↔ kLt a b := by
 unfold kIn at ha hb
 unfold cmpE kLt
 rw [w64 (a.f0 - b.f0) (by omega) (by omega), w64 (a.f1 - b.f1) (by omega) (by omega), w64 (a.f2 - b.f2) (by omega) (by omega)]
 split
 · split <;> omega
 · omega
theorem cmp_eq {a b : S75} (ha : kIn a) (hb : kIn b) : cmpE a.f0 a.f1 a.f2 b.f0 b.f1 b.f2 = 0 ↔ kEq a b := by
 unfold kIn at ha hb
 unfold cmpE kEq
 rw [w64 (a.f0 - b.f0) (by omega) (by omega), w64 (a.f1 - b.f1) (by omega) (by omega), w64 (a.f2 - b.f2) (by omega) (by omega)]
 split
 · split <;> omega
 · omega
theorem rcmp_f (a b : S75) : scarfjointref18_compare.f a.f0 a.f1 a.f2 a.f3 b.f0 b.f1 b.f2 b.f3 = some (cmpE a.f0 a.f1 a.f2 b.f0 b.f1 b.f2) ∨ ¬ (kIn a ∧ kIn b) := by
 by_cases h : kIn a ∧ kIn b
 · left
   obtain ⟨ha, hb⟩ := h
   unfold kIn at ha hb
   unfold scarfjointref18_compare.f cmpE
   rw [w64 (a.f0 - b.f0) (by omega) (by omega), w64 (a.f1 - b.f1) (by omega) (by omega), w64 (a.f2 - b.f2) (by omega) (by omega)]
   by_cases h0 : a.f0 = b.f0
   · have e0 : a.f0 - b.f0 = 0 := by omega
     by_cases h1 : a.f1 = b.f1
     · have e1 : a.f1 - b.f1 = 0 := by omega
       simp only [h0, h1, e0, e1, ↓reduceIte]
       simp
     · have e1 : ¬ (a.f1 - b.f1 = 0) := by omega
       simp only [h1, e0, e1, ↓reduceIte, if_pos h0]
   · have e0 : ¬ (a.f0 - b.f0 = 0) := by omega
     simp only [h0, e0, ↓reduceIte]
 · exact Or.inr h
theorem rcmp_in {a b : S75} (ha : kIn a) (hb : kIn b) : scarfjointref18_compare.f a.f0 a.f1 a.f2 a.f3 b.f0 b.f1 b.f2 b.f3 = some (cmpE a.f0 a.f1 a.f2 b.f0 b.f1 b.f2) := by
 rcases rcmp_f a b with h | h
 · exact h
 · exact absurd ⟨ha, hb⟩ h
theorem k_tri (a b : S75) : kLt a b ∨ kEq a b ∨ kLt b a := by unfold kLt kEq; omega
theorem k_lt_ne {a b : S75} (h : kLt a b) : ¬ kEq a b := by unfold kLt kEq at *; omega
theorem k_lt_as {a b : S75} (h : kLt a b) : ¬ kLt b a := by unfold kLt at *; omega
theorem k_trans {a b c : S75} (h : kLt a b) (h' : kLt b c) : kLt a c := by unfold kLt at *; omega
theorem k_eq_lt {a b c : S75} (h : kEq a b) (h' : kLt a c) : kLt b c := by unfold kEq kLt at *; omega
structure Cnt (B : Int) (l : List S75) : Prop where
 srt : l.Pairwise kLt
 key : ∀ y ∈ l, kIn y
 num : ∀ y ∈ l, 1 ≤ y.f3 ∧ y.f3 ≤ B
theorem Cnt.tail {B : Int} {y : S75} {l : List S75} (h : Cnt B (y :: l)) : Cnt B l :=
 ⟨(List.pairwise_cons.1 h.srt).2, fun z hz => h.key z (List.mem_cons_of_mem _ hz), fun z hz => h.num z (List.mem_cons_of_mem _ hz)⟩
def addE : List S75 → S75 → List S75
 | [], x => [x]
 | y :: l, x => if kLt y x then y :: addE l x else if kEq y x then (if y.f3 + x.f3 = 0 then l else ⟨y.f0, y.f1, y.f2, y.f3 + x.f3⟩ :: l) else x :: y :: l
def posE : List S75 → S75 → Nat
 | [], _ => 0
 | y :: l, x => if kLt y x then posE l x + 1 else 0
theorem posE_le : ∀ (l : List S75) (x : S75), posE l x ≤ l.length
 | [], _ => Nat.le_refl _
 | y :: l, x => by
  unfold posE
  split
  · exact Nat.succ_le_succ (posE_le l x)
  · exact Nat.zero_le _
theorem rd75_nat (l : List S75) (i : Nat) (h : i < l.length) : rd_T75 l (i : Int) = l[i] := by unfold rd_T75; simp [h]
theorem pos_below : ∀ (l : List S75) (x : S75) (h : Nat), h < posE l x → (hl : h < l.length) → kLt l[h] x
 | [], x, h, hp, hl => by cases hl
 | y :: l, x, h, hp, hl => by
  unfold posE at hp
  split at hp
  · next hy =>
    cases h with
    | zero => exact hy
    | succ h => exact pos_below l x h (by omega) (by simpa using hl)
  · omega
theorem pos_above {B : Int} : ∀ (l : List S75) (x : S75), Cnt B l → ∀ (h : Nat), posE l x ≤ h → (hl : h < l.length) → ¬ kLt l[h] x
 | [], x, _, h, hp, hl => by cases hl
 | y :: l, x, hc, h, hp, hl => by
  unfold posE at hp
  split at hp
  · next hy =>
    cases h with
    | zero => omega
    | succ h => exact pos_above l x hc.tail h (by omega) (by simpa using hl)
  · next hy =>
    cases h with
    | zero => exact hy
    | succ h =>
     intro hk
     have hl' : h < l.length := by simpa using hl
     have := (List.pairwise_cons.1 hc.srt).1 l[h] (List.getElem_mem hl')
     exact hy (k_trans this hk)
theorem bsE_at (p : Nat → Bool) (m : Nat) : ∀ (n i j : Nat), j - i ≤ n → i ≤ m → m ≤ j → (∀ h, i ≤ h → h < m → p h = true) → (∀ h, m ≤ h → h < j → p h = false) → bsE p n i j = m
 | 0, i, j, hn, hi, hj, _, _ => by rw [bsE]; omega
 | n + 1, i, j, hn, hi, hj, h1, h2 => by
  rw [bsE]
  split
  · next hlt =>
    by_cases hm : (i + j) / 2 < m
    · rw [if_pos (h1 _ (by omega) hm)]
      exact bsE_at p m n _ _ (by omega) (by omega) hj (fun h ha hb => h1 h (by omega) hb) h2
    · rw [if_neg (by rw [h2 _ (by omega) (by omega)]; simp)]
      exact bsE_at p m n _ _ (by omega) hi (by omega) h1 (fun h ha hb => h2 h ha (by omega))
  · omega
theorem search_pos {B : Int} {l : List S75} {x : S75} (hc : Cnt B l) (hx : kIn x) : searchAt l x.f0 x.f1 x.f2 = posE l x := by
 unfold searchAt
 refine bsE_at _ _ _ _ _ (by omega) (Nat.zero_le _) (posE_le l x) (fun h _ hh => ?_) (fun h hh hl => ?_)
 · have hl : h < l.length := Nat.lt_of_lt_of_le hh (posE_le l x)
   refine decide_eq_true ?_
   unfold cmpAt
   rw [rd75_nat _ _ hl]
   exact (cmp_lt (hc.key _ (List.getElem_mem hl)) hx).2 (pos_below l x h hh hl)
 · refine decide_eq_false ?_
   unfold cmpAt
   rw [rd75_nat _ _ hl]
   exact fun h' => pos_above l x hc h hh hl ((cmp_lt (hc.key _ (List.getElem_mem hl)) hx).1 h')
theorem add_found : ∀ (l : List S75) (x : S75) (h : posE l x < l.length), kEq l[posE l x] x → l[posE l x].f3 + x.f3 ≠ 0 → addE l x = l.set (posE l x) ⟨l[posE l x].f0, l[posE l x].f1, l[posE l x].f2, l[posE l x].f3 + x.f3⟩
 | [], x, h, _, _ => by cases h
 | y :: l, x, h, he, hz => by
  by_cases hy : kLt y x
  · have hp : posE (y :: l) x = posE l x + 1 := by rw [posE, if_pos hy]
    simp only [hp, List.getElem_cons_succ] at he hz ⊢
    rw [addE, if_pos hy, List.set_cons_succ, add_found l x (by rw [hp] at h; simpa using h) he hz]
  · have hp : posE (y :: l) x = 0 := by rw [posE, if_neg hy]
    simp only [hp, List.getElem_cons_zero] at he hz ⊢
    rw [addE, if_neg hy, if_pos he, if_neg hz]; rfl
theorem add_new : ∀ (l : List S75) (x : S75), (∀ h : posE l x < l.length, ¬ kEq l[posE l x] x) → addE l x = l.take (posE l x) ++ x :: l.drop (posE l x)
 | [], x, _ => rfl
 | y :: l, x, hn => by
  by_cases hy : kLt y x
  · have hp : posE (y :: l) x = posE l x + 1 := by rw [posE, if_pos hy]
    rw [addE, if_pos hy, hp, List.take_succ_cons, List.drop_succ_cons, List.cons_append, add_new l x (fun h => by
     have := hn (by rw [hp]; simpa using h)
     simpa only [hp, List.getElem_cons_succ] using this)]
  · have hp : posE (y :: l) x = 0 := by rw [posE, if_neg hy]
    have := hn (by rw [hp]; simp)
    simp only [hp, List.getElem_cons_zero] at this
    rw [addE, if_neg hy, if_neg this, hp]; rfl
theorem change_done {l : List S75} {x : S75} (hx : kIn x) (hk : ∀ y ∈ l, kIn y) (h3 : ∀ y ∈ l, 1 ≤ y.f3 ∧ y.f3 ≤ 1000) (z : Int) (hl : l.length ≤ 1000) : ∀ (m i : Nat) (acc : List S75), i + m = l.length → acc.length ≤ 2 * i + 2 → (∀ h, i ≤ h → (hh : h < l.length) → kLt x l[h]) →
 Ev (fun k => scarfjointref18_change.l0 k l x.f3 acc true (i : Int) x.f0 x.f1 x.f2 z) (acc ++ l.drop i)
 | 0, i, acc, hi, ha, _ => by
  refine Ev.step (fun k => by rw [scarfjointref18_change.l0]) ?_
  rw [List.drop_eq_nil_of_le (by omega), List.append_nil]
  simp only [show ¬ ((i : Int) < (l.length : Int)) by omega, ↓reduceIte]; exact Ev.now _
 | m + 1, i, acc, hi, ha, hg => by
  have hil : i < l.length := by omega
  have hki := hk _ (List.getElem_mem hil)
  have h3i := h3 _ (List.getElem_mem hil)
  have hgt := hg i (Nat.le_refl _) hil
  have hc := cmp_lt hki hx
  have hce := cmp_eq hki hx
  have hcp : cmpE l[i].f0 l[i].f1 l[i].f2 x.f0 x.f1 x.f2 > 0 := by
   rcases Int.lt_trichotomy (cmpE l[i].f0 l[i].f1 l[i].f2 x.f0 x.f1 x.f2) 0 with h | h | h
   · exact absurd (hc.1 h) (k_lt_as hgt)
   · exact absurd (hce.1 h) (fun h => by unfold kLt kEq at *; omega)
   · exact h
  refine Ev.step (fun k => by rw [scarfjointref18_change.l0]) ?_
  have hrc := rcmp_in hki (b := ⟨x.f0, x.f1, x.f2, z⟩) hx
  simp only [show ((i : Int) < (l.length : Int)) by omega, show (0 : Int) ≤ (i : Int) by omega, ↓reduceIte, rd75_nat l i hil]
  simp only at hrc
  rw [hrc]
  simp only [Option.bind_some, hcp, ↓reduceIte]
  refine Ev.step (fun k => by rw [scarfjointref18_change.j1]) ?_
  simp only [Bool.not_true, Bool.false_eq_true, ↓reduceIte]
  refine Ev.step (fun k => by rw [scarfjointref18_change.j2]) ?_
  simp only [show ((i : Int) < (l.length : Int)) by omega, show (0 : Int) ≤ (i : Int) by omega, show ¬ (cmpE l[i].f0 l[i].f1 l[i].f2 x.f0 x.f1 x.f2 = 0) by omega, rd75_nat l i hil, show l[i].f3 > 0 by omega, show acc.length < 4398046511104 by omega, ↓reduceIte]
  rw [w64 _ (by omega) (by omega), List.drop_eq_getElem_cons hil]
  have := change_done hx hk h3 z hl m (i + 1) (acc ++ [l[i]]) (by omega) (by simp; omega) (fun h h1 h2 => hg h (by omega) h2)
  rw [List.append_assoc] at this
  exact this
theorem change_loop {B : Int} {l : List S75} {x : S75} (hc : Cnt B l) (hB : B ≤ 1000) (hx : kIn x) (hx3 : -1 ≤ x.f3 ∧ x.f3 ≤ 1000) (z : Int) (hl : l.length ≤ 1000) (hne : x.f3 = -1 → (∃ y ∈ l, kEq y x)) : ∀ (m i : Nat) (acc : List S75), i + m = l.length → acc.length = i → (∀ h, (hh : h < i) → (hl : h < l.length) → kLt l[h] x) →
 Ev (fun k => scarfjointref18_change.l0 k l x.f3 acc false (i : Int) x.f0 x.f1 x.f2 z) (acc ++ addE (l.drop i) x)
 | 0, i, acc, hi, ha, _ => by
  refine Ev.step (fun k => by rw [scarfjointref18_change.l0]) ?_
  rw [List.drop_eq_nil_of_le (by omega)]
  simp only [show ¬ ((i : Int) < (l.length : Int)) by omega, Bool.false_eq_true, show acc.length < 4398046511104 by omega, ↓reduceIte]; exact Ev.now _
 | m + 1, i, acc, hi, ha, hb => by
  have hil : i < l.length := by omega
  have hki := hc.key _ (List.getElem_mem hil)
  have h3i := hc.num _ (List.getElem_mem hil)
  have hcl := cmp_lt hki hx
  have hce := cmp_eq hki hx
  have h3 : ∀ y ∈ l, 1 ≤ y.f3 ∧ y.f3 ≤ 1000 := fun y hy => by have := hc.num y hy; omega
  refine Ev.step (fun k => by rw [scarfjointref18_change.l0]) ?_
  have hrc := rcmp_in hki (b := ⟨x.f0, x.f1, x.f2, z⟩) hx
  simp only [show ((i : Int) < (l.length : Int)) by omega, show (0 : Int) ≤ (i : Int) by omega, ↓reduceIte, rd75_nat l i hil]
  simp only at hrc
  rw [hrc]
  simp only [Option.bind_some]
  rw [List.drop_eq_getElem_cons hil]
  have later : ∀ h, i < h → (hh : h < l.length) → kLt l[i] l[h] := fun h h1 h2 => List.pairwise_iff_getElem.1 hc.srt i h hil h2 h1
  generalize hcv : cmpE l[i].f0 l[i].f1 l[i].f2 x.f0 x.f1 x.f2 = c at hcl hce
  by_cases hlt : kLt l[i] x
  · have hc0 := hcl.2 hlt
    simp only [show ¬ (c > 0) by omega, ↓reduceIte]
    refine Ev.step (fun k => by rw [scarfjointref18_change.j1]) ?_
    simp only [Bool.false_eq_true, ↓reduceIte]
    refine Ev.step (fun k => by rw [scarfjointref18_change.j2]) ?_
    simp only [show ((i : Int) < (l.length : Int)) by omega, show (0 : Int) ≤ (i : Int) by omega, show ¬ (c = 0) by omega, rd75_nat l i hil, show l[i].f3 > 0 by omega, show acc.length < 4398046511104 by omega, ↓reduceIte]
    rw [w64 _ (by omega) (by omega), addE, if_pos hlt]
    have := change_loop hc hB hx hx3 z hl hne m (i + 1) (acc ++ [l[i]]) (by omega) (by simp [ha]) (fun h h1 h2 => by
     rcases Nat.lt_or_eq_of_le (Nat.le_of_lt_succ h1) with h3 | rfl
     · exact hb h h3 h2
     · exact hlt)
    rw [List.append_assoc] at this
    exact this
  · rw [addE, if_neg hlt]
    by_cases heq : kEq l[i] x
    · have hc0 := hce.2 heq
      rw [if_pos heq]
      simp only [hc0, show ¬ ((0 : Int) > 0) by omega, ↓reduceIte]
      refine Ev.step (fun k => by rw [scarfjointref18_change.j1]) ?_
      simp only [Bool.false_eq_true, ↓reduceIte]
      refine Ev.step (fun k => by rw [scarfjointref18_change.j2]) ?_
      simp only [show ((i : Int) < (l.length : Int)) by omega, show (0 : Int) ≤ (i : Int) by omega, rd75_nat l i hil, show acc.length < 4398046511104 by omega, ↓reduceIte]
      rw [w64 (l[i].f3 + x.f3) (by omega) (by omega), w64 _ (by omega) (by omega)]
      have dn := fun acc' ha' => change_done hx hc.key h3 z hl m (i + 1) acc' (by omega) ha' (fun h h1 h2 => k_eq_lt heq (later h (by omega) h2))
      by_cases hz : l[i].f3 + x.f3 = 0
      · simp only [hz, show ¬ ((0 : Int) > 0) by omega, ↓reduceIte]
        exact dn acc (by omega)
      · simp only [show l[i].f3 + x.f3 > 0 by omega, hz, ↓reduceIte]
        have := dn (acc ++ [⟨l[i].f0, l[i].f1, l[i].f2, l[i].f3 + x.f3⟩]) (by simp; omega)
        rw [List.append_assoc] at this
        exact this
    · have hgt : kLt x l[i] := by
       rcases k_tri l[i] x with h | h | h
       · exact absurd h hlt
       · exact absurd h heq
       · exact h
      have hc0 : c > 0 := by
       rcases Int.lt_trichotomy c 0 with h | h | h
       · exact absurd (hcl.1 h) hlt
       · exact absurd (hce.1 h) heq
       · exact h
      rw [if_neg heq]
      simp only [hc0, Bool.not_false, ↓reduceIte]
      refine Ev.step (fun k => by rw [scarfjointref18_change.j1]) ?_
      simp only [show acc.length < 4398046511104 by omega, ↓reduceIte]
      refine Ev.step (fun k => by rw [scarfjointref18_change.j2]) ?_
      simp only [show ((i : Int) < (l.length : Int)) by omega, show (0 : Int) ≤ (i : Int) by omega, show ¬ (c = 0) by omega, rd75_nat l i hil, show l[i].f3 > 0 by omega, show (acc ++ [(⟨x.f0, x.f1, x.f2, x.f3⟩ : S75)]).length < 4398046511104 by simp; omega, ↓reduceIte]
      rw [w64 _ (by omega) (by omega)]
      have := change_done hx hc.key h3 z hl m (i + 1) (acc ++ [x] ++ [l[i]]) (by omega) (by simp; omega) (fun h h1 h2 => k_trans hgt (later h (by omega) h2))
      simp only [List.append_assoc] at this
      simp only [List.append_assoc]
      exact this
theorem change_ev {B : Int} {l : List S75} {x : S75} (hc : Cnt B l) (hB : B ≤ 1000) (hx : kIn x) (hx3 : -1 ≤ x.f3 ∧ x.f3 ≤ 1000) (z : Int) (hl : l.length ≤ 1000) (hne : x.f3 = -1 → (∃ y ∈ l, kEq y x)) :
 Ev (fun k => scarfjointref18_change.f k l x.f0 x.f1 x.f2 z x.f3) (addE l x) := by
 have := change_loop hc hB hx hx3 z hl hne l.length 0 [] (by omega) rfl (fun h h1 => absurd h1 (Nat.not_lt_zero _))
 exact this
theorem add_mem : ∀ {l : List S75} {x y : S75}, y ∈ addE l x → (kEq y x ∨ y ∈ l)
 | [], x, y, h => by
  obtain rfl : y = x := by simpa [addE] using h
  exact Or.inl ⟨rfl, rfl, rfl⟩
 | w :: l, x, y, h => by
  unfold addE at h
  split at h
  · rcases List.mem_cons.1 h with rfl | h
    · exact Or.inr List.mem_cons_self
    · rcases add_mem h with h | h
      · exact Or.inl h
      · exact Or.inr (List.mem_cons_of_mem _ h)
  · split at h
    · next he =>
      split at h
      · exact Or.inr (List.mem_cons_of_mem _ h)
      · rcases List.mem_cons.1 h with rfl | h
        · exact Or.inl he
        · exact Or.inr (List.mem_cons_of_mem _ h)
    · rcases List.mem_cons.1 h with rfl | h
      · exact Or.inl ⟨rfl, rfl, rfl⟩
      · exact Or.inr h
def sumE : List S75 → Int
 | [] => 0
 | y :: l => y.f3 + sumE l
theorem add_sum : ∀ (l : List S75) (x : S75), sumE (addE l x) = sumE l + x.f3
 | [], x => by simp [addE, sumE]
 | w :: l, x => by
  unfold addE
  split
  · rw [sumE, add_sum l x, sumE]; omega
  · split
    · split
      · next hz => rw [sumE]; omega
      · rw [sumE, sumE]; show w.f3 + x.f3 + _ = _; omega
    · rw [sumE]; omega
theorem add_len (l : List S75) (x : S75) : (addE l x).length ≤ l.length + 1 := by
 induction l with
 | nil => simp [addE]
 | cons w l ih =>
  unfold addE
  split
  · simpa using ih
  · split
    · split <;> simp <;> omega
    · simp
theorem sum_ge : ∀ {l : List S75}, (∀ y ∈ l, 1 ≤ y.f3) → ∀ y ∈ l, y.f3 ≤ sumE l
 | [], _, y, h => by cases h
 | w :: l, hn, y, h => by
  have hw := hn w List.mem_cons_self
  have ih := fun z hz => sum_ge (l := l) (fun y hy => hn y (List.mem_cons_of_mem _ hy)) z hz
  have h0 : 0 ≤ sumE l := by
   clear h ih
   have : ∀ l : List S75, (∀ y ∈ l, 1 ≤ y.f3) → 0 ≤ sumE l := fun l => by
    induction l with
    | nil => intro _; exact Int.le_refl _
    | cons a l ih => intro h; have := h a List.mem_cons_self; have := ih (fun y hy => h y (List.mem_cons_of_mem _ hy)); rw [sumE]; omega
   exact this l (fun y hy => hn y (List.mem_cons_of_mem _ hy))
  rw [sumE]
  rcases List.mem_cons.1 h with rfl | h
  · omega
  · have := ih y h; omega
theorem scan_succ (F : Nat → Int) (m i : Nat) : scan F (m + 1) i = if F i = 0 then scan F m (i + 1) else F i := rfl
theorem scan_zero {F : Nat → Int} : ∀ (m i : Nat), scan F m i = 0 → ∀ j, i ≤ j → j < i + m → F j = 0
 | 0, i, h, j, h1, h2 => by omega
 | m + 1, i, h, j, h1, h2 => by
  unfold scan at h
  split at h
  · next h0 =>
    rcases Nat.lt_or_eq_of_le h1 with h3 | rfl
    · exact scan_zero m (i + 1) h j h3 (by omega)
    · exact h0
  · next h0 => exact absurd h h0
theorem scan_all {F : Nat → Int} : ∀ (m i : Nat), (∀ j, i ≤ j → j < i + m → F j = 0) → scan F m i = 0
 | 0, i, _ => rfl
 | m + 1, i, h => by
  unfold scan
  rw [if_pos (h i (Nat.le_refl _) (by omega))]
  exact scan_all m (i + 1) (fun j h1 h2 => h j (by omega) (by omega))
section typed
variable (l : List S96) (l1 : List S101) (hg : Good l) (h : Small l) (h1g : ∀ x ∈ l1, good101 x) (h1l : l1.length ≤ 30) (g : List Int) (es : List S56)
include hg h h1g h1l
end typed
section of
variable (l : List S96) (l1 : List S101) (hg : Good l) (h : Small l) (h1g : ∀ x ∈ l1, good101 x) (h1l : l1.length ≤ 30) (g : List Int) (es : List S56)
include hg h h1g h1l
end of
theorem same_loop (a : List S75) (ha : a.length ≤ 1000) : ∀ (m i : Nat), i + m = a.length → Ev (fun k => scarfjointref18_SameCounts.l0 k a a (i : Int)) true
 | 0, i, hi => by
  refine Ev.step (fun k => by rw [scarfjointref18_SameCounts.l0]) ?_
  simp only [show ¬ ((i : Int) < (a.length : Int)) by omega, ↓reduceIte]; exact Ev.now _
 | m + 1, i, hi => by
  refine Ev.step (fun k => by rw [scarfjointref18_SameCounts.l0]) ?_
  simp only [show ((i : Int) < (a.length : Int)) by omega, show (0 : Int) ≤ (i : Int) by omega, beq_self_eq_true, Bool.not_true, Bool.or_self, Bool.false_eq_true, ↓reduceIte]
  rw [w64 _ (by omega) (by omega)]
  exact same_loop a ha m (i + 1) (by omega)
theorem same_ev (a b : List S75) (ha : a.length ≤ 1000) (hb : b.length ≤ 1000) : Ev (fun k => scarfjointref18_Same.f k a b a b) true := by
 unfold scarfjointref18_Same.f scarfjointref18_SameCounts.f
 simp only [↓reduceIte]
 refine Ev.bind (same_loop a ha a.length 0 (by omega)) ?_
 simp only [↓reduceIte]
 refine Ev.bind (same_loop b hb b.length 0 (by omega)) ?_
 exact Ev.now _
def isIn (a n : Int) : Bool := decide (0 ≤ a) && decide (a < n)
theorem is_f (a n : Int) : statistic_is.f a n = some (isIn a n) := by
 unfold statistic_is.f isIn
 by_cases h : 0 ≤ a
 · rw [if_pos h]; simp [h]
 · rw [if_neg h]; simp [h]
def cmpAtE (l : List S75) (i : Nat) : Int := cmpE (rd_T75 l ((i : Int) - 1)).f0 (rd_T75 l ((i : Int) - 1)).f1 (rd_T75 l ((i : Int) - 1)).f2 (rd_T75 l (i : Int)).f0 (rd_T75 l (i : Int)).f1 (rd_T75 l (i : Int)).f2
def ordE (l : List S75) (i : Nat) : Int := if 0 < i then (if cmpAtE l i ≥ 0 then 12 else 0) else 0
def nBad (l : List S96) (c : S75) : Bool := !(isIn c.f0 (l.length : Int) && (decide (c.f1 = 0) && (decide (c.f2 = 0) && (decide (1 ≤ c.f3) && decide (c.f3 ≤ 40)))))
def sN (l : List S96) (ns : List S75) (i : Nat) : Int := if nBad l (rd_T75 ns (i : Int)) = true then 6 else ordE ns i
def eBad (l : List S96) (l1 : List S101) (c : S75) : Bool := !(isIn c.f0 (l1.length : Int) && (isIn c.f1 (l.length : Int) && (isIn c.f2 (l.length : Int) && (decide (1 ≤ c.f3) && decide (c.f3 ≤ 80)))))
def hasE (ns : List S75) (a : Int) : Bool := ns.any fun c => c.f0 == a
def sE (l : List S96) (l1 : List S101) (ns es : List S75) (i : Nat) : Int := if eBad l l1 (rd_T75 es (i : Int)) = true then 6 else if fitsE l l1 (rd_T75 es (i : Int)).f0 (rd_T75 es (i : Int)).f1 (rd_T75 es (i : Int)).f2 = true then (if (hasE ns (rd_T75 es (i : Int)).f1 && hasE ns (rd_T75 es (i : Int)).f2) = true then ordE es i else 10) else 13
def sumV (es : List S75) : Int := if sumE es > 80 then 3 else 0
def sEdgesV (l : List S96) (l1 : List S101) (ns es : List S75) : Int := if scan (sE l l1 ns es) es.length 0 = 0 then sumV es else scan (sE l l1 ns es) es.length 0
def sNodesV (l : List S96) (l1 : List S101) (ns es : List S75) : Int := if sumE ns > 40 then 3 else sEdgesV l l1 ns es
def sValidE (l : List S96) (l1 : List S101) (ns es : List S75) : Int := if (validE l l1).2 = 0 then (if scan (sN l ns) ns.length 0 = 0 then sNodesV l l1 ns es else scan (sN l ns) ns.length 0) else (validE l l1).2
theorem total_loop (l : List S75) (hl : l.length ≤ 1000) (hn : ∀ y ∈ l, 1 ≤ y.f3 ∧ y.f3 ≤ 80) : ∀ (m i : Nat) (a : Int), i + m = l.length → 0 ≤ a ∧ a ≤ 80 * (i : Int) → Ev (fun k => statistic_total.l0 k a l (l.length : Int) (i : Int)) (a + sumE (l.drop i))
 | 0, i, a, hi, ha => by
  refine Ev.step (fun k => by rw [statistic_total.l0]) ?_
  rw [List.drop_eq_nil_of_le (by omega)]
  simp only [show ¬ ((i : Int) < (l.length : Int)) by omega, ↓reduceIte, sumE, Int.add_zero]; exact Ev.now _
 | m + 1, i, a, hi, ha => by
  have hil : i < l.length := by omega
  have hy := hn _ (List.getElem_mem hil)
  refine Ev.step (fun k => by rw [statistic_total.l0]) ?_
  simp only [show ((i : Int) < (l.length : Int)) by omega, show (0 : Int) ≤ (i : Int) by omega, ↓reduceIte, rd75_nat l i hil]
  rw [w64 _ (by omega) (by omega), w64 _ (by omega) (by omega), List.drop_eq_getElem_cons hil, sumE, ← Int.add_assoc]
  exact total_loop l hl hn m (i + 1) _ (by omega) (by omega)
theorem total_ev (l : List S75) (hl : l.length ≤ 1000) (hn : ∀ y ∈ l, 1 ≤ y.f3 ∧ y.f3 ≤ 80) : Ev (fun k => statistic_total.f k l) (sumE l) := by
 have := total_loop l hl hn l.length 0 0 (by omega) (by omega)
 rw [Int.zero_add, List.drop_zero] at this
 exact this
theorem compare_ev (a0 a1 a2 a3 b0 b1 b2 b3 : Int) : Ev (fun k => statistic_compare.f k a0 a1 a2 a3 b0 b1 b2 b3) (cmpE a0 a1 a2 b0 b1 b2) := Ev.of (fun k => statistic_compare.mono _ _ _ _ _ _ _ _ k) (k := 5) (compare_f a0 a1 a2 a3 b0 b1 b2 b3)
section sval
variable (l : List S96) (l1 : List S101) (hg : Good l) (h : Small l) (h1g : ∀ x ∈ l1, good101 x) (h1l : l1.length ≤ 30) (ns es : List S75) (hn : ns.length ≤ 1000) (he : es.length ≤ 1000)
include hg h h1g h1l hn he
theorem sval_edges : ∀ (m i : Nat), i + m = es.length → (∀ j, j < i → sE l l1 ns es j = 0) → Ev (fun k => statistic_Valid.l1 k es (es.length : Int) (i : Int) l l1 ns es) (if scan (sE l l1 ns es) m i = 0 then sumV es else scan (sE l l1 ns es) m i)
 | 0, i, hi, hp => by
  refine Ev.step (fun k => by rw [statistic_Valid.l1]) ?_
  simp only [show ¬ ((i : Int) < (es.length : Int)) by omega, ↓reduceIte, scan]
  refine Ev.bind (total_ev es he (fun y hy => ?_)) ?_
  · obtain ⟨j, hj, rfl⟩ := List.getElem_of_mem hy
    have := hp j (by omega)
    unfold sE at this
    split at this
    · exact absurd this (by decide)
    · next hb =>
      rw [rd75_nat _ _ hj] at hb
      simp [eBad] at hb
      omega
  · unfold sumV
    by_cases hs : sumE es > 80
    · simp only [hs, ↓reduceIte]; exact Ev.now _
    · simp only [hs, ↓reduceIte]; exact Ev.now _
 | m + 1, i, hi, hp => by
  have next_ : sE l l1 ns es i = 0 → Ev (fun k => statistic_Valid.l1 k es (es.length : Int) (wrap64 ((i : Int) + 1)) l l1 ns es) (if scan (sE l l1 ns es) (m + 1) i = 0 then sumV es else scan (sE l l1 ns es) (m + 1) i) := fun h0 => by
   rw [scan_succ, if_pos h0, w64 _ (by omega) (by omega)]
   exact sval_edges m (i + 1) (by omega) (fun j hj => by
    rcases Nat.lt_or_eq_of_le (Nat.le_of_lt_succ hj) with h1 | rfl
    · exact hp j h1
    · exact h0)
  have stop_ : ∀ e : Int, sE l l1 ns es i = e → e ≠ 0 → (if scan (sE l l1 ns es) (m + 1) i = 0 then sumV es else scan (sE l l1 ns es) (m + 1) i) = e := fun e h1 h2 => by
   rw [scan_succ, h1, if_neg h2, if_neg h2]
  refine Ev.step (fun k => by rw [statistic_Valid.l1]) ?_
  simp only [show ((i : Int) < (es.length : Int)) by omega, show (0 : Int) ≤ (i : Int) by omega, ↓reduceIte, is_f, Option.bind_some]
  generalize hc : rd_T75 es (i : Int) = c
  have bad : eBad l l1 c = true → Ev (fun k => statistic_Valid.j3 k (i : Int) es (es.length : Int) (i : Int) true l l1 ns es c.f0 c.f1 c.f2 c.f3) (if scan (sE l l1 ns es) (m + 1) i = 0 then sumV es else scan (sE l l1 ns es) (m + 1) i) := fun hb => by
   rw [stop_ 6 (by unfold sE; rw [hc, if_pos hb]) (by decide)]
   refine Ev.step (fun k => by rw [statistic_Valid.j3]) ?_
   simp only [↓reduceIte]; exact Ev.now _
  have j4 : eBad l l1 c = false → fitsE l l1 c.f0 c.f1 c.f2 = true → ∀ b : Bool, b = !(hasE ns c.f1 && hasE ns c.f2) → Ev (fun k => statistic_Valid.j4 k (i : Int) es (es.length : Int) (i : Int) b l l1 ns es c.f0 c.f1 c.f2 c.f3) (if scan (sE l l1 ns es) (m + 1) i = 0 then sumV es else scan (sE l l1 ns es) (m + 1) i) := fun hb hf b hbb => by
   refine Ev.step (fun k => by rw [statistic_Valid.j4]) ?_
   cases hh : (hasE ns c.f1 && hasE ns c.f2)
   · rw [hh] at hbb
     rw [stop_ 10 (by unfold sE; rw [hc, if_neg (by simp [hb]), if_pos hf, if_neg (by simp [hh])]) (by decide), hbb]
     simp only [Bool.not_false, ↓reduceIte]; exact Ev.now _
   · rw [hh] at hbb
     have e0 : sE l l1 ns es i = ordE es i := by unfold sE; rw [hc, if_neg (by simp [hb]), if_pos hf, if_pos hh]
     rw [hbb]
     simp only [Bool.not_true, Bool.false_eq_true, ↓reduceIte]
     by_cases hi0 : 0 < i
     · rw [w64 ((i : Int) - 1) (by omega) (by omega)]
       simp only [show (i : Int) > 0 by omega, show (0 : Int) ≤ (i : Int) - 1 by omega, show (i : Int) - 1 < (es.length : Int) by omega, ↓reduceIte]
       refine Ev.bind (compare_ev _ _ _ _ _ _ _ _) ?_
       have e1 : ordE es i = if cmpE (rd_T75 es ((i : Int) - 1)).f0 (rd_T75 es ((i : Int) - 1)).f1 (rd_T75 es ((i : Int) - 1)).f2 c.f0 c.f1 c.f2 ≥ 0 then 12 else 0 := by
        unfold ordE cmpAtE; rw [if_pos hi0, hc]
       by_cases ho : cmpE (rd_T75 es ((i : Int) - 1)).f0 (rd_T75 es ((i : Int) - 1)).f1 (rd_T75 es ((i : Int) - 1)).f2 c.f0 c.f1 c.f2 ≥ 0
       · rw [if_pos ho] at e1
         rw [stop_ 12 (by rw [e0, e1]) (by decide)]
         simp only [ho, ↓reduceIte]; exact Ev.now _
       · rw [if_neg ho] at e1
         simp only [ho, ↓reduceIte]
         exact next_ (by rw [e0, e1])
     · simp only [show ¬ ((i : Int) > 0) by omega, ↓reduceIte]
       exact next_ (by rw [e0]; unfold ordE; rw [if_neg hi0])
  have good : eBad l l1 c = false → Ev (fun k => statistic_Valid.j3 k (i : Int) es (es.length : Int) (i : Int) false l l1 ns es c.f0 c.f1 c.f2 c.f3) (if scan (sE l l1 ns es) (m + 1) i = 0 then sumV es else scan (sE l l1 ns es) (m + 1) i) := fun hb => by
   refine Ev.step (fun k => by rw [statistic_Valid.j3]) ?_
   simp only [Bool.false_eq_true, ↓reduceIte]
   refine Ev.bind (Fits_ev l l1 hg h h1g h1l _ _ _) ?_
   cases hf : fitsE l l1 c.f0 c.f1 c.f2
   · rw [stop_ 13 (by unfold sE; rw [hc, if_neg (by simp [hb]), if_neg (by simp [hf])]) (by decide)]
     simp only [Bool.false_eq_true, ↓reduceIte]; exact Ev.now _
   · simp only [↓reduceIte, statistic_has.f, any_has.f, Option.bind_some]
     have j := j4 hb hf
     unfold hasE at j
     cases h1 : ns.any (fun m => m.f0 == c.f1)
     · simp only [Bool.false_eq_true, ↓reduceIte]; exact j true (by rw [h1]; rfl)
     · simp only [↓reduceIte]; exact j _ (by rw [h1]; rfl)
  cases h0 : isIn c.f0 (l1.length : Int)
  · simp only [Bool.false_eq_true, ↓reduceIte]; exact bad (by simp [eBad, h0])
  · simp only [↓reduceIte]
    cases h1 : isIn c.f1 (l.length : Int)
    · simp only [Bool.false_eq_true, ↓reduceIte]; exact bad (by simp [eBad, h1])
    · simp only [↓reduceIte]
      cases h2 : isIn c.f2 (l.length : Int)
      · simp only [Bool.false_eq_true, ↓reduceIte]; exact bad (by simp [eBad, h2])
      · simp only [↓reduceIte]
        by_cases h3 : c.f3 < 1
        · simp only [h3, ↓reduceIte]; exact bad (by simp [eBad]; omega)
        · simp only [h3, ↓reduceIte]
          by_cases h4 : c.f3 > 80
          · rw [decide_eq_true h4]; exact bad (by simp [eBad]; omega)
          · rw [decide_eq_false h4]; exact good (by simp [eBad, h0, h1, h2]; omega)
theorem sval_nodes : ∀ (m i : Nat), i + m = ns.length → (∀ j, j < i → sN l ns j = 0) → Ev (fun k => statistic_Valid.l0 k ns (ns.length : Int) (i : Int) l l1 ns es) (if scan (sN l ns) m i = 0 then sNodesV l l1 ns es else scan (sN l ns) m i)
 | 0, i, hi, hp => by
  refine Ev.step (fun k => by rw [statistic_Valid.l0]) ?_
  simp only [show ¬ ((i : Int) < (ns.length : Int)) by omega, ↓reduceIte, scan]
  refine Ev.bind (total_ev ns hn (fun y hy => ?_)) ?_
  · obtain ⟨j, hj, rfl⟩ := List.getElem_of_mem hy
    have := hp j (by omega)
    unfold sN at this
    split at this
    · exact absurd this (by decide)
    · next hb =>
      rw [rd75_nat _ _ hj] at hb
      simp [nBad] at hb
      omega
  · unfold sNodesV
    by_cases hs : sumE ns > 40
    · simp only [hs, ↓reduceIte]; exact Ev.now _
    · simp only [hs, ↓reduceIte]
      exact sval_edges l l1 hg h h1g h1l ns es hn he es.length 0 (by omega) (fun j hj => absurd hj (Nat.not_lt_zero _))
 | m + 1, i, hi, hp => by
  have next_ : sN l ns i = 0 → Ev (fun k => statistic_Valid.l0 k ns (ns.length : Int) (wrap64 ((i : Int) + 1)) l l1 ns es) (if scan (sN l ns) (m + 1) i = 0 then sNodesV l l1 ns es else scan (sN l ns) (m + 1) i) := fun h0 => by
   rw [scan_succ, if_pos h0, w64 _ (by omega) (by omega)]
   exact sval_nodes m (i + 1) (by omega) (fun j hj => by
    rcases Nat.lt_or_eq_of_le (Nat.le_of_lt_succ hj) with h1 | rfl
    · exact hp j h1
    · exact h0)
  have stop_ : ∀ e : Int, sN l ns i = e → e ≠ 0 → (if scan (sN l ns) (m + 1) i = 0 then sNodesV l l1 ns es else scan (sN l ns) (m + 1) i) = e := fun e h1 h2 => by
   rw [scan_succ, h1, if_neg h2, if_neg h2]
  refine Ev.step (fun k => by rw [statistic_Valid.l0]) ?_
  simp only [show ((i : Int) < (ns.length : Int)) by omega, show (0 : Int) ≤ (i : Int) by omega, ↓reduceIte, is_f, Option.bind_some]
  generalize hc : rd_T75 ns (i : Int) = c
  have bad : nBad l c = true → Ev (fun k => statistic_Valid.j1 k (i : Int) ns (ns.length : Int) (i : Int) true l l1 ns es c.f0 c.f1 c.f2 c.f3) (if scan (sN l ns) (m + 1) i = 0 then sNodesV l l1 ns es else scan (sN l ns) (m + 1) i) := fun hb => by
   rw [stop_ 6 (by unfold sN; rw [hc, if_pos hb]) (by decide)]
   refine Ev.step (fun k => by rw [statistic_Valid.j1]) ?_
   simp only [↓reduceIte]; exact Ev.now _
  have good : nBad l c = false → Ev (fun k => statistic_Valid.j1 k (i : Int) ns (ns.length : Int) (i : Int) false l l1 ns es c.f0 c.f1 c.f2 c.f3) (if scan (sN l ns) (m + 1) i = 0 then sNodesV l l1 ns es else scan (sN l ns) (m + 1) i) := fun hb => by
   have e0 : sN l ns i = ordE ns i := by unfold sN; rw [hc, if_neg (by simp [hb])]
   refine Ev.step (fun k => by rw [statistic_Valid.j1]) ?_
   simp only [Bool.false_eq_true, ↓reduceIte]
   by_cases hi0 : 0 < i
   · rw [w64 ((i : Int) - 1) (by omega) (by omega)]
     simp only [show (i : Int) > 0 by omega, show (0 : Int) ≤ (i : Int) - 1 by omega, show (i : Int) - 1 < (ns.length : Int) by omega, ↓reduceIte]
     refine Ev.bind (compare_ev _ _ _ _ _ _ _ _) ?_
     have e1 : ordE ns i = if cmpE (rd_T75 ns ((i : Int) - 1)).f0 (rd_T75 ns ((i : Int) - 1)).f1 (rd_T75 ns ((i : Int) - 1)).f2 c.f0 c.f1 c.f2 ≥ 0 then 12 else 0 := by
      unfold ordE cmpAtE; rw [if_pos hi0, hc]
     by_cases ho : cmpE (rd_T75 ns ((i : Int) - 1)).f0 (rd_T75 ns ((i : Int) - 1)).f1 (rd_T75 ns ((i : Int) - 1)).f2 c.f0 c.f1 c.f2 ≥ 0
     · rw [if_pos ho] at e1
       rw [stop_ 12 (by rw [e0, e1]) (by decide)]
       simp only [ho, ↓reduceIte]; exact Ev.now _
     · rw [if_neg ho] at e1
       simp only [ho, ↓reduceIte]
       exact next_ (by rw [e0, e1])
   · simp only [show ¬ ((i : Int) > 0) by omega, ↓reduceIte]
     exact next_ (by rw [e0]; unfold ordE; rw [if_neg hi0])
  cases h0 : isIn c.f0 (l.length : Int)
  · simp only [Bool.false_eq_true, ↓reduceIte]; exact bad (by simp [nBad, h0])
  · simp only [↓reduceIte]
    by_cases h1 : c.f1 = 0
    · simp only [h1, ↓reduceIte]
      rw [h1] at bad good
      by_cases h2 : c.f2 = 0
      · simp only [h2, ↓reduceIte]
        rw [h2] at bad good
        by_cases h3 : c.f3 < 1
        · simp only [h3, ↓reduceIte]; exact bad (by simp [nBad]; omega)
        · simp only [h3, ↓reduceIte]
          by_cases h4 : c.f3 > 40
          · rw [decide_eq_true h4]; exact bad (by simp [nBad]; omega)
          · rw [decide_eq_false h4]; exact good (by simp [nBad, h0, h1, h2]; omega)
      · simp only [h2, ↓reduceIte]; exact bad (by simp [nBad, h2])
    · simp only [h1, ↓reduceIte]; exact bad (by simp [nBad, h1])
theorem sval_ev : Ev (fun k => statistic_Valid.f k l l1 ns es) (sValidE l l1 ns es) := by
 unfold statistic_Valid.f sValidE
 refine Ev.bind (valid_ev l l1 hg h h1g h1l) ?_
 by_cases hv : (validE l l1).2 = 0
 · simp only [hv, ↓reduceIte]; exact sval_nodes l l1 hg h h1g h1l ns es hn he ns.length 0 (by omega) (fun j hj => absurd hj (Nat.not_lt_zero _))
 · simp only [hv, ↓reduceIte]; exact Ev.now _
end sval
theorem ord_ok {B : Int} {l : List S75} (hc : Cnt B l) (i : Nat) (hi : i < l.length) : ordE l i = 0 := by
 unfold ordE
 by_cases h0 : 0 < i
 · have hk : kLt l[i - 1] l[i] := List.pairwise_iff_getElem.1 hc.srt (i - 1) i (by omega) hi (by omega)
   have := (cmp_lt (hc.key _ (List.getElem_mem (by omega : i - 1 < l.length))) (hc.key _ (List.getElem_mem hi))).2 hk
   rw [if_pos h0, if_neg]
   unfold cmpAtE
   rw [show ((i : Int) - 1) = ((i - 1 : Nat) : Int) by omega, rd75_nat _ _ (by omega), rd75_nat _ _ hi]
   omega
 · rw [if_neg h0]
theorem ris_f (a n : Int) : scarfjointref18_is.f a n = some (isIn a n) := by
 unfold scarfjointref18_is.f isIn
 by_cases h : 0 ≤ a
 · rw [if_pos h]; simp [h]
 · rw [if_neg h]; simp [h]
theorem rtotal_loop (l : List S75) (hl : l.length ≤ 1000) (hn : ∀ y ∈ l, 1 ≤ y.f3 ∧ y.f3 ≤ 80) : ∀ (m i : Nat) (a : Int), i + m = l.length → 0 ≤ a ∧ a ≤ 80 * (i : Int) → Ev (fun k => scarfjointref18_total.l0 k l a (i : Int)) (a + sumE (l.drop i))
 | 0, i, a, hi, ha => by
  refine Ev.step (fun k => by rw [scarfjointref18_total.l0]) ?_
  rw [List.drop_eq_nil_of_le (by omega)]
  simp only [show ¬ ((i : Int) < (l.length : Int)) by omega, ↓reduceIte, sumE, Int.add_zero]; exact Ev.now _
 | m + 1, i, a, hi, ha => by
  have hil : i < l.length := by omega
  have hy := hn _ (List.getElem_mem hil)
  refine Ev.step (fun k => by rw [scarfjointref18_total.l0]) ?_
  simp only [show ((i : Int) < (l.length : Int)) by omega, show (0 : Int) ≤ (i : Int) by omega, ↓reduceIte, rd75_nat l i hil]
  rw [w64 _ (by omega) (by omega), w64 _ (by omega) (by omega), List.drop_eq_getElem_cons hil, sumE, ← Int.add_assoc]
  exact rtotal_loop l hl hn m (i + 1) _ (by omega) (by omega)
theorem rtotal_ev (l : List S75) (hl : l.length ≤ 1000) (hn : ∀ y ∈ l, 1 ≤ y.f3 ∧ y.f3 ≤ 80) : Ev (fun k => scarfjointref18_total.f k l) (sumE l) := by
 have := rtotal_loop l hl hn l.length 0 0 (by omega) (by omega)
 rw [Int.zero_add, List.drop_zero] at this
 exact this
theorem n_kIn_of {l : List S96} {c : S75} (h : Small l) (hb : nBad l c = false) : kIn c := by
 have := h.1
 simp [nBad, isIn] at hb
 unfold kIn; omega
theorem n_kIn {l : List S96} {ns : List S75} {i : Nat} (h : Small l) (hz : sN l ns i = 0) : kIn (rd_T75 ns (i : Int)) := by
 unfold sN at hz
 split at hz
 · exact absurd hz (by decide)
 · next hb => exact n_kIn_of h (by simpa using hb)
theorem e_kIn_of {l : List S96} {l1 : List S101} {c : S75} (h : Small l) (h1l : l1.length ≤ 30) (hb : eBad l l1 c = false) : kIn c := by
 have := h.1
 simp [eBad, isIn] at hb
 unfold kIn; omega
theorem e_kIn {l : List S96} {l1 : List S101} {ns es : List S75} {i : Nat} (h : Small l) (h1l : l1.length ≤ 30) (hz : sE l l1 ns es i = 0) : kIn (rd_T75 es (i : Int)) := by
 unfold sE at hz
 split at hz
 · exact absurd hz (by decide)
 · next hb => exact e_kIn_of h h1l (by simpa using hb)
theorem n_facts {l : List S96} {ns : List S75} {i : Nat} (hz : sN l ns i = 0) : (rd_T75 ns (i : Int)).f1 = 0 ∧ (rd_T75 ns (i : Int)).f2 = 0 ∧ 1 ≤ (rd_T75 ns (i : Int)).f3 ∧ (rd_T75 ns (i : Int)).f3 ≤ 40 := by
 unfold sN at hz
 split at hz
 · exact absurd hz (by decide)
 · next hb => simp [nBad] at hb; omega
theorem number_loop {l : List S96} (h : Small l) (ns : List S75) (hn : ns.length ≤ 1000) (hok : ∀ j, j < ns.length → sN l ns j = 0) (a : Int) (ha : 0 ≤ a ∧ a ≤ 1000) : ∀ (m i : Nat), i + m = ns.length →
 ∃ r, Ev (fun k => scarfjointref18_number.l0 k ns (i : Int) a 0 0 0) r ∧ (r = 0 → (ns.drop i).any (fun c => c.f0 == a) = false) ∧ ((ns.drop i).any (fun c => c.f0 == a) = false → r = 0)
 | 0, i, hi => ⟨0, by
  refine Ev.step (fun k => by rw [scarfjointref18_number.l0]) ?_
  simp only [show ¬ ((i : Int) < (ns.length : Int)) by omega, ↓reduceIte]; exact Ev.now _, fun _ => by rw [List.drop_eq_nil_of_le (by omega)]; rfl, fun _ => rfl⟩
 | m + 1, i, hi => by
  have hil : i < ns.length := by omega
  have hz := hok i hil
  have hk := n_kIn h hz
  have hf := n_facts hz
  rw [rd75_nat ns i hil] at hk hf
  have hb : kIn (⟨a, 0, 0, 0⟩ : S75) := ⟨ha, ⟨(by decide : (0 : Int) ≤ 0), (by decide : (0 : Int) ≤ 1000)⟩, ⟨(by decide : (0 : Int) ≤ 0), (by decide : (0 : Int) ≤ 1000)⟩⟩
  have hc := rcmp_in hk hb
  have he := cmp_eq hk hb
  simp only at hc he
  rw [List.drop_eq_getElem_cons hil, List.any_cons]
  by_cases hq : ns[i].f0 = a
  · have h0 := he.2 ⟨hq, hf.1, hf.2.1⟩
    refine ⟨ns[i].f3, Ev.step (fun k => by rw [scarfjointref18_number.l0]) ?_, fun hh => by omega, fun hh => by simp [hq] at hh⟩
    simp only [show ((i : Int) < (ns.length : Int)) by omega, show (0 : Int) ≤ (i : Int) by omega, ↓reduceIte, rd75_nat ns i hil]
    rw [hc, h0]
    simp only [Option.bind_some, ↓reduceIte]; exact Ev.now _
  · have h0 : ¬ (cmpE ns[i].f0 ns[i].f1 ns[i].f2 a 0 0 = 0) := fun hh => hq (he.1 hh).1
    obtain ⟨r, hr, e1, e2⟩ := number_loop h ns hn hok a ha m (i + 1) (by omega)
    refine ⟨r, Ev.step (fun k => by rw [scarfjointref18_number.l0]) ?_, fun hh => by rw [e1 hh]; simp [hq], fun hh => e2 (by simp [hq] at hh; simpa using hh)⟩
    simp only [show ((i : Int) < (ns.length : Int)) by omega, show (0 : Int) ≤ (i : Int) by omega, ↓reduceIte, rd75_nat ns i hil]
    rw [hc]
    simp only [Option.bind_some, h0, ↓reduceIte]
    rw [w64 _ (by omega) (by omega)]
    exact hr
theorem number_ev {l : List S96} (h : Small l) (ns : List S75) (hn : ns.length ≤ 1000) (hok : ∀ j, j < ns.length → sN l ns j = 0) (a : Int) (ha : 0 ≤ a ∧ a ≤ 1000) :
 ∃ r, Ev (fun k => scarfjointref18_number.f k ns a 0 0 0) r ∧ (r = 0 → hasE ns a = false) ∧ (hasE ns a = false → r = 0) := by
 obtain ⟨r, h1, h2, h3⟩ := number_loop h ns hn hok a ha ns.length 0 (by omega)
 exact ⟨r, h1, h2, h3⟩
section sval
variable (l : List S96) (l1 : List S101) (hg : Good l) (h : Small l) (h1g : ∀ x ∈ l1, good101 x) (h1l : l1.length ≤ 30) (ns es : List S75) (hn : ns.length ≤ 1000) (he : es.length ≤ 1000)
include hg h h1g h1l hn he
theorem rsval_edges (hok : ∀ j, j < ns.length → sN l ns j = 0) : ∀ (m i : Nat), i + m = es.length → (∀ j, j < i → sE l l1 ns es j = 0) → Ev (fun k => scarfjointref18_Valid.l1 k (i : Int) l l1 ns es) (if scan (sE l l1 ns es) m i = 0 then sumV es else scan (sE l l1 ns es) m i)
 | 0, i, hi, hp => by
  refine Ev.step (fun k => by rw [scarfjointref18_Valid.l1]) ?_
  simp only [show ¬ ((i : Int) < (es.length : Int)) by omega, ↓reduceIte, scan]
  refine Ev.bind (rtotal_ev es he (fun y hy => ?_)) ?_
  · obtain ⟨j, hj, rfl⟩ := List.getElem_of_mem hy
    have := hp j (by omega)
    unfold sE at this
    split at this
    · exact absurd this (by decide)
    · next hb =>
      rw [rd75_nat _ _ hj] at hb
      simp [eBad] at hb
      omega
  · unfold sumV
    by_cases hs : sumE es > 80
    · simp only [hs, ↓reduceIte]; exact Ev.now _
    · simp only [hs, ↓reduceIte]; exact Ev.now _
 | m + 1, i, hi, hp => by
  have next_ : sE l l1 ns es i = 0 → Ev (fun k => scarfjointref18_Valid.l1 k (wrap64 ((i : Int) + 1)) l l1 ns es) (if scan (sE l l1 ns es) (m + 1) i = 0 then sumV es else scan (sE l l1 ns es) (m + 1) i) := fun h0 => by
   rw [scan_succ, if_pos h0, w64 _ (by omega) (by omega)]
   exact rsval_edges hok m (i + 1) (by omega) (fun j hj => by
    rcases Nat.lt_or_eq_of_le (Nat.le_of_lt_succ hj) with h1 | rfl
    · exact hp j h1
    · exact h0)
  have stop_ : ∀ e : Int, sE l l1 ns es i = e → e ≠ 0 → (if scan (sE l l1 ns es) (m + 1) i = 0 then sumV es else scan (sE l l1 ns es) (m + 1) i) = e := fun e h1 h2 => by
   rw [scan_succ, h1, if_neg h2, if_neg h2]
  refine Ev.step (fun k => by rw [scarfjointref18_Valid.l1]) ?_
  simp only [show ((i : Int) < (es.length : Int)) by omega, show (0 : Int) ≤ (i : Int) by omega, ↓reduceIte, ris_f, Option.bind_some]
  generalize hc : rd_T75 es (i : Int) = c
  have bad : eBad l l1 c = true → Ev (fun k => scarfjointref18_Valid.j3 k (i : Int) true l l1 ns es c.f0 c.f1 c.f2 c.f3) (if scan (sE l l1 ns es) (m + 1) i = 0 then sumV es else scan (sE l l1 ns es) (m + 1) i) := fun hb => by
   rw [stop_ 6 (by unfold sE; rw [hc, if_pos hb]) (by decide)]
   refine Ev.step (fun k => by rw [scarfjointref18_Valid.j3]) ?_
   simp only [↓reduceIte]; exact Ev.now _
  have j4 : eBad l l1 c = false → fitsE l l1 c.f0 c.f1 c.f2 = true → ∀ b : Bool, b = !(hasE ns c.f1 && hasE ns c.f2) → Ev (fun k => scarfjointref18_Valid.j4 k (i : Int) b l l1 ns es c.f0 c.f1 c.f2 c.f3) (if scan (sE l l1 ns es) (m + 1) i = 0 then sumV es else scan (sE l l1 ns es) (m + 1) i) := fun hb hf b hbb => by
   refine Ev.step (fun k => by rw [scarfjointref18_Valid.j4]) ?_
   cases hh : (hasE ns c.f1 && hasE ns c.f2)
   · rw [hh] at hbb
     rw [stop_ 10 (by unfold sE; rw [hc, if_neg (by simp [hb]), if_pos hf, if_neg (by simp [hh])]) (by decide), hbb]
     simp only [Bool.not_false, ↓reduceIte]; exact Ev.now _
   · rw [hh] at hbb
     have e0 : sE l l1 ns es i = ordE es i := by unfold sE; rw [hc, if_neg (by simp [hb]), if_pos hf, if_pos hh]
     rw [hbb]
     simp only [Bool.not_true, Bool.false_eq_true, ↓reduceIte]
     by_cases hi0 : 0 < i
     · rw [w64 ((i : Int) - 1) (by omega) (by omega)]
       simp only [show (i : Int) > 0 by omega, show (0 : Int) ≤ (i : Int) - 1 by omega, show (i : Int) - 1 < (es.length : Int) by omega, ↓reduceIte]
       have hci := rcmp_in (a := rd_T75 es ((i : Int) - 1)) (b := c) (by rw [show ((i : Int) - 1) = ((i - 1 : Nat) : Int) by omega]; exact e_kIn h h1l (hp (i - 1) (by omega))) (e_kIn_of h h1l hb)
       rw [hci]
       simp only [Option.bind_some]
       have e1 : ordE es i = if cmpE (rd_T75 es ((i : Int) - 1)).f0 (rd_T75 es ((i : Int) - 1)).f1 (rd_T75 es ((i : Int) - 1)).f2 c.f0 c.f1 c.f2 ≥ 0 then 12 else 0 := by
        unfold ordE cmpAtE; rw [if_pos hi0, hc]
       by_cases ho : cmpE (rd_T75 es ((i : Int) - 1)).f0 (rd_T75 es ((i : Int) - 1)).f1 (rd_T75 es ((i : Int) - 1)).f2 c.f0 c.f1 c.f2 ≥ 0
       · rw [if_pos ho] at e1
         rw [stop_ 12 (by rw [e0, e1]) (by decide)]
         simp only [ho, ↓reduceIte]; exact Ev.now _
       · rw [if_neg ho] at e1
         simp only [ho, ↓reduceIte]
         exact next_ (by rw [e0, e1])
     · simp only [show ¬ ((i : Int) > 0) by omega, ↓reduceIte]
       exact next_ (by rw [e0]; unfold ordE; rw [if_neg hi0])
  have good : eBad l l1 c = false → Ev (fun k => scarfjointref18_Valid.j3 k (i : Int) false l l1 ns es c.f0 c.f1 c.f2 c.f3) (if scan (sE l l1 ns es) (m + 1) i = 0 then sumV es else scan (sE l l1 ns es) (m + 1) i) := fun hb => by
   refine Ev.step (fun k => by rw [scarfjointref18_Valid.j3]) ?_
   simp only [Bool.false_eq_true, ↓reduceIte]
   refine Ev.bind (rFits_ev l l1 hg h h1g h1l _ _ _) ?_
   cases hf : fitsE l l1 c.f0 c.f1 c.f2
   · rw [stop_ 13 (by unfold sE; rw [hc, if_neg (by simp [hb]), if_neg (by simp [hf])]) (by decide)]
     simp only [Bool.false_eq_true, ↓reduceIte]; exact Ev.now _
   · simp only [↓reduceIte]
     have j := j4 hb hf
     have hk := e_kIn_of h h1l hb
     obtain ⟨r1, hr1, e1⟩ := number_ev h ns hn hok c.f1 hk.2.1
     obtain ⟨r2, hr2, e2⟩ := number_ev h ns hn hok c.f2 hk.2.2
     refine Ev.bind hr1 ?_
     by_cases z1 : r1 = 0
     · simp only [z1, ↓reduceIte]
       exact j true (by rw [e1.1 z1]; rfl)
     · simp only [z1, ↓reduceIte]
       refine Ev.bind hr2 ?_
       have f1 : hasE ns c.f1 = true := by
        cases hh : hasE ns c.f1
        · exact absurd (e1.2 hh) z1
        · rfl
       by_cases z2 : r2 = 0
       · exact j (r2 == 0) (by rw [f1, e2.1 z2, z2]; rfl)
       · have f2 : hasE ns c.f2 = true := by
          cases hh : hasE ns c.f2
          · exact absurd (e2.2 hh) z2
          · rfl
         exact j (r2 == 0) (by rw [f1, f2]; simp [z2])
  cases h0 : isIn c.f0 (l1.length : Int)
  · simp only [Bool.false_eq_true, ↓reduceIte]; exact bad (by simp [eBad, h0])
  · simp only [↓reduceIte]
    cases h1 : isIn c.f1 (l.length : Int)
    · simp only [Bool.false_eq_true, ↓reduceIte]; exact bad (by simp [eBad, h1])
    · simp only [↓reduceIte]
      cases h2 : isIn c.f2 (l.length : Int)
      · simp only [Bool.false_eq_true, ↓reduceIte]; exact bad (by simp [eBad, h2])
      · simp only [↓reduceIte]
        by_cases h3 : c.f3 < 1
        · simp only [h3, ↓reduceIte]; exact bad (by simp [eBad]; omega)
        · simp only [h3, ↓reduceIte]
          by_cases h4 : c.f3 > 80
          · rw [decide_eq_true h4]; exact bad (by simp [eBad]; omega)
          · rw [decide_eq_false h4]; exact good (by simp [eBad, h0, h1, h2]; omega)
theorem rsval_nodes : ∀ (m i : Nat), i + m = ns.length → (∀ j, j < i → sN l ns j = 0) → Ev (fun k => scarfjointref18_Valid.l0 k (i : Int) l l1 ns es) (if scan (sN l ns) m i = 0 then sNodesV l l1 ns es else scan (sN l ns) m i)
 | 0, i, hi, hp => by
  refine Ev.step (fun k => by rw [scarfjointref18_Valid.l0]) ?_
  simp only [show ¬ ((i : Int) < (ns.length : Int)) by omega, ↓reduceIte, scan]
  refine Ev.bind (rtotal_ev ns hn (fun y hy => ?_)) ?_
  · obtain ⟨j, hj, rfl⟩ := List.getElem_of_mem hy
    have := hp j (by omega)
    unfold sN at this
    split at this
    · exact absurd this (by decide)
    · next hb =>
      rw [rd75_nat _ _ hj] at hb
      simp [nBad] at hb
      omega
  · unfold sNodesV
    by_cases hs : sumE ns > 40
    · simp only [hs, ↓reduceIte]; exact Ev.now _
    · simp only [hs, ↓reduceIte]
      exact rsval_edges l l1 hg h h1g h1l ns es hn he (fun j hj => hp j (by omega)) es.length 0 (by omega) (fun j hj => absurd hj (Nat.not_lt_zero _))
 | m + 1, i, hi, hp => by
  have next_ : sN l ns i = 0 → Ev (fun k => scarfjointref18_Valid.l0 k (wrap64 ((i : Int) + 1)) l l1 ns es) (if scan (sN l ns) (m + 1) i = 0 then sNodesV l l1 ns es else scan (sN l ns) (m + 1) i) := fun h0 => by
   rw [scan_succ, if_pos h0, w64 _ (by omega) (by omega)]
   exact rsval_nodes m (i + 1) (by omega) (fun j hj => by
    rcases Nat.lt_or_eq_of_le (Nat.le_of_lt_succ hj) with h1 | rfl
    · exact hp j h1
    · exact h0)
  have stop_ : ∀ e : Int, sN l ns i = e → e ≠ 0 → (if scan (sN l ns) (m + 1) i = 0 then sNodesV l l1 ns es else scan (sN l ns) (m + 1) i) = e := fun e h1 h2 => by
   rw [scan_succ, h1, if_neg h2, if_neg h2]
  refine Ev.step (fun k => by rw [scarfjointref18_Valid.l0]) ?_
  simp only [show ((i : Int) < (ns.length : Int)) by omega, show (0 : Int) ≤ (i : Int) by omega, ↓reduceIte, ris_f, Option.bind_some]
  generalize hc : rd_T75 ns (i : Int) = c
  have bad : nBad l c = true → Ev (fun k => scarfjointref18_Valid.j1 k (i : Int) true l l1 ns es c.f0 c.f1 c.f2 c.f3) (if scan (sN l ns) (m + 1) i = 0 then sNodesV l l1 ns es else scan (sN l ns) (m + 1) i) := fun hb => by
   rw [stop_ 6 (by unfold sN; rw [hc, if_pos hb]) (by decide)]
   refine Ev.step (fun k => by rw [scarfjointref18_Valid.j1]) ?_
   simp only [↓reduceIte]; exact Ev.now _
  have good : nBad l c = false → Ev (fun k => scarfjointref18_Valid.j1 k (i : Int) false l l1 ns es c.f0 c.f1 c.f2 c.f3) (if scan (sN l ns) (m + 1) i = 0 then sNodesV l l1 ns es else scan (sN l ns) (m + 1) i) := fun hb => by
   have e0 : sN l ns i = ordE ns i := by unfold sN; rw [hc, if_neg (by simp [hb])]
   refine Ev.step (fun k => by rw [scarfjointref18_Valid.j1]) ?_
   simp only [Bool.false_eq_true, ↓reduceIte]
   by_cases hi0 : 0 < i
   · rw [w64 ((i : Int) - 1) (by omega) (by omega)]
     simp only [show (i : Int) > 0 by omega, show (0 : Int) ≤ (i : Int) - 1 by omega, show (i : Int) - 1 < (ns.length : Int) by omega, ↓reduceIte]
     have hci := rcmp_in (a := rd_T75 ns ((i : Int) - 1)) (b := c) (by rw [show ((i : Int) - 1) = ((i - 1 : Nat) : Int) by omega]; exact n_kIn h (hp (i - 1) (by omega))) (n_kIn_of h hb)
     rw [hci]
     simp only [Option.bind_some]
     have e1 : ordE ns i = if cmpE (rd_T75 ns ((i : Int) - 1)).f0 (rd_T75 ns ((i : Int) - 1)).f1 (rd_T75 ns ((i : Int) - 1)).f2 c.f0 c.f1 c.f2 ≥ 0 then 12 else 0 := by
      unfold ordE cmpAtE; rw [if_pos hi0, hc]
     by_cases ho : cmpE (rd_T75 ns ((i : Int) - 1)).f0 (rd_T75 ns ((i : Int) - 1)).f1 (rd_T75 ns ((i : Int) - 1)).f2 c.f0 c.f1 c.f2 ≥ 0
     · rw [if_pos ho] at e1
       rw [stop_ 12 (by rw [e0, e1]) (by decide)]
       simp only [ho, ↓reduceIte]; exact Ev.now _
     · rw [if_neg ho] at e1
       simp only [ho, ↓reduceIte]
       exact next_ (by rw [e0, e1])
   · simp only [show ¬ ((i : Int) > 0) by omega, ↓reduceIte]
     exact next_ (by rw [e0]; unfold ordE; rw [if_neg hi0])
  cases h0 : isIn c.f0 (l.length : Int)
  · simp only [Bool.false_eq_true, ↓reduceIte]; exact bad (by simp [nBad, h0])
  · simp only [↓reduceIte]
    by_cases h1 : c.f1 = 0
    · simp only [h1, ↓reduceIte]
      rw [h1] at bad good
      by_cases h2 : c.f2 = 0
      · simp only [h2, ↓reduceIte]
        rw [h2] at bad good
        by_cases h3 : c.f3 < 1
        · simp only [h3, ↓reduceIte]; exact bad (by simp [nBad]; omega)
        · simp only [h3, ↓reduceIte]
          by_cases h4 : c.f3 > 40
          · rw [decide_eq_true h4]; exact bad (by simp [nBad]; omega)
          · rw [decide_eq_false h4]; exact good (by simp [nBad, h0, h1, h2]; omega)
      · simp only [h2, ↓reduceIte]; exact bad (by simp [nBad, h2])
    · simp only [h1, ↓reduceIte]; exact bad (by simp [nBad, h1])
theorem rsval_ev : Ev (fun k => scarfjointref18_Valid.f k l l1 ns es) (sValidE l l1 ns es) := by
 unfold scarfjointref18_Valid.f sValidE
 refine Ev.bind (rvalid_ev l l1 hg h h1g h1l) ?_
 by_cases hv : (validE l l1).2 = 0
 · simp only [hv, ↓reduceIte]; exact rsval_nodes l l1 hg h h1g h1l ns es hn he ns.length 0 (by omega) (fun j hj => absurd hj (Nat.not_lt_zero _))
 · simp only [hv, ↓reduceIte]; exact Ev.now _
end sval
theorem copied_f (a b : List S75) (ha : a.length ≤ 1000) (hb : b.length ≤ 1000) : scarfjointref18_Copied.f a b = some (a, b) := by
 unfold scarfjointref18_Copied.f
 simp only [Option.bind_some, List.length_nil, List.nil_append]
 rw [if_pos (by omega), if_pos (by omega)]
def numE : List S75 → S75 → Int
 | [], _ => 0
 | y :: l, x => if kEq y x then y.f3 else numE l x
theorem num_at : ∀ (l : List S75) (x : S75) (h : posE l x < l.length), kEq l[posE l x] x → numE l x = l[posE l x].f3
 | [], x, h, _ => by cases h
 | y :: l, x, h, he => by
  by_cases hy : kLt y x
  · have hp : posE (y :: l) x = posE l x + 1 := by rw [posE, if_pos hy]
    simp only [hp, List.getElem_cons_succ] at he ⊢
    rw [numE, if_neg (k_lt_ne hy)]
    exact num_at l x (by rw [hp] at h; simpa using h) he
  · have hp : posE (y :: l) x = 0 := by rw [posE, if_neg hy]
    simp only [hp, List.getElem_cons_zero] at he ⊢
    rw [numE, if_pos he]
theorem num_none : ∀ (l : List S75) (x : S75), (∀ y ∈ l, ¬ kEq y x) → numE l x = 0
 | [], x, _ => rfl
 | y :: l, x, h => by rw [numE, if_neg (h y List.mem_cons_self), num_none l x (fun z hz => h z (List.mem_cons_of_mem _ hz))]
theorem later_ne {B : Int} {y x : S75} {l : List S75} (hc : Cnt B (y :: l)) (h : kLt x y) : ∀ z ∈ l, ¬ kEq z x := fun z hz he => by
 have := (List.pairwise_cons.1 hc.srt).1 z hz
 have := k_trans h this
 unfold kEq kLt at *; omega
theorem num_no {B : Int} : ∀ (l : List S75) (x : S75), Cnt B l → (∀ h : posE l x < l.length, ¬ kEq l[posE l x] x) → numE l x = 0
 | [], x, _, _ => rfl
 | y :: l, x, hc, hn => by
  by_cases hy : kLt y x
  · have hp : posE (y :: l) x = posE l x + 1 := by rw [posE, if_pos hy]
    rw [numE, if_neg (k_lt_ne hy)]
    refine num_no l x hc.tail (fun h => ?_)
    have := hn (by rw [hp]; simpa using h)
    simpa only [hp, List.getElem_cons_succ] using this
  · have hp : posE (y :: l) x = 0 := by rw [posE, if_neg hy]
    have := hn (by rw [hp]; simp)
    simp only [hp, List.getElem_cons_zero] at this
    rw [numE, if_neg this]
    refine num_none l x (later_ne hc ?_)
    rcases k_tri y x with h | h | h
    · exact absurd h hy
    · exact absurd h this
    · exact h
theorem num_has : ∀ {l : List S75} {x : S75}, numE l x ≠ 0 → ∃ y ∈ l, kEq y x
 | [], x, h => absurd rfl h
 | y :: l, x, h => by
  by_cases he : kEq y x
  · exact ⟨y, List.mem_cons_self, he⟩
  · rw [numE, if_neg he] at h
    obtain ⟨z, hz, hk⟩ := num_has h
    exact ⟨z, List.mem_cons_of_mem _ hz, hk⟩
theorem num_pos : ∀ {l : List S75} {x : S75}, (∀ y ∈ l, 1 ≤ y.f3) → (∃ y ∈ l, kEq y x) → 1 ≤ numE l x
 | [], x, _, h => by obtain ⟨y, hy, _⟩ := h; cases hy
 | y :: l, x, hn, h => by
  rw [numE]
  split
  · exact hn y List.mem_cons_self
  · next he =>
    refine num_pos (fun z hz => hn z (List.mem_cons_of_mem _ hz)) ?_
    obtain ⟨z, hz, hk⟩ := h
    rcases List.mem_cons.1 hz with rfl | hz
    · exact absurd hk he
    · exact ⟨z, hz, hk⟩
theorem num_f {B : Int} {l : List S75} {x : S75} (hc : Cnt B l) (hx : kIn x) (z : Int) : statistic_number.f l x.f0 x.f1 x.f2 z = some (numE l x) := by
 unfold statistic_number.f
 rw [search_f]
 simp only [Option.bind_some]
 unfold foundAt
 rw [search_pos hc hx]
 by_cases hlt : posE l x < l.length
 · have hk := hc.key _ (List.getElem_mem hlt)
   have hcm : cmpAt l x.f0 x.f1 x.f2 (posE l x) = 0 ↔ kEq l[posE l x] x := by
    unfold cmpAt
    rw [rd75_nat _ _ hlt]
    exact cmp_eq hk hx
   rw [decide_eq_true hlt]
   by_cases he : kEq l[posE l x] x
   · rw [decide_eq_true (hcm.2 he), if_pos (by rfl), if_pos (by omega), if_pos (by omega), rd75_nat _ _ hlt, num_at l x hlt he]
   · rw [decide_eq_false (fun h => he (hcm.1 h)), if_neg (by simp), num_no l x hc (fun _ => he)]
 · rw [decide_eq_false hlt, if_neg (by simp), num_no l x hc (fun h => absurd h hlt)]
theorem rnum_loop {B : Int} {l : List S75} {x : S75} (hc : Cnt B l) (hx : kIn x) (hl : l.length ≤ 1000) (z : Int) : ∀ (m i : Nat), i + m = l.length →
 Ev (fun k => scarfjointref18_number.l0 k l (i : Int) x.f0 x.f1 x.f2 z) (numE (l.drop i) x)
 | 0, i, hi => by
  refine Ev.step (fun k => by rw [scarfjointref18_number.l0]) ?_
  rw [List.drop_eq_nil_of_le (by omega)]
  simp only [show ¬ ((i : Int) < (l.length : Int)) by omega, ↓reduceIte]; exact Ev.now _
 | m + 1, i, hi => by
  have hil : i < l.length := by omega
  have hk := hc.key _ (List.getElem_mem hil)
  have hrc := rcmp_in hk (b := ⟨x.f0, x.f1, x.f2, z⟩) hx
  have he := cmp_eq hk hx
  simp only at hrc
  refine Ev.step (fun k => by rw [scarfjointref18_number.l0]) ?_
  rw [List.drop_eq_getElem_cons hil, numE]
  simp only [show ((i : Int) < (l.length : Int)) by omega, show (0 : Int) ≤ (i : Int) by omega, ↓reduceIte, rd75_nat l i hil]
  rw [hrc]
  simp only [Option.bind_some]
  by_cases hq : kEq l[i] x
  · rw [if_pos hq]
    simp only [he.2 hq, ↓reduceIte]; exact Ev.now _
  · rw [if_neg hq]
    simp only [show ¬ (cmpE l[i].f0 l[i].f1 l[i].f2 x.f0 x.f1 x.f2 = 0) from fun h => hq (he.1 h), ↓reduceIte]
    rw [w64 _ (by omega) (by omega)]
    exact rnum_loop hc hx hl z m (i + 1) (by omega)
theorem rnum_ev {B : Int} {l : List S75} {x : S75} (hc : Cnt B l) (hx : kIn x) (hl : l.length ≤ 1000) (z : Int) : Ev (fun k => scarfjointref18_number.f k l x.f0 x.f1 x.f2 z) (numE l x) :=
 rnum_loop hc hx hl z l.length 0 (by omega)
theorem add_del : ∀ (l : List S75) (x : S75) (h : posE l x < l.length), kEq l[posE l x] x → l[posE l x].f3 + x.f3 = 0 → addE l x = l.take (posE l x) ++ l.drop (posE l x + 1)
 | [], x, h, _, _ => by cases h
 | y :: l, x, h, he, hz => by
  by_cases hy : kLt y x
  · have hp : posE (y :: l) x = posE l x + 1 := by rw [posE, if_pos hy]
    simp only [hp, List.getElem_cons_succ] at he hz ⊢
    rw [addE, if_pos hy, List.take_succ_cons, List.drop_succ_cons, List.cons_append, add_del l x (by rw [hp] at h; simpa using h) he hz]
  · have hp : posE (y :: l) x = 0 := by rw [posE, if_neg hy]
    simp only [hp, List.getElem_cons_zero] at he hz ⊢
    rw [addE, if_neg hy, if_pos he, if_pos hz]; rfl
theorem counted_ev2 {B : Int} {l : List S75} {x : S75} (hc : Cnt B l) (hx : kIn x) (hB : B ≤ 1000) (hx3 : x.f3 = 1 ∨ x.f3 = -1) (hl : l.length ≤ 1000) : statistic_counted.f l x.f0 x.f1 x.f2 x.f3 = some (addE l x) := by
 unfold statistic_counted.f
 rw [if_pos (by omega)]
 unfold foundAt
 rw [search_pos hc hx]
 have hple := posE_le l x
 by_cases hlt : posE l x < l.length
 · have hk := hc.key _ (List.getElem_mem hlt)
   have hn := hc.num _ (List.getElem_mem hlt)
   have hcm : cmpAt l x.f0 x.f1 x.f2 (posE l x) = 0 ↔ kEq l[posE l x] x := by
    unfold cmpAt
    rw [rd75_nat _ _ hlt]
    exact cmp_eq hk hx
   rw [rd75_nat _ _ hlt, w64 _ (by omega) (by omega)]
   by_cases he : kEq l[posE l x] x
   · rw [decide_eq_true hlt, decide_eq_true (hcm.2 he), if_pos (by rfl)]
     by_cases hz : l[posE l x].f3 + x.f3 = 0
     · rw [if_pos hz, add_del l x hlt he hz]
     · rw [if_neg hz, add_found l x hlt he hz]
   · rw [decide_eq_true hlt, decide_eq_false (fun h => he (hcm.1 h)), if_neg (by simp), add_new l x (fun _ => he)]
 · rw [decide_eq_false hlt, if_neg (by simp), add_new l x (fun h => absurd h hlt)]
theorem Cnt.up {B C : Int} {l : List S75} (h : Cnt B l) (hC : ∀ y ∈ l, y.f3 ≤ C) : Cnt C l := ⟨h.srt, h.key, fun y hy => ⟨(h.num y hy).1, hC y hy⟩⟩
theorem Cnt.sum {B C : Int} {l : List S75} (h : Cnt B l) (hC : sumE l ≤ C) : Cnt C l := h.up fun y hy => by
 have := sum_ge (fun y hy => (h.num y hy).1) y hy; omega
theorem add_Cnt2 {B : Int} : ∀ {l : List S75} {x : S75}, Cnt B l → kIn x → (x.f3 = 1 ∨ (x.f3 = -1 ∧ ∃ y ∈ l, kEq y x)) → 0 ≤ B → Cnt (B + 1) (addE l x)
 | [], x, hc, hx, h1, hB => by
  have h3 : x.f3 = 1 := by
   rcases h1 with h | ⟨_, y, hy, _⟩
   · exact h
   · cases hy
  refine { srt := List.pairwise_singleton _ _, key := fun y hy => ?_, num := fun y hy => ?_ }
  · obtain rfl : y = x := by simpa [addE] using hy
    exact hx
  · obtain rfl : y = x := by simpa [addE] using hy
    omega
 | w :: l, x, hc, hx, h1, hB => by
  have hw := hc.num w List.mem_cons_self
  have hkw := hc.key w List.mem_cons_self
  have hs := List.pairwise_cons.1 hc.srt
  have h3 : x.f3 = 1 ∨ x.f3 = -1 := h1.imp id And.left
  unfold addE
  split
  · next hlt =>
    have ih := add_Cnt2 hc.tail hx (h1.imp id fun ⟨e, y, hy, hk⟩ => ⟨e, y, by
     rcases List.mem_cons.1 hy with rfl | hy
     · exact absurd hk (k_lt_ne hlt)
     · exact hy, hk⟩) hB
    refine { srt := List.pairwise_cons.2 ⟨fun z hz => ?_, ih.srt⟩, key := fun y hy => ?_, num := fun y hy => ?_ }
    · rcases add_mem hz with h | h
      · unfold kLt kEq at *; omega
      · exact hs.1 z h
    · rcases List.mem_cons.1 hy with rfl | hy
      · exact hkw
      · exact ih.key y hy
    · rcases List.mem_cons.1 hy with rfl | hy
      · omega
      · exact ih.num y hy
  · next hlt =>
    split
    · next he =>
      split
      · next hz => exact hc.tail.up fun y hy => by have := hc.num y (List.mem_cons_of_mem _ hy); omega
      · next hz =>
        refine { srt := List.pairwise_cons.2 ⟨fun z hz => hs.1 z hz, hs.2⟩, key := fun y hy => ?_, num := fun y hy => ?_ }
        · rcases List.mem_cons.1 hy with rfl | hy
          · exact hkw
          · exact hc.key y (List.mem_cons_of_mem _ hy)
        · rcases List.mem_cons.1 hy with rfl | hy
          · show 1 ≤ w.f3 + x.f3 ∧ w.f3 + x.f3 ≤ _; omega
          · have := hc.num y (List.mem_cons_of_mem _ hy); omega
    · next he =>
      have hgt : kLt x w := by
       rcases k_tri w x with h | h | h
       · exact absurd h hlt
       · exact absurd h he
       · exact h
      have hx1 : x.f3 = 1 := by
       rcases h1 with h | ⟨_, y, hy, hk⟩
       · exact h
       · rcases List.mem_cons.1 hy with rfl | hy
         · exact absurd hk he
         · exact absurd hk (later_ne hc hgt y hy)
      refine { srt := List.pairwise_cons.2 ⟨fun z hz => ?_, hc.srt⟩, key := fun y hy => ?_, num := fun y hy => ?_ }
      · rcases List.mem_cons.1 hz with rfl | hz
        · exact hgt
        · exact k_trans hgt (hs.1 z hz)
      · rcases List.mem_cons.1 hy with rfl | hy
        · exact hx
        · exact hc.key y hy
      · rcases List.mem_cons.1 hy with rfl | hy
        · omega
        · have := hc.num y hy; omega
theorem add_back {B : Int} : ∀ {l : List S75} {x : S75}, Cnt B l → x.f3 ≠ 0 → addE (addE l x) ⟨x.f0, x.f1, x.f2, -x.f3⟩ = l
 | [], x, _, h0 => by
  have n1 : ¬ kLt x ⟨x.f0, x.f1, x.f2, -x.f3⟩ := by unfold kLt; simp
  have n2 : kEq x ⟨x.f0, x.f1, x.f2, -x.f3⟩ := ⟨rfl, rfl, rfl⟩
  show addE [x] _ = []
  rw [addE, if_neg n1, if_pos n2, if_pos (by show x.f3 + -x.f3 = 0; omega)]
 | y :: l, x, hc, h0 => by
  have n1 : ¬ kLt x ⟨x.f0, x.f1, x.f2, -x.f3⟩ := by unfold kLt; simp
  have n2 : kEq x ⟨x.f0, x.f1, x.f2, -x.f3⟩ := ⟨rfl, rfl, rfl⟩
  by_cases hy : kLt y x
  · have hy' : kLt y ⟨x.f0, x.f1, x.f2, -x.f3⟩ := hy
    rw [addE, if_pos hy, addE, if_pos hy', add_back hc.tail h0]
  · by_cases he : kEq y x
    · have he' : kEq y ⟨x.f0, x.f1, x.f2, -x.f3⟩ := he
      have hy' : ¬ kLt y ⟨x.f0, x.f1, x.f2, -x.f3⟩ := hy
      rw [addE, if_neg hy, if_pos he]
      by_cases hz : y.f3 + x.f3 = 0
      · rw [if_pos hz]
        have e : (⟨x.f0, x.f1, x.f2, -x.f3⟩ : S75) = y := by
         obtain ⟨k0, k1, k2⟩ := he
         cases y
         simp only [S75.mk.injEq] at *
         omega
        rw [e]
        cases l with
        | nil => rfl
        | cons z l =>
         have hyz := (List.pairwise_cons.1 hc.srt).1 z List.mem_cons_self
         rw [addE, if_neg (k_lt_as hyz), if_neg (fun h => k_lt_ne hyz (by unfold kEq at *; omega))]
      · have hy2 : ¬ kLt (⟨y.f0, y.f1, y.f2, y.f3 + x.f3⟩ : S75) ⟨x.f0, x.f1, x.f2, -x.f3⟩ := hy
        have he2 : kEq (⟨y.f0, y.f1, y.f2, y.f3 + x.f3⟩ : S75) ⟨x.f0, x.f1, x.f2, -x.f3⟩ := he
        rw [if_neg hz, addE, if_neg hy2, if_pos he2, if_neg (by have := hc.num y List.mem_cons_self; show ¬ (y.f3 + x.f3 + -x.f3 = 0); omega)]
        congr 1
        cases y
        simp only [S75.mk.injEq]
        refine ⟨trivial, trivial, trivial, ?_⟩
        omega
    · rw [addE, if_neg hy, if_neg he, addE, if_neg n1, if_pos n2, if_pos (by show x.f3 + -x.f3 = 0; omega)]
structure SV (l : List S96) (l1 : List S101) (ns es : List S75) : Prop where
 v : (validE l l1).2 = 0
 n : Cnt 40 ns
 nk : ∀ y ∈ ns, isIn y.f0 (l.length : Int) = true ∧ y.f1 = 0 ∧ y.f2 = 0
 nsum : sumE ns ≤ 40
 e : Cnt 80 es
 ek : ∀ y ∈ es, isIn y.f0 (l1.length : Int) = true ∧ isIn y.f1 (l.length : Int) = true ∧ isIn y.f2 (l.length : Int) = true ∧ fitsE l l1 y.f0 y.f1 y.f2 = true ∧ hasE ns y.f1 = true ∧ hasE ns y.f2 = true
 esum : sumE es ≤ 80
theorem srt_of {l : List S75} (hk : ∀ y ∈ l, kIn y) (ho : ∀ i, i < l.length → ordE l i = 0) : l.Pairwise kLt := by
 have step : ∀ i, 0 < i → (hi : i < l.length) → kLt (l[i - 1]'(by omega)) l[i] := fun i h0 hi => by
  have := ho i hi
  unfold ordE at this
  rw [if_pos h0] at this
  split at this
  · exact absurd this (by decide)
  · next hc =>
    unfold cmpAtE at hc
    rw [show ((i : Int) - 1) = ((i - 1 : Nat) : Int) by omega, rd75_nat _ _ (by omega), rd75_nat _ _ hi] at hc
    exact (cmp_lt (hk _ (List.getElem_mem _)) (hk _ (List.getElem_mem hi))).1 (by omega)
 refine List.pairwise_iff_getElem.2 fun i j hi hj hij => ?_
 have far : ∀ d, (h : i + 1 + d < l.length) → kLt l[i] l[i + 1 + d] := fun d => by
  induction d with
  | zero => intro h; exact step (i + 1) (by omega) h
  | succ d ih => intro h; exact k_trans (ih (by omega)) (step (i + 1 + (d + 1)) (by omega) h)
 have := far (j - i - 1) (by omega)
 have e : i + 1 + (j - i - 1) = j := by omega
 simpa only [e] using this
theorem sv_of {l : List S96} {l1 : List S101} {ns es : List S75} (h : Small l) (h1l : l1.length ≤ 30) (hz : sValidE l l1 ns es = 0) : SV l l1 ns es := by
 unfold sValidE at hz
 split at hz
 · next hv =>
   split at hz
   · next hs =>
     have hN := fun j (hj : j < ns.length) => scan_zero _ _ hs j (Nat.zero_le _) (by omega)
     unfold sNodesV at hz
     split at hz
     · exact absurd hz (by decide)
     · next hsum =>
       unfold sEdgesV at hz
       split at hz
       · next hs2 =>
         have hE := fun j (hj : j < es.length) => scan_zero _ _ hs2 j (Nat.zero_le _) (by omega)
         unfold sumV at hz
         split at hz
         · exact absurd hz (by decide)
         · next hsum2 =>
           have nf : ∀ y ∈ ns, nBad l y = false := fun y hy => by
            obtain ⟨j, hj, rfl⟩ := List.getElem_of_mem hy
            have := hN j hj
            unfold sN at this
            rw [rd75_nat _ _ hj] at this
            split at this
            · exact absurd this (by decide)
            · next hb => simpa using hb
           have nk : ∀ y ∈ ns, kIn y := fun y hy => n_kIn_of h (nf y hy)
           have ef : ∀ j (hj : j < es.length), eBad l l1 es[j] = false ∧ fitsE l l1 es[j].f0 es[j].f1 es[j].f2 = true ∧ hasE ns es[j].f1 = true ∧ hasE ns es[j].f2 = true ∧ ordE es j = 0 := fun j hj => by
            have := hE j hj
            unfold sE at this
            rw [rd75_nat _ _ hj] at this
            split at this
            · exact absurd this (by decide)
            · next hb =>
              split at this
              · next hf =>
                split at this
                · next hh =>
                  rw [Bool.and_eq_true] at hh
                  exact ⟨by simpa using hb, hf, hh.1, hh.2, this⟩
                · exact absurd this (by decide)
              · exact absurd this (by decide)
           have ek : ∀ y ∈ es, kIn y := fun y hy => by
            obtain ⟨j, hj, rfl⟩ := List.getElem_of_mem hy
            exact e_kIn_of h h1l (ef j hj).1
           refine { v := hv, n := { srt := srt_of nk (fun i hi => ?_), key := nk, num := fun y hy => ?_ }, nk := fun y hy => ?_, nsum := by omega, e := { srt := srt_of ek (fun i hi => (ef i hi).2.2.2.2), key := ek, num := fun y hy => ?_ }, ek := fun y hy => ?_, esum := by omega }
           · have := hN i hi
             unfold sN at this
             split at this
             · exact absurd this (by decide)
             · exact this
           · have := nf y hy; simp [nBad] at this; omega
           · have := nf y hy; simp [nBad] at this; exact ⟨this.1, this.2.1, this.2.2.1⟩
           · obtain ⟨j, hj, rfl⟩ := List.getElem_of_mem hy
             have := (ef j hj).1; simp [eBad] at this; omega
           · obtain ⟨j, hj, rfl⟩ := List.getElem_of_mem hy
             have h1 := ef j hj
             have := h1.1; simp [eBad] at this
             exact ⟨this.1, this.2.1, this.2.2.1, h1.2.1, h1.2.2.1, h1.2.2.2.1⟩
       · next hs2 => exact absurd hz hs2
   · next hs => exact absurd hz hs
 · next hv => exact absurd hz hv
theorem sv_zero {l : List S96} {l1 : List S101} {ns es : List S75} (s : SV l l1 ns es) : sValidE l l1 ns es = 0 := by
 unfold sValidE
 rw [if_pos s.v, if_pos]
 · unfold sNodesV
   rw [if_neg (by have := s.nsum; omega)]
   unfold sEdgesV
   rw [if_pos]
   · unfold sumV; rw [if_neg (by have := s.esum; omega)]
   · refine scan_all _ _ (fun j _ hj => ?_)
     have hjl : j < es.length := by omega
     have hm := List.getElem_mem hjl
     obtain ⟨k0, k1, k2, k3, k4, k5⟩ := s.ek _ hm
     have hnum := s.e.num _ hm
     unfold sE
     rw [rd75_nat _ _ hjl, if_neg, if_pos k3, if_pos (by rw [k4, k5]; rfl), ord_ok s.e j hjl]
     unfold eBad
     rw [k0, k1, k2]
     simp; omega
 · refine scan_all _ _ (fun i _ hi => ?_)
   have hil : i < ns.length := by omega
   have hm := List.getElem_mem hil
   obtain ⟨k0, k1, k2⟩ := s.nk _ hm
   have hnum := s.n.num _ hm
   unfold sN
   rw [rd75_nat _ _ hil, if_neg, ord_ok s.n i hil]
   unfold nBad
   rw [k0, k1, k2]
   simp; omega
theorem is_kIn {l : List S96} {a : Int} (h : Small l) (hi : isIn a (l.length : Int) = true) (z : Int) : kIn (⟨a, 0, 0, z⟩ : S75) := by
 have := h.1
 simp [isIn] at hi
 unfold kIn; simp only; omega
theorem has_num {l : List S96} {l1 : List S101} {ns es : List S75} (s : SV l l1 ns es) (a z : Int) : hasE ns a = true ↔ numE ns ⟨a, 0, 0, z⟩ ≠ 0 := by
 unfold hasE
 rw [List.any_eq_true]
 constructor
 · rintro ⟨y, hy, he⟩
   have := num_pos (l := ns) (x := ⟨a, 0, 0, z⟩) (fun y hy => (s.n.num y hy).1) ⟨y, hy, by simpa using he, (s.nk y hy).2.1, (s.nk y hy).2.2⟩
   omega
 · intro hn
   obtain ⟨y, hy, hk⟩ := num_has hn
   exact ⟨y, hy, by simpa using hk.1⟩
theorem pcopied_f (a b : List S75) (ha : a.length ≤ 1000) (hb : b.length ≤ 1000) : statistic_copied.f a b = some (a, b) := by
 unfold statistic_copied.f clone_Count.f
 rw [if_pos (by omega), if_pos (by omega)]; rfl
theorem awake_ev4 : Ev (fun k => scarfjointlaw18_awake.f k) true := Ev.of (fun k => scarfjointlaw18_awake.mono k) (k := 60) (by kernel_rfl)
theorem sfew_f4 (a b : List S75) : (scarfjointref18_Few.f a b = some true ∧ a.length ≤ 45 ∧ b.length ≤ 85) ∨ scarfjointref18_Few.f a b = some false := by
 unfold scarfjointref18_Few.f
 split
 · by_cases h : (b.length : Int) ≤ 85
   · left; rw [decide_eq_true h]; exact ⟨rfl, by omega, by omega⟩
   · right; rw [decide_eq_false h]
 · exact Or.inr rfl
def edgeW (ns es : List S75) (e a b s : Int) : List S75 × List S75 × Int :=
 if s = -1 ∧ numE es ⟨e, a, b, s⟩ = 0 then ([], [], 10)
 else if s = 1 ∧ ¬ (hasE ns a = true ∧ hasE ns b = true) then ([], [], 10)
 else if s = 1 ∧ sumE es = 80 then ([], [], 3)
 else (ns, addE es ⟨e, a, b, s⟩, 0)
def edgeC (l : List S96) (l1 : List S101) (ns es : List S75) (e a b s : Int) : List S75 × List S75 × Int :=
 if sValidE l l1 ns es = 0 then
  (if (isIn e (l1.length : Int) = true ∧ isIn a (l.length : Int) = true ∧ isIn b (l.length : Int) = true) ∧ (s = 1 ∨ s = -1) then (if fitsE l l1 e a b = true then edgeW ns es e a b s else ([], [], 13)) else ([], [], 6))
 else ([], [], sValidE l l1 ns es)
theorem ek_kIn {l : List S96} {l1 : List S101} {e a b : Int} (h : Small l) (h1l : l1.length ≤ 30) (he : isIn e (l1.length : Int) = true) (ha : isIn a (l.length : Int) = true) (hb : isIn b (l.length : Int) = true) (z : Int) : kIn (⟨e, a, b, z⟩ : S75) := by
 have := h.1
 simp [isIn] at he ha hb
 unfold kIn; simp only; omega
section edge
variable (l : List S96) (l1 : List S101) (hg : Good l) (h : Small l) (h1g : ∀ x ∈ l1, good101 x) (h1l : l1.length ≤ 30) (ns es : List S75) (hn : ns.length ≤ 1000) (he : es.length ≤ 1000)
include hg h h1g h1l hn he
theorem sedge_ev (e a b s : Int) : Ev (fun k => statistic_Edge.f k l l1 ns es e a b s) (edgeC l l1 ns es e a b s) := by
 unfold statistic_Edge.f edgeC
 refine Ev.bind (sval_ev l l1 hg h h1g h1l ns es hn he) ?_
 by_cases hz : sValidE l l1 ns es = 0
 · simp only [hz, ↓reduceIte]
   have S := sv_of h h1l hz
   have six : ∀ q, Ev (fun k => statistic_Edge.j0 k e a b q true l l1 ns es) (([] : List S75), ([] : List S75), (6 : Int)) := fun q => by
    refine Ev.step (fun k => by rw [statistic_Edge.j0]) ?_
    simp only [↓reduceIte]; exact Ev.now _
   have ten : ∀ q, Ev (fun k => statistic_Edge.j1 k q true ns es e a b q) (([] : List S75), ([] : List S75), (10 : Int)) := fun q => by
    refine Ev.step (fun k => by rw [statistic_Edge.j1]) ?_
    simp only [↓reduceIte]; exact Ev.now _
   have shas : ∀ a, statistic_has.f ns es a = some (hasE ns a) := fun a => rfl
   simp only [is_f, Option.bind_some]
   by_cases hie : isIn e (l1.length : Int) = true
   · by_cases hia : isIn a (l.length : Int) = true
     · by_cases hib : isIn b (l.length : Int) = true
       · simp only [hie, hia, hib, ↓reduceIte, true_and]
         have fin : (s = 1 ∨ s = -1) → Ev (fun _ => (statistic_copied.f ns es).bind fun bt => (statistic_counted.f bt.2 e a b s).bind fun t => some (bt.1, t, (0 : Int))) (ns, addE es ⟨e, a, b, s⟩, (0 : Int)) := fun hs => by
          rw [pcopied_f ns es hn he]
          simp only [Option.bind_some]
          have := counted_ev2 S.e (ek_kIn h h1l hie hia hib s) (by decide) hs he
          simp only at this
          rw [this]; exact Ev.now _
         by_cases h1 : s = 1
         · subst h1
           have hf := fin (Or.inl rfl)
           simp only [↓reduceIte, true_or]
           refine Ev.step (fun k => by rw [statistic_Edge.j0]) ?_
           simp only [Bool.false_eq_true, ↓reduceIte]
           refine Ev.bind (Fits_ev l l1 hg h h1g h1l e a b) ?_
           by_cases hfit : fitsE l l1 e a b = true
           · simp only [hfit, ↓reduceIte, shas, Option.bind_some, edgeW, true_and, show ¬ ((1 : Int) = -1) by decide, false_and]
             by_cases ha : hasE ns a = true
             · by_cases hb : hasE ns b = true
               · simp only [ha, hb, ↓reduceIte, and_self, not_true_eq_false]
                 refine Ev.step (fun k => by rw [statistic_Edge.j1]) ?_
                 simp only [Bool.false_eq_true, ↓reduceIte]
                 refine Ev.bind (total_ev es he (fun y hy => S.e.num y hy)) ?_
                 refine Ev.step (fun k => by rw [statistic_Edge.j2]) ?_
                 by_cases h8 : sumE es = 80
                 · simp only [h8, beq_self_eq_true, ↓reduceIte]; exact Ev.now _
                 · simp only [beq_eq_false_iff_ne.2 h8, Bool.false_eq_true, h8, ↓reduceIte]
                   exact hf
               · simp only [ha, hb, ↓reduceIte, and_false, not_false_eq_true, Bool.false_eq_true]
                 exact ten 1
             · simp only [ha, ↓reduceIte, false_and, not_false_eq_true, Bool.false_eq_true]
               exact ten 1
           · simp only [hfit, Bool.false_eq_true, ↓reduceIte]; exact Ev.now _
         · by_cases h2 : s = -1
           · subst h2
             have hf := fin (Or.inr rfl)
             have hnum := num_f S.e (ek_kIn h h1l hie hia hib (-1)) (-1)
             simp only at hnum
             simp only [↓reduceIte, or_true, show ¬ ((-1 : Int) = 1) by decide, bne_self_eq_false]
             refine Ev.step (fun k => by rw [statistic_Edge.j0]) ?_
             simp only [Bool.false_eq_true, ↓reduceIte]
             refine Ev.bind (Fits_ev l l1 hg h h1g h1l e a b) ?_
             by_cases hfit : fitsE l l1 e a b = true
             · simp only [hfit, ↓reduceIte, hnum, Option.bind_some, edgeW, true_and, show ¬ ((-1 : Int) = 1) by decide, false_and]
               refine Ev.step (fun k => by rw [statistic_Edge.j1]) ?_
               by_cases h3 : numE es ⟨e, a, b, -1⟩ = 0
               · simp only [h3, beq_self_eq_true, ↓reduceIte]; exact Ev.now _
               · simp only [beq_eq_false_iff_ne.2 h3, Bool.false_eq_true, h3, ↓reduceIte, show ¬ ((-1 : Int) = 1) by decide]
                 refine Ev.step (fun k => by rw [statistic_Edge.j2]) ?_
                 simp only [Bool.false_eq_true, ↓reduceIte]
                 exact hf
             · simp only [hfit, Bool.false_eq_true, ↓reduceIte]; exact Ev.now _
           · have hb : (s != -1) = true := bne_iff_ne.2 h2
             simp only [h1, h2, or_self, ↓reduceIte, hb]
             exact six s
       · simp only [hie, hia, hib, Bool.false_eq_true, false_and, and_false, ↓reduceIte]
         exact six s
     · simp only [hie, hia, Bool.false_eq_true, false_and, and_false, ↓reduceIte]
       exact six s
   · simp only [hie, Bool.false_eq_true, false_and, ↓reduceIte]
     exact six s
 · simp only [hz, ↓reduceIte]; exact Ev.now _
theorem rsedge_ev (e a b s : Int) : Ev (fun k => scarfjointref18_Edge.f k l l1 ns es e a b s) (edgeC l l1 ns es e a b s) := by
 unfold scarfjointref18_Edge.f edgeC
 refine Ev.bind (rsval_ev l l1 hg h h1g h1l ns es hn he) ?_
 by_cases hz : sValidE l l1 ns es = 0
 · simp only [hz, ↓reduceIte]
   have S := sv_of h h1l hz
   have six : ∀ q, Ev (fun k => scarfjointref18_Edge.j0 k e a b q true l l1 ns es) (([] : List S75), ([] : List S75), (6 : Int)) := fun q => by
    refine Ev.step (fun k => by rw [scarfjointref18_Edge.j0]) ?_
    simp only [↓reduceIte]; exact Ev.now _
   have ten : ∀ q, Ev (fun k => scarfjointref18_Edge.j2 k q true ns es e a b 0) (([] : List S75), ([] : List S75), (10 : Int)) := fun q => by
    refine Ev.step (fun k => by rw [scarfjointref18_Edge.j2]) ?_
    simp only [↓reduceIte]; exact Ev.now _
   simp only [ris_f, Option.bind_some]
   by_cases hie : isIn e (l1.length : Int) = true
   · by_cases hia : isIn a (l.length : Int) = true
     · by_cases hib : isIn b (l.length : Int) = true
       · simp only [hie, hia, hib, ↓reduceIte, true_and]
         have hx := ek_kIn h h1l hie hia hib s
         have fin : (s = 1 ∨ s = -1) → (s = -1 → numE es ⟨e, a, b, s⟩ ≠ 0) → Ev (fun k => (scarfjointref18_Copied.f ns es).bind fun bt => (scarfjointref18_change.f k es e a b 0 s).bind fun t => some (bt.1, t, (0 : Int))) (ns, addE es ⟨e, a, b, s⟩, (0 : Int)) := fun hs hne => by
          rw [copied_f ns es hn he]
          simp only [Option.bind_some]
          have := change_ev S.e (by decide) hx (by simp only; omega) 0 he (fun hm => num_has (hne hm))
          simp only at this
          exact Ev.bind this (Ev.now _)
         by_cases h1 : s = 1
         · subst h1
           have hf := fin (Or.inl rfl) (fun hh => absurd hh (by decide))
           simp only [↓reduceIte, true_or]
           refine Ev.step (fun k => by rw [scarfjointref18_Edge.j0]) ?_
           simp only [Bool.false_eq_true, ↓reduceIte]
           refine Ev.bind (rFits_ev l l1 hg h h1g h1l e a b) ?_
           by_cases hfit : fitsE l l1 e a b = true
           · simp only [hfit, ↓reduceIte, edgeW, true_and, show ¬ ((1 : Int) = -1) by decide, false_and]
             refine Ev.step (fun k => by rw [scarfjointref18_Edge.j1]) ?_
             simp only [Bool.false_eq_true, ↓reduceIte]
             refine Ev.bind (rnum_ev S.n (is_kIn h hia 0) hn 0) ?_
             have ia := has_num S a 0
             have ib := has_num S b 0
             by_cases ha : numE ns ⟨a, 0, 0, 0⟩ = 0
             · have ha' : hasE ns a ≠ true := fun hh => ia.1 hh ha
               simp only [ha, ha', ↓reduceIte, false_and, not_false_eq_true]
               exact ten 1
             · have ha' : hasE ns a = true := ia.2 ha
               simp only [ha, ha', ↓reduceIte, true_and]
               refine Ev.bind (rnum_ev S.n (is_kIn h hib 0) hn 0) ?_
               by_cases hb : numE ns ⟨b, 0, 0, 0⟩ = 0
               · have hb' : hasE ns b ≠ true := fun hh => ib.1 hh hb
                 simp only [hb, hb', beq_self_eq_true, ↓reduceIte, not_false_eq_true]
                 exact ten 1
               · have hb' : hasE ns b = true := ib.2 hb
                 simp only [beq_eq_false_iff_ne.2 hb, hb', ↓reduceIte, not_true_eq_false]
                 refine Ev.step (fun k => by rw [scarfjointref18_Edge.j2]) ?_
                 simp only [Bool.false_eq_true, ↓reduceIte]
                 refine Ev.bind (rtotal_ev es he (fun y hy => S.e.num y hy)) ?_
                 refine Ev.step (fun k => by rw [scarfjointref18_Edge.j3]) ?_
                 by_cases h8 : sumE es = 80
                 · simp only [h8, beq_self_eq_true, ↓reduceIte]; exact Ev.now _
                 · simp only [beq_eq_false_iff_ne.2 h8, Bool.false_eq_true, h8, ↓reduceIte]
                   exact hf
           · simp only [hfit, Bool.false_eq_true, ↓reduceIte]; exact Ev.now _
         · by_cases h2 : s = -1
           · subst h2
             have hf := fin (Or.inr rfl)
             simp only [↓reduceIte, or_true, show ¬ ((-1 : Int) = 1) by decide, bne_self_eq_false]
             refine Ev.step (fun k => by rw [scarfjointref18_Edge.j0]) ?_
             simp only [Bool.false_eq_true, ↓reduceIte]
             refine Ev.bind (rFits_ev l l1 hg h h1g h1l e a b) ?_
             by_cases hfit : fitsE l l1 e a b = true
             · simp only [hfit, ↓reduceIte, edgeW, true_and, show ¬ ((-1 : Int) = 1) by decide, false_and]
               refine Ev.bind (rnum_ev S.e hx he 0) ?_
               refine Ev.step (fun k => by rw [scarfjointref18_Edge.j1]) ?_
               by_cases h3 : numE es ⟨e, a, b, -1⟩ = 0
               · simp only [h3, beq_self_eq_true, ↓reduceIte]; exact Ev.now _
               · simp only [beq_eq_false_iff_ne.2 h3, Bool.false_eq_true, h3, ↓reduceIte, show ¬ ((-1 : Int) = 1) by decide]
                 refine Ev.step (fun k => by rw [scarfjointref18_Edge.j2]) ?_
                 simp only [Bool.false_eq_true, ↓reduceIte, show ¬ ((-1 : Int) = 1) by decide]
                 refine Ev.step (fun k => by rw [scarfjointref18_Edge.j3]) ?_
                 simp only [Bool.false_eq_true, ↓reduceIte]
                 exact hf (fun _ => h3)
             · simp only [hfit, Bool.false_eq_true, ↓reduceIte]; exact Ev.now _
           · have hb : (s != -1) = true := bne_iff_ne.2 h2
             simp only [h1, h2, or_self, ↓reduceIte, hb]
             exact six s
       · simp only [hie, hia, hib, Bool.false_eq_true, false_and, and_false, ↓reduceIte]
         exact six s
     · simp only [hie, hia, Bool.false_eq_true, false_and, and_false, ↓reduceIte]
       exact six s
   · simp only [hie, Bool.false_eq_true, false_and, ↓reduceIte]
     exact six s
 · simp only [hz, ↓reduceIte]; exact Ev.now _
end edge
structure EF (l : List S96) (l1 : List S101) (ns es : List S75) (e a b s : Int) : Prop where
 z : sValidE l l1 ns es = 0
 i : isIn e (l1.length : Int) = true ∧ isIn a (l.length : Int) = true ∧ isIn b (l.length : Int) = true
 s1 : s = 1 ∨ s = -1
 f : fitsE l l1 e a b = true
 c1 : ¬ (s = -1 ∧ numE es ⟨e, a, b, s⟩ = 0)
 c2 : ¬ (s = 1 ∧ ¬ (hasE ns a = true ∧ hasE ns b = true))
 c3 : ¬ (s = 1 ∧ sumE es = 80)
 v : edgeC l l1 ns es e a b s = (ns, addE es ⟨e, a, b, s⟩, 0)
theorem edge_facts {l : List S96} {l1 : List S101} {ns es : List S75} {e a b s : Int} (h0 : (edgeC l l1 ns es e a b s).2.2 = 0) : EF l l1 ns es e a b s := by
 have h0' := h0
 unfold edgeC at h0
 by_cases hz : sValidE l l1 ns es = 0
 · rw [if_pos hz] at h0
   by_cases hi : (isIn e (l1.length : Int) = true ∧ isIn a (l.length : Int) = true ∧ isIn b (l.length : Int) = true) ∧ (s = 1 ∨ s = -1)
   · rw [if_pos hi] at h0
     by_cases hf : fitsE l l1 e a b = true
     · rw [if_pos hf] at h0
       unfold edgeW at h0
       split at h0
       · exact absurd h0 (by decide)
       · next c1 =>
         split at h0
         · exact absurd h0 (by decide)
         · next c2 =>
           split at h0
           · exact absurd h0 (by decide)
           · next c3 => exact { z := hz, i := hi.1, s1 := hi.2, f := hf, c1 := c1, c2 := c2, c3 := c3, v := by unfold edgeC edgeW; rw [if_pos hz, if_pos hi, if_pos hf, if_neg c1, if_neg c2, if_neg c3] }
     · rw [if_neg hf] at h0; exact absurd h0 (by decide)
   · rw [if_neg hi] at h0; exact absurd h0 (by decide)
 · rw [if_neg hz] at h0; exact absurd h0 hz
theorem num_add2 : ∀ {l : List S75} {x : S75} {B : Int}, Cnt B l → numE (addE l x) ⟨x.f0, x.f1, x.f2, -x.f3⟩ = numE l x + x.f3
 | [], x, B, _ => by simp [addE, numE, kEq]
 | y :: l, x, B, hc => by
  by_cases hy : kLt y x
  · rw [addE, if_pos hy, numE, if_neg (k_lt_ne (b := ⟨x.f0, x.f1, x.f2, -x.f3⟩) hy), num_add2 hc.tail, numE, if_neg (k_lt_ne hy)]
  · by_cases he : kEq y x
    · rw [addE, if_neg hy, if_pos he, numE, if_pos he]
      by_cases hz : y.f3 + x.f3 = 0
      · rw [if_pos hz, num_none]
        · omega
        · intro z hz' hk
          have := (List.pairwise_cons.1 hc.srt).1 z hz'
          have hk' : kEq z x := hk
          unfold kEq kLt at *; omega
      · have he2 : kEq (⟨y.f0, y.f1, y.f2, y.f3 + x.f3⟩ : S75) ⟨x.f0, x.f1, x.f2, -x.f3⟩ := he
        rw [if_neg hz, numE, if_pos he2]
    · have hgt : kLt x y := by
       rcases k_tri y x with h | h | h
       · exact absurd h hy
       · exact absurd h he
       · exact h
      rw [addE, if_neg hy, if_neg he, numE, if_pos ⟨rfl, rfl, rfl⟩, numE, if_neg he, num_none l _ (later_ne hc hgt)]
      omega
theorem ef_has {l : List S96} {l1 : List S101} {ns es : List S75} {e a b s : Int} (S : SV l l1 ns es) (F : EF l l1 ns es e a b s) : hasE ns a = true ∧ hasE ns b = true := by
 rcases F.s1 with h1 | h1
 · exact Decidable.byContradiction fun hh => F.c2 ⟨h1, hh⟩
 · obtain ⟨y, hy, k0, k1, k2⟩ := num_has fun hh => F.c1 ⟨h1, hh⟩
   obtain ⟨_, _, _, _, k4, k5⟩ := S.ek y hy
   simp only at k1 k2
   rw [k1] at k4; rw [k2] at k5
   exact ⟨k4, k5⟩
theorem edge_next {l : List S96} {l1 : List S101} {ns es : List S75} {e a b s : Int} (h : Small l) (h1l : l1.length ≤ 30) (S : SV l l1 ns es) (F : EF l l1 ns es e a b s) : SV l l1 ns (addE es ⟨e, a, b, s⟩) := by
 have hx := ek_kIn h h1l F.i.1 F.i.2.1 F.i.2.2 s
 have c := add_Cnt2 S.e hx (F.s1.imp id fun q => ⟨q, num_has fun h0 => F.c1 ⟨q, h0⟩⟩) (by decide)
 have hsum : sumE (addE es ⟨e, a, b, s⟩) ≤ 80 := by
  rw [add_sum]; have := S.esum; have := F.c3; have := F.s1; simp only; omega
 refine { v := S.v, n := S.n, nk := S.nk, nsum := S.nsum, e := c.sum hsum, ek := fun y hy => ?_, esum := hsum }
 rcases add_mem hy with hk | hy
 · obtain ⟨k0, k1, k2⟩ := hk
   simp only at k0 k1 k2
   have hh := ef_has S F
   rw [k0, k1, k2]
   exact ⟨F.i.1, F.i.2.1, F.i.2.2, F.f, hh.1, hh.2⟩
 · exact S.ek y hy
theorem edge_back {l : List S96} {l1 : List S101} {ns es : List S75} {e a b s : Int} (h : Small l) (h1l : l1.length ≤ 30) (h0 : (edgeC l l1 ns es e a b s).2.2 = 0) :
 edgeC l l1 (edgeC l l1 ns es e a b s).1 (edgeC l l1 ns es e a b s).2.1 e a b (-s) = (ns, es, 0) := by
 have F := edge_facts h0
 have S := sv_of h h1l F.z
 have S' := edge_next h h1l S F
 have hs := F.s1
 have hb := add_back (x := ⟨e, a, b, s⟩) S.e (by simp only; omega)
 simp only at hb
 have hn := num_add2 (x := ⟨e, a, b, s⟩) S.e
 simp only at hn
 have hsum := add_sum es ⟨e, a, b, s⟩
 simp only at hsum
 have hge : 0 ≤ numE es ⟨e, a, b, s⟩ := by
  by_cases hq : numE es ⟨e, a, b, s⟩ = 0
  · omega
  · have := num_pos (fun y hy => (S.e.num y hy).1) (num_has hq); omega
 rw [F.v]
 simp only
 unfold edgeC
 rw [if_pos (sv_zero S'), if_pos ⟨F.i, by omega⟩, if_pos F.f]
 unfold edgeW
 rw [hb, if_neg (fun hh => ?_), if_neg (fun hh => ?_), if_neg (fun hh => ?_)]
 · obtain ⟨e1, e2⟩ := hh
   rw [hsum] at e2
   have := S.esum; omega
 · exact hh.2 (ef_has S F)
 · obtain ⟨e1, e2⟩ := hh
   rw [hn] at e2
   omega
theorem ec_len {l : List S96} {l1 : List S101} {ns es : List S75} {e a b s : Int} : (edgeC l l1 ns es e a b s).1.length ≤ ns.length ∧ (edgeC l l1 ns es e a b s).2.1.length ≤ es.length + 1 := by
 have z : ∀ n : Nat, 0 ≤ n := Nat.zero_le
 unfold edgeC
 split
 · split
   · split
     · unfold edgeW
       split
       · exact ⟨z _, z _⟩
       · split
         · exact ⟨z _, z _⟩
         · split
           · exact ⟨z _, z _⟩
           · exact ⟨Nat.le_refl _, add_len _ _⟩
     · exact ⟨z _, z _⟩
   · exact ⟨z _, z _⟩
 · exact ⟨z _, z _⟩
theorem StatisticEdge_pure : ∀ (l0_0 : List S96) (l0_1 : List S101) (l1_0 : List S75) (l1_1 : List S75) (a2_0 : Int) (a2_1 : Int) (a2_2 : Int) (a2_3 : Int), (l0_0.length ≤ reachBytes ∧ ∀ x_ ∈ l0_0, good96 x_) → (l0_1.length ≤ reachBytes ∧ ∀ x_ ∈ l0_1, good101 x_) → (l1_0.length ≤ reachBytes ∧ ∀ x_ ∈ l1_0, good75 x_) → (l1_1.length ≤ reachBytes ∧ ∀ x_ ∈ l1_1, good75 x_) → (Lit.int .i64 a2_0).wf = true → (Lit.int .i64 a2_1).wf = true → (Lit.int .i64 a2_2).wf = true → (Lit.int .i64 a2_3).wf = true → ∃ k, scarfjointlaw18_StatisticEdge.f k l0_0 l0_1 l1_0 l1_1 a2_0 a2_1 a2_2 a2_3 = some true := by
 intro l l1 ns es p q r s hl hl1 _ _ _ _ _ _
 have no : Ev (fun k => scarfjointlaw18_StatisticEdge.j0 k true l l1 ns es p q r s) true := by
  refine Ev.step (fun k => by rw [scarfjointlaw18_StatisticEdge.j0]) ?_
  simp only [↓reduceIte]
  exact Ev.bind awake_ev4 (Ev.now _)
 refine Ev.rounds ?_
 unfold scarfjointlaw18_StatisticEdge.f
 refine Ev.bind awake_ev4 ?_
 simp only [↓reduceIte]
 obtain ⟨q0, hb, hQ⟩ := few_ev l l1 hl.2 hl.1 hl1.1
 refine Ev.bind hb ?_
 cases q0
 · simp only [Bool.false_eq_true, ↓reduceIte]; exact no
 · obtain ⟨hs, h30⟩ := hQ rfl
   simp only [↓reduceIte]
   rcases sfew_f4 ns es with ⟨e, hn, he⟩ | e
   · rw [e]
     simp only [Option.bind_some, Bool.not_true]
     refine Ev.step (fun k => by rw [scarfjointlaw18_StatisticEdge.j0]) ?_
     simp only [Bool.false_eq_true, ↓reduceIte, copied_f ns es (by omega) (by omega), Option.bind_some]
     refine Ev.bind (sedge_ev l l1 hl.2 hs hl1.2 h30 ns es (by omega) (by omega) p q r s) ?_
     refine Ev.bind (rsedge_ev l l1 hl.2 hs hl1.2 h30 ns es (by omega) (by omega) p q r s) ?_
     have hlen := ec_len (l := l) (l1 := l1) (ns := ns) (es := es) (e := p) (a := q) (b := r) (s := s)
     simp only [↓reduceIte]
     refine Ev.bind (same_ev _ _ (by omega) (by omega)) ?_
     simp only [↓reduceIte]
     refine Ev.step (fun k => by rw [scarfjointlaw18_StatisticEdge.j1]) ?_
     by_cases h0 : (edgeC l l1 ns es p q r s).2.2 = 0
     · have hbk := edge_back hs h30 h0
       have hss := (edge_facts h0).s1
       have hw : wrap64 (-s) = -s := by rcases hss with rfl | rfl <;> exact w64 _ (by omega) (by omega)
       have bk := sedge_ev l l1 hl.2 hs hl1.2 h30 (edgeC l l1 ns es p q r s).1 (edgeC l l1 ns es p q r s).2.1 (by omega) (by omega) p q r (-s)
       rw [hbk] at bk
       simp only [h0, bne_self_eq_false, Bool.false_eq_true, ↓reduceIte, hw]
       refine Ev.bind bk ?_
       simp only [↓reduceIte]
       exact Ev.bind (same_ev ns es (by omega) (by omega)) (Ev.now _)
     · have hne : ((edgeC l l1 ns es p q r s).2.2 != 0) = true := bne_iff_ne.2 h0
       simp only [hne, ↓reduceIte]
       exact Ev.bind (same_ev _ _ (by omega) (by omega)) (Ev.now _)
   · rw [e]
     simp only [Option.bind_some, Bool.not_false]; exact no
end Go.Proofs.YtfpianecohobjaaGreat.P
