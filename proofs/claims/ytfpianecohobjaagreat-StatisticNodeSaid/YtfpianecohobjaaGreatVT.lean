/- StatisticOf: a part of its proof. No condition. -/
import Derived.Test.YtfpianecohobjaaGreatVS
import Derived.Test.YtfpianecohobjaaGreatVH2
import Derived.Test.YtfpianecohobjaaGreatVPx46
import Derived.Test.YtfpianecohobjaaGreatVMh
import Derived.Test.YtfpianecohobjaaGreatVMk
import Derived.Test.YtfpianecohobjaaGreatVMd
import Derived.Test.YtfpianecohobjaaGreatVPx35
import Derived.Test.YtfpianecohobjaaGreatVPx36
import Derived.Test.YtfpianecohobjaaGreatVPx60
namespace Go.Proofs.YtfpianecohobjaaGreat.P
open Go.RowKit Go.Proofs.YtfpianecohobjaaGreatW.PrintWords Go.Proofs.YtfpianecohobjaaGreatW.PrintLast
set_option maxRecDepth 100000
set_option linter.unusedVariables false
set_option linter.unusedSimpArgs false
set_option linter.unusedSectionVars false
def kLt (a b : S75) : Prop := a.f0 < b.f0 ∨ (a.f0 = b.f0 ∧ (a.f1 < b.f1 ∨ (a.f1 = b.f1 ∧ a.f2 < b.f2)))
def kEq (a b : S75) : Prop := a.f0 = b.f0 ∧ a.f1 = b.f1 ∧ a.f2 = b.f2
instance (a b : S75) : Decidable (kLt a b) := by unfold kLt; exact inferInstance
instance (a b : S75) : Decidable (kEq a b) := by unfold kEq; exact inferInstance
def kIn (a : S75) : Prop := (0 ≤ a.f0 ∧ a.f0 ≤ 1000) ∧ (0 ≤ a.f1 ∧ a.f1 ≤ 1000) ∧ (0 ≤ a.f2 ∧ a.f2 ≤ 1000)
theorem cmp_lt {a b : S75} (ha : kIn a) (hb : kIn b) : cmpE a.f0 a.f1 a.f2 b.f0 b.f1 b.f2 < 0 ↔ kLt a b := by
 unfold kIn at ha hb
 unfold cmpE kLt
 rw [w64 (a.f0 - b.f0) (by omega) (by omega), w64 (a.f1 - b.f1) (by omega) (by omega), w64 (a.f2 - b.f2) (by omega) (by omega)]
 split
 · split <;> omega
 · omega
theorem cmp_eq {a b : S75} (ha : kIn a) (hb : kIn b) : cmpE a.f0 a.f1 a.f2 b.f0 b.f1 b.f2 = 0 ↔ kEq a b := by
 unfold kIn at ha hb
 unfold cmpE kEq
 rw [w64 (a.f0 - b.f0) (by omega) (by omega), w64 (a.f1 - b.f1) (by omega) (by omega), w64 (a.f2 - b.f2) (by omega) (by omega)]
 split
 · split <;> omega
 · omega
theorem rcmp_f (a b : S75) : scarfjointref18_compare.f a.f0 a.f1 a.f2 a.f3 b.f0 b.f1 b.f2 b.f3 = some (cmpE a.f0 a.f1 a.f2 b.f0 b.f1 b.f2) ∨ ¬ (kIn a ∧ kIn b) := by
 by_cases h : kIn a ∧ kIn b
 · left
   obtain ⟨ha, hb⟩ := h
   unfold kIn at ha hb
   unfold scarfjointref18_compare.f cmpE
   rw [w64 (a.f0 - b.f0) (by omega) (by omega), w64 (a.f1 - b.f1) (by omega) (by omega), w64 (a.f2 - b.f2) (by omega) (by omega)]
   by_cases h0 : a.f0 = b.f0
   · have e0 : a.f0 - b.f0 = 0 := by omega
     by_cases h1 : a.f1 = b.f1
     · have e1 : a.f1 - b.f1 = 0 := by omega
       simp only [h0, h1, e0, e1, ↓reduceIte]
       simp
     · have e1 : ¬ (a.f1 - b.f1 = 0) := by omega
       simp only [h1, e0, e1, ↓reduceIte, if_pos h0]
   · have e0 : ¬ (a.f0 - b.f0 = 0) := by omega
     simp only [h0, e0, ↓reduceIte]
 · exact Or.inr h
theorem rcmp_in {a b : S75} (ha : kIn a) (hb : kIn b) : scarfjointref18_compare.f a.f0 a.f1 a.f2 a.f3 b.f0 b.f1 b.f2 b.f3 = some (cmpE a.f0 a.f1 a.f2 b.f0 b.f1 b.f2) := by
 rcases rcmp_f a b with h | h
 · exact h
 · exact absurd ⟨ha, hb⟩ h
theorem k_tri (a b : S75) : kLt a b ∨ kEq a b ∨ kLt b a := by unfold kLt kEq; omega
theorem k_lt_ne {a b : S75} (h : kLt a b) : ¬ kEq a b := by unfold kLt kEq at *; omega
theorem k_lt_as {a b : S75} (h : kLt a b) : ¬ kLt b a := by unfold kLt at *; omega
theorem k_trans {a b c : S75} (h : kLt a b) (h' : kLt b c) : kLt a c := by unfold kLt at *; omega
theorem k_eq_lt {a b c : S75} (h : kEq a b) (h' : kLt a c) : kLt b c := by unfold kEq kLt at *; omega
structure Cnt (B : Int) (l : List S75) : Prop where
 srt : l.Pairwise kLt
 key : ∀ y ∈ l, kIn y
 num : ∀ y ∈ l, 1 ≤ y.f3 ∧ y.f3 ≤ B
theorem Cnt.tail {B : Int} {y : S75} {l : List S75} (h : Cnt B (y :: l)) : Cnt B l :=
 ⟨(List.pairwise_cons.1 h.srt).2, fun z hz => h.key z (List.mem_cons_of_mem _ hz), fun z hz => h.num z (List.mem_cons_of_mem _ hz)⟩
def addE : List S75 → S75 → List S75
 | [], x => [x]
 | y :: l, x => if kLt y x then y :: addE l x else if kEq y x then (if y.f3 + x.f3 = 0 then l else ⟨y.f0, y.f1, y.f2, y.f3 + x.f3⟩ :: l) else x :: y :: l
def posE : List S75 → S75 → Nat
 | [], _ => 0
 | y :: l, x => if kLt y x then posE l x + 1 else 0
theorem posE_le : ∀ (l : List S75) (x : S75), posE l x ≤ l.length
 | [], _ => Nat.le_refl _
 | y :: l, x => by
  unfold posE
  split
  · exact Nat.succ_le_succ (posE_le l x)
  · exact Nat.zero_le _
theorem rd75_nat (l : List S75) (i : Nat) (h : i < l.length) : rd_T75 l (i : Int) = l[i] := by unfold rd_T75; simp [h]
theorem pos_below : ∀ (l : List S75) (x : S75) (h : Nat), h < posE l x → (hl : h < l.length) → kLt l[h] x
 | [], x, h, hp, hl => by cases hl
 | y :: l, x, h, hp, hl => by
  unfold posE at hp
  split at hp
  · next hy =>
    cases h with
    | zero => exact hy
    | succ h => exact pos_below l x h (by omega) (by simpa using hl)
  · omega
theorem pos_above {B : Int} : ∀ (l : List S75) (x : S75), Cnt B l → ∀ (h : Nat), posE l x ≤ h → (hl : h < l.length) → ¬ kLt l[h] x
 | [], x, _, h, hp, hl => by cases hl
 | y :: l, x, hc, h, hp, hl => by
  unfold posE at hp
  split at hp
  · next hy =>
    cases h with
    | zero => omega
    | succ h => exact pos_above l x hc.tail h (by omega) (by simpa using hl)
  · next hy =>
    cases h with
    | zero => exact hy
    | succ h =>
     intro hk
     have hl' : h < l.length := by simpa using hl
     have := (List.pairwise_cons.1 hc.srt).1 l[h] (List.getElem_mem hl')
     exact hy (k_trans this hk)
theorem bsE_at (p : Nat → Bool) (m : Nat) : ∀ (n i j : Nat), j - i ≤ n → i ≤ m → m ≤ j → (∀ h, i ≤ h → h < m → p h = true) → (∀ h, m ≤ h → h < j → p h = false) → bsE p n i j = m
 | 0, i, j, hn, hi, hj, _, _ => by rw [bsE]; omega
 | n + 1, i, j, hn, hi, hj, h1, h2 => by
  rw [bsE]
  split
  · next hlt =>
    by_cases hm : (i + j) / 2 < m
    · rw [if_pos (h1 _ (by omega) hm)]
      exact bsE_at p m n _ _ (by omega) (by omega) hj (fun h ha hb => h1 h (by omega) hb) h2
    · rw [if_neg (by rw [h2 _ (by omega) (by omega)]; simp)]
      exact bsE_at p m n _ _ (by omega) hi (by omega) h1 (fun h ha hb => h2 h ha (by omega))
  · omega
theorem search_pos {B : Int} {l : List S75} {x : S75} (hc : Cnt B l) (hx : kIn x) : searchAt l x.f0 x.f1 x.f2 = posE l x := by
 unfold searchAt
 refine bsE_at _ _ _ _ _ (by omega) (Nat.zero_le _) (posE_le l x) (fun h _ hh => ?_) (fun h hh hl => ?_)
 · have hl : h < l.length := Nat.lt_of_lt_of_le hh (posE_le l x)
   refine decide_eq_true ?_
   unfold cmpAt
   rw [rd75_nat _ _ hl]
   exact (cmp_lt (hc.key _ (List.getElem_mem hl)) hx).2 (pos_below l x h hh hl)
 · refine decide_eq_false ?_
   unfold cmpAt
   rw [rd75_nat _ _ hl]
   exact fun h' => pos_above l x hc h hh hl ((cmp_lt (hc.key _ (List.getElem_mem hl)) hx).1 h')
theorem add_found : ∀ (l : List S75) (x : S75) (h : posE l x < l.length), kEq l[posE l x] x → l[posE l x].f3 + x.f3 ≠ 0 → addE l x = l.set (posE l x) ⟨l[posE l x].f0, l[posE l x].f1, l[posE l x].f2, l[posE l x].f3 + x.f3⟩
 | [], x, h, _, _ => by cases h
 | y :: l, x, h, he, hz => by
  by_cases hy : kLt y x
  · have hp : posE (y :: l) x = posE l x + 1 := by rw [posE, if_pos hy]
    simp only [hp, List.getElem_cons_succ] at he hz ⊢
    rw [addE, if_pos hy, List.set_cons_succ, add_found l x (by rw [hp] at h; simpa using h) he hz]
  · have hp : posE (y :: l) x = 0 := by rw [posE, if_neg hy]
    simp only [hp, List.getElem_cons_zero] at he hz ⊢
    rw [addE, if_neg hy, if_pos he, if_neg hz]; rfl
theorem add_new : ∀ (l : List S75) (x : S75), (∀ h : posE l x < l.length, ¬ kEq l[posE l x] x) → addE l x = l.take (posE l x) ++ x :: l.drop (posE l x)
 | [], x, _ => rfl
 | y :: l, x, hn => by
  by_cases hy : kLt y x
  · have hp : posE (y :: l) x = posE l x + 1 := by rw [posE, if_pos hy]
    rw [addE, if_pos hy, hp, List.take_succ_cons, List.drop_succ_cons, List.cons_append, add_new l x (fun h => by
     have := hn (by rw [hp]; simpa using h)
     simpa only [hp, List.getElem_cons_succ] using this)]
  · have hp : posE (y :: l) x = 0 := by rw [posE, if_neg hy]
    have := hn (by rw [hp]; simp)
    simp only [hp, List.getElem_cons_zero] at this
    rw [addE, if_neg hy, if_neg this, hp]; rfl
theorem change_done {l : List S75} {x : S75} (hx : kIn x) (hk : ∀ y ∈ l, kIn y) (h3 : ∀ y ∈ l, 1 ≤ y.f3 ∧ y.f3 ≤ 1000) (z : Int) (hl : l.length ≤ 1000) : ∀ (m i : Nat) (acc : List S75), i + m = l.length → acc.length ≤ 2 * i + 2 → (∀ h, i ≤ h → (hh : h < l.length) → kLt x l[h]) →
 Ev (fun k => scarfjointref18_change.l0 k l x.f3 acc true (i : Int) x.f0 x.f1 x.f2 z) (acc ++ l.drop i)
 | 0, i, acc, hi, ha, _ => by
  refine Ev.step (fun k => by rw [scarfjointref18_change.l0]) ?_
  rw [List.drop_eq_nil_of_le (by omega), List.append_nil]
  simp only [show ¬ ((i : Int) < (l.length : Int)) by omega, ↓reduceIte]; exact Ev.now _
 | m + 1, i, acc, hi, ha, hg => by
  have hil : i < l.length := by omega
  have hki := hk _ (List.getElem_mem hil)
  have h3i := h3 _ (List.getElem_mem hil)
  have hgt := hg i (Nat.le_refl _) hil
  have hc := cmp_lt hki hx
  have hce := cmp_eq hki hx
  have hcp : cmpE l[i].f0 l[i].f1 l[i].f2 x.f0 x.f1 x.f2 > 0 := by
   rcases Int.lt_trichotomy (cmpE l[i].f0 l[i].f1 l[i].f2 x.f0 x.f1 x.f2) 0 with h | h | h
   · exact absurd (hc.1 h) (k_lt_as hgt)
   · exact absurd (hce.1 h) (fun h => by unfold kLt kEq at *; omega)
   · exact h
  refine Ev.step (fun k => by rw [scarfjointref18_change.l0]) ?_
  have hrc := rcmp_in hki (b := ⟨x.f0, x.f1, x.f2, z⟩) hx
  simp only [show ((i : Int) < (l.length : Int)) by omega, show (0 : Int) ≤ (i : Int) by omega, ↓reduceIte, rd75_nat l i hil]
  simp only at hrc
  rw [hrc]
  simp only [Option.bind_some, hcp, ↓reduceIte]
  refine Ev.step (fun k => by rw [scarfjointref18_change.j1]) ?_
  simp only [Bool.not_true, Bool.false_eq_true, ↓reduceIte]
  refine Ev.step (fun k => by rw [scarfjointref18_change.j2]) ?_
  simp only [show ((i : Int) < (l.length : Int)) by omega, show (0 : Int) ≤ (i : Int) by omega, show ¬ (cmpE l[i].f0 l[i].f1 l[i].f2 x.f0 x.f1 x.f2 = 0) by omega, rd75_nat l i hil, show l[i].f3 > 0 by omega, show acc.length < 4398046511104 by omega, ↓reduceIte]
  rw [w64 _ (by omega) (by omega), List.drop_eq_getElem_cons hil]
  have := change_done hx hk h3 z hl m (i + 1) (acc ++ [l[i]]) (by omega) (by simp; omega) (fun h h1 h2 => hg h (by omega) h2)
  rw [List.append_assoc] at this
  exact this
theorem change_loop {B : Int} {l : List S75} {x : S75} (hc : Cnt B l) (hB : B ≤ 1000) (hx : kIn x) (hx3 : -1 ≤ x.f3 ∧ x.f3 ≤ 1000) (z : Int) (hl : l.length ≤ 1000) (hne : x.f3 = -1 → (∃ y ∈ l, kEq y x)) : ∀ (m i : Nat) (acc : List S75), i + m = l.length → acc.length = i → (∀ h, (hh : h < i) → (hl : h < l.length) → kLt l[h] x) →
 Ev (fun k => scarfjointref18_change.l0 k l x.f3 acc false (i : Int) x.f0 x.f1 x.f2 z) (acc ++ addE (l.drop i) x)
 | 0, i, acc, hi, ha, _ => by
  refine Ev.step (fun k => by rw [scarfjointref18_change.l0]) ?_
  rw [List.drop_eq_nil_of_le (by omega)]
  simp only [show ¬ ((i : Int) < (l.length : Int)) by omega, Bool.false_eq_true, show acc.length < 4398046511104 by omega, ↓reduceIte]; exact Ev.now _
 | m + 1, i, acc, hi, ha, hb => by
  have hil : i < l.length := by omega
  have hki := hc.key _ (List.getElem_mem hil)
  have h3i := hc.num _ (List.getElem_mem hil)
  have hcl := cmp_lt hki hx
  have hce := cmp_eq hki hx
  have h3 : ∀ y ∈ l, 1 ≤ y.f3 ∧ y.f3 ≤ 1000 := fun y hy => by have := hc.num y hy; omega
  refine Ev.step (fun k => by rw [scarfjointref18_change.l0]) ?_
  have hrc := rcmp_in hki (b := ⟨x.f0, x.f1, x.f2, z⟩) hx
  simp only [show ((i : Int) < (l.length : Int)) by omega, show (0 : Int) ≤ (i : Int) by omega, ↓reduceIte, rd75_nat l i hil]
  simp only at hrc
  rw [hrc]
  simp only [Option.bind_some]
  rw [List.drop_eq_getElem_cons hil]
  have later : ∀ h, i < h → (hh : h < l.length) → kLt l[i] l[h] := fun h h1 h2 => List.pairwise_iff_getElem.1 hc.srt i h hil h2 h1
  generalize hcv : cmpE l[i].f0 l[i].f1 l[i].f2 x.f0 x.f1 x.f2 = c at hcl hce
  by_cases hlt : kLt l[i] x
  · have hc0 := hcl.2 hlt
    simp only [show ¬ (c > 0) by omega, ↓reduceIte]
    refine Ev.step (fun k => by rw [scarfjointref18_change.j1]) ?_
    simp only [Bool.false_eq_true, ↓reduceIte]
    refine Ev.step (fun k => by rw [scarfjointref18_change.j2]) ?_
    simp only [show ((i : Int) < (l.length : Int)) by omega, show (0 : Int) ≤ (i : Int) by omega, show ¬ (c = 0) by omega, rd75_nat l i hil, show l[i].f3 > 0 by omega, show acc.length < 4398046511104 by omega, ↓reduceIte]
    rw [w64 _ (by omega) (by omega), addE, if_pos hlt]
    have := change_loop hc hB hx hx3 z hl hne m (i + 1) (acc ++ [l[i]]) (by omega) (by simp [ha]) (fun h h1 h2 => by
     rcases Nat.lt_or_eq_of_le (Nat.le_of_lt_succ h1) with h3 | rfl
     · exact hb h h3 h2
     · exact hlt)
    rw [List.append_assoc] at this
    exact this
  · rw [addE, if_neg hlt]
    by_cases heq : kEq l[i] x
    · have hc0 := hce.2 heq
      rw [if_pos heq]
      simp only [hc0, show ¬ ((0 : Int) > 0) by omega, ↓reduceIte]
      refine Ev.step (fun k => by rw [scarfjointref18_change.j1]) ?_
      simp only [Bool.false_eq_true, ↓reduceIte]
      refine Ev.step (fun k => by rw [scarfjointref18_change.j2]) ?_
      simp only [show ((i : Int) < (l.length : Int)) by omega, show (0 : Int) ≤ (i : Int) by omega, rd75_nat l i hil, show acc.length < 4398046511104 by omega, ↓reduceIte]
      rw [w64 (l[i].f3 + x.f3) (by omega) (by omega), w64 _ (by omega) (by omega)]
      have dn := fun acc' ha' => change_done hx hc.key h3 z hl m (i + 1) acc' (by omega) ha' (fun h h1 h2 => k_eq_lt heq (later h (by omega) h2))
      by_cases hz : l[i].f3 + x.f3 = 0
      · simp only [hz, show ¬ ((0 : Int) > 0) by omega, ↓reduceIte]
        exact dn acc (by omega)
      · simp only [show l[i].f3 + x.f3 > 0 by omega, hz, ↓reduceIte]
        have := dn (acc ++ [⟨l[i].f0, l[i].f1, l[i].f2, l[i].f3 + x.f3⟩]) (by simp; omega)
        rw [List.append_assoc] at this
        exact this
    · have hgt : kLt x l[i] := by
       rcases k_tri l[i] x with h | h | h
       · exact absurd h hlt
       · exact absurd h heq
       · exact h
      have hc0 : c > 0 := by
       rcases Int.lt_trichotomy c 0 with h | h | h
       · exact absurd (hcl.1 h) hlt
       · exact absurd (hce.1 h) heq
       · exact h
      rw [if_neg heq]
      simp only [hc0, Bool.not_false, ↓reduceIte]
      refine Ev.step (fun k => by rw [scarfjointref18_change.j1]) ?_
      simp only [show acc.length < 4398046511104 by omega, ↓reduceIte]
      refine Ev.step (fun k => by rw [scarfjointref18_change.j2]) ?_
      simp only [show ((i : Int) < (l.length : Int)) by omega, show (0 : Int) ≤ (i : Int) by omega, show ¬ (c = 0) by omega, rd75_nat l i hil, show l[i].f3 > 0 by omega, show (acc ++ [(⟨x.f0, x.f1, x.f2, x.f3⟩ : S75)]).length < 4398046511104 by simp; omega, ↓reduceIte]
      rw [w64 _ (by omega) (by omega)]
      have := change_done hx hc.key h3 z hl m (i + 1) (acc ++ [x] ++ [l[i]]) (by omega) (by simp; omega) (fun h h1 h2 => k_trans hgt (later h (by omega) h2))
      simp only [List.append_assoc] at this
      simp only [List.append_assoc]
      exact this
theorem change_ev {B : Int} {l : List S75} {x : S75} (hc : Cnt B l) (hB : B ≤ 1000) (hx : kIn x) (hx3 : -1 ≤ x.f3 ∧ x.f3 ≤ 1000) (z : Int) (hl : l.length ≤ 1000) (hne : x.f3 = -1 → (∃ y ∈ l, kEq y x)) :
 Ev (fun k => scarfjointref18_change.f k l x.f0 x.f1 x.f2 z x.f3) (addE l x) := by
 have := change_loop hc hB hx hx3 z hl hne l.length 0 [] (by omega) rfl (fun h h1 => absurd h1 (Nat.not_lt_zero _))
 exact this
theorem add_mem : ∀ {l : List S75} {x y : S75}, y ∈ addE l x → (kEq y x ∨ y ∈ l)
 | [], x, y, h => by
  obtain rfl : y = x := by simpa [addE] using h
  exact Or.inl ⟨rfl, rfl, rfl⟩
 | w :: l, x, y, h => by
  unfold addE at h
  split at h
  · rcases List.mem_cons.1 h with rfl | h
    · exact Or.inr List.mem_cons_self
    · rcases add_mem h with h | h
      · exact Or.inl h
      · exact Or.inr (List.mem_cons_of_mem _ h)
  · split at h
    · next he =>
      split at h
      · exact Or.inr (List.mem_cons_of_mem _ h)
      · rcases List.mem_cons.1 h with rfl | h
        · exact Or.inl he
        · exact Or.inr (List.mem_cons_of_mem _ h)
    · rcases List.mem_cons.1 h with rfl | h
      · exact Or.inl ⟨rfl, rfl, rfl⟩
      · exact Or.inr h
def sumE : List S75 → Int
 | [] => 0
 | y :: l => y.f3 + sumE l
theorem add_sum : ∀ (l : List S75) (x : S75), sumE (addE l x) = sumE l + x.f3
 | [], x => by simp [addE, sumE]
 | w :: l, x => by
  unfold addE
  split
  · rw [sumE, add_sum l x, sumE]; omega
  · split
    · split
      · next hz => rw [sumE]; omega
      · rw [sumE, sumE]; show w.f3 + x.f3 + _ = _; omega
    · rw [sumE]; omega
theorem add_len (l : List S75) (x : S75) : (addE l x).length ≤ l.length + 1 := by
 induction l with
 | nil => simp [addE]
 | cons w l ih =>
  unfold addE
  split
  · simpa using ih
  · split
    · split <;> simp <;> omega
    · simp
theorem add_keep : ∀ {l : List S75} {x z : S75}, 1 ≤ x.f3 → (∀ y ∈ l, 1 ≤ y.f3) → z ∈ l → ∃ y ∈ addE l x, kEq y z
 | [], x, z, _, _, h => by cases h
 | w :: l, x, z, h1, hn, h => by
  unfold addE
  split
  · rcases List.mem_cons.1 h with rfl | h
    · exact ⟨_, List.mem_cons_self, rfl, rfl, rfl⟩
    · obtain ⟨y, hy, he⟩ := add_keep h1 (fun y hy => hn y (List.mem_cons_of_mem _ hy)) h
      exact ⟨y, List.mem_cons_of_mem _ hy, he⟩
  · split
    · have := hn w List.mem_cons_self
      rw [if_neg (by omega)]
      rcases List.mem_cons.1 h with rfl | h
      · exact ⟨_, List.mem_cons_self, rfl, rfl, rfl⟩
      · exact ⟨z, List.mem_cons_of_mem _ h, rfl, rfl, rfl⟩
    · exact ⟨z, List.mem_cons_of_mem _ h, rfl, rfl, rfl⟩
theorem sum_ge : ∀ {l : List S75}, (∀ y ∈ l, 1 ≤ y.f3) → ∀ y ∈ l, y.f3 ≤ sumE l
 | [], _, y, h => by cases h
 | w :: l, hn, y, h => by
  have hw := hn w List.mem_cons_self
  have ih := fun z hz => sum_ge (l := l) (fun y hy => hn y (List.mem_cons_of_mem _ hy)) z hz
  have h0 : 0 ≤ sumE l := by
   clear h ih
   have : ∀ l : List S75, (∀ y ∈ l, 1 ≤ y.f3) → 0 ≤ sumE l := fun l => by
    induction l with
    | nil => intro _; exact Int.le_refl _
    | cons a l ih => intro h; have := h a List.mem_cons_self; have := ih (fun y hy => h y (List.mem_cons_of_mem _ hy)); rw [sumE]; omega
   exact this l (fun y hy => hn y (List.mem_cons_of_mem _ hy))
  rw [sumE]
  rcases List.mem_cons.1 h with rfl | h
  · omega
  · have := ih y h; omega
theorem scan_succ (F : Nat → Int) (m i : Nat) : scan F (m + 1) i = if F i = 0 then scan F m (i + 1) else F i := rfl
theorem scan_zero {F : Nat → Int} : ∀ (m i : Nat), scan F m i = 0 → ∀ j, i ≤ j → j < i + m → F j = 0
 | 0, i, h, j, h1, h2 => by omega
 | m + 1, i, h, j, h1, h2 => by
  unfold scan at h
  split at h
  · next h0 =>
    rcases Nat.lt_or_eq_of_le h1 with h3 | rfl
    · exact scan_zero m (i + 1) h j h3 (by omega)
    · exact h0
  · next h0 => exact absurd h h0
theorem scan_all {F : Nat → Int} : ∀ (m i : Nat), (∀ j, i ≤ j → j < i + m → F j = 0) → scan F m i = 0
 | 0, i, _ => rfl
 | m + 1, i, h => by
  unfold scan
  rw [if_pos (h i (Nat.le_refl _) (by omega))]
  exact scan_all m (i + 1) (fun j h1 h2 => h j (by omega) (by omega))
section typed
variable (l : List S96) (l1 : List S101) (hg : Good l) (h : Small l) (h1g : ∀ x ∈ l1, good101 x) (h1l : l1.length ≤ 30) (g : List Int) (es : List S56)
include hg h h1g h1l
end typed
section of
variable (l : List S96) (l1 : List S101) (hg : Good l) (h : Small l) (h1g : ∀ x ∈ l1, good101 x) (h1l : l1.length ≤ 30) (g : List Int) (es : List S56)
include hg h h1g h1l
end of
theorem same_loop (a : List S75) (ha : a.length ≤ 1000) : ∀ (m i : Nat), i + m = a.length → Ev (fun k => scarfjointref18_SameCounts.l0 k a a (i : Int)) true
 | 0, i, hi => by
  refine Ev.step (fun k => by rw [scarfjointref18_SameCounts.l0]) ?_
  simp only [show ¬ ((i : Int) < (a.length : Int)) by omega, ↓reduceIte]; exact Ev.now _
 | m + 1, i, hi => by
  refine Ev.step (fun k => by rw [scarfjointref18_SameCounts.l0]) ?_
  simp only [show ((i : Int) < (a.length : Int)) by omega, show (0 : Int) ≤ (i : Int) by omega, beq_self_eq_true, Bool.not_true, Bool.or_self, Bool.false_eq_true, ↓reduceIte]
  rw [w64 _ (by omega) (by omega)]
  exact same_loop a ha m (i + 1) (by omega)
theorem same_ev (a b : List S75) (ha : a.length ≤ 1000) (hb : b.length ≤ 1000) : Ev (fun k => scarfjointref18_Same.f k a b a b) true := by
 unfold scarfjointref18_Same.f scarfjointref18_SameCounts.f
 simp only [↓reduceIte]
 refine Ev.bind (same_loop a ha a.length 0 (by omega)) ?_
 simp only [↓reduceIte]
 refine Ev.bind (same_loop b hb b.length 0 (by omega)) ?_
 exact Ev.now _
def isIn (a n : Int) : Bool := decide (0 ≤ a) && decide (a < n)
theorem is_f (a n : Int) : statistic_is.f a n = some (isIn a n) := by
 unfold statistic_is.f isIn
 by_cases h : 0 ≤ a
 · rw [if_pos h]; simp [h]
 · rw [if_neg h]; simp [h]
def cmpAtE (l : List S75) (i : Nat) : Int := cmpE (rd_T75 l ((i : Int) - 1)).f0 (rd_T75 l ((i : Int) - 1)).f1 (rd_T75 l ((i : Int) - 1)).f2 (rd_T75 l (i : Int)).f0 (rd_T75 l (i : Int)).f1 (rd_T75 l (i : Int)).f2
def ordE (l : List S75) (i : Nat) : Int := if 0 < i then (if cmpAtE l i ≥ 0 then 12 else 0) else 0
def nBad (l : List S96) (c : S75) : Bool := !(isIn c.f0 (l.length : Int) && (decide (c.f1 = 0) && (decide (c.f2 = 0) && (decide (1 ≤ c.f3) && decide (c.f3 ≤ 40)))))
def sN (l : List S96) (ns : List S75) (i : Nat) : Int := if nBad l (rd_T75 ns (i : Int)) = true then 6 else ordE ns i
def eBad (l : List S96) (l1 : List S101) (c : S75) : Bool := !(isIn c.f0 (l1.length : Int) && (isIn c.f1 (l.length : Int) && (isIn c.f2 (l.length : Int) && (decide (1 ≤ c.f3) && decide (c.f3 ≤ 80)))))
def hasE (ns : List S75) (a : Int) : Bool := ns.any fun c => c.f0 == a
def sE (l : List S96) (l1 : List S101) (ns es : List S75) (i : Nat) : Int := if eBad l l1 (rd_T75 es (i : Int)) = true then 6 else if fitsE l l1 (rd_T75 es (i : Int)).f0 (rd_T75 es (i : Int)).f1 (rd_T75 es (i : Int)).f2 = true then (if (hasE ns (rd_T75 es (i : Int)).f1 && hasE ns (rd_T75 es (i : Int)).f2) = true then ordE es i else 10) else 13
def sumV (es : List S75) : Int := if sumE es > 80 then 3 else 0
def sEdgesV (l : List S96) (l1 : List S101) (ns es : List S75) : Int := if scan (sE l l1 ns es) es.length 0 = 0 then sumV es else scan (sE l l1 ns es) es.length 0
def sNodesV (l : List S96) (l1 : List S101) (ns es : List S75) : Int := if sumE ns > 40 then 3 else sEdgesV l l1 ns es
def sValidE (l : List S96) (l1 : List S101) (ns es : List S75) : Int := if (validE l l1).2 = 0 then (if scan (sN l ns) ns.length 0 = 0 then sNodesV l l1 ns es else scan (sN l ns) ns.length 0) else (validE l l1).2
theorem total_loop (l : List S75) (hl : l.length ≤ 1000) (hn : ∀ y ∈ l, 1 ≤ y.f3 ∧ y.f3 ≤ 80) : ∀ (m i : Nat) (a : Int), i + m = l.length → 0 ≤ a ∧ a ≤ 80 * (i : Int) → Ev (fun k => statistic_total.l0 k a l (l.length : Int) (i : Int)) (a + sumE (l.drop i))
 | 0, i, a, hi, ha => by
  refine Ev.step (fun k => by rw [statistic_total.l0]) ?_
  rw [List.drop_eq_nil_of_le (by omega)]
  simp only [show ¬ ((i : Int) < (l.length : Int)) by omega, ↓reduceIte, sumE, Int.add_zero]; exact Ev.now _
 | m + 1, i, a, hi, ha => by
  have hil : i < l.length := by omega
  have hy := hn _ (List.getElem_mem hil)
  refine Ev.step (fun k => by rw [statistic_total.l0]) ?_
  simp only [show ((i : Int) < (l.length : Int)) by omega, show (0 : Int) ≤ (i : Int) by omega, ↓reduceIte, rd75_nat l i hil]
  rw [w64 _ (by omega) (by omega), w64 _ (by omega) (by omega), List.drop_eq_getElem_cons hil, sumE, ← Int.add_assoc]
  exact total_loop l hl hn m (i + 1) _ (by omega) (by omega)
theorem total_ev (l : List S75) (hl : l.length ≤ 1000) (hn : ∀ y ∈ l, 1 ≤ y.f3 ∧ y.f3 ≤ 80) : Ev (fun k => statistic_total.f k l) (sumE l) := by
 have := total_loop l hl hn l.length 0 0 (by omega) (by omega)
 rw [Int.zero_add, List.drop_zero] at this
 exact this
theorem compare_ev (a0 a1 a2 a3 b0 b1 b2 b3 : Int) : Ev (fun k => statistic_compare.f k a0 a1 a2 a3 b0 b1 b2 b3) (cmpE a0 a1 a2 b0 b1 b2) := Ev.of (fun k => statistic_compare.mono _ _ _ _ _ _ _ _ k) (k := 5) (compare_f a0 a1 a2 a3 b0 b1 b2 b3)
section sval
variable (l : List S96) (l1 : List S101) (hg : Good l) (h : Small l) (h1g : ∀ x ∈ l1, good101 x) (h1l : l1.length ≤ 30) (ns es : List S75) (hn : ns.length ≤ 1000) (he : es.length ≤ 1000)
include hg h h1g h1l hn he
theorem sval_edges : ∀ (m i : Nat), i + m = es.length → (∀ j, j < i → sE l l1 ns es j = 0) → Ev (fun k => statistic_Valid.l1 k es (es.length : Int) (i : Int) l l1 ns es) (if scan (sE l l1 ns es) m i = 0 then sumV es else scan (sE l l1 ns es) m i)
 | 0, i, hi, hp => by
  refine Ev.step (fun k => by rw [statistic_Valid.l1]) ?_
  simp only [show ¬ ((i : Int) < (es.length : Int)) by omega, ↓reduceIte, scan]
  refine Ev.bind (total_ev es he (fun y hy => ?_)) ?_
  · obtain ⟨j, hj, rfl⟩ := List.getElem_of_mem hy
    have := hp j (by omega)
    unfold sE at this
    split at this
    · exact absurd this (by decide)
    · next hb =>
      rw [rd75_nat _ _ hj] at hb
      simp [eBad] at hb
      omega
  · unfold sumV
    by_cases hs : sumE es > 80
    · simp only [hs, ↓reduceIte]; exact Ev.now _
    · simp only [hs, ↓reduceIte]; exact Ev.now _
 | m + 1, i, hi, hp => by
  have next_ : sE l l1 ns es i = 0 → Ev (fun k => statistic_Valid.l1 k es (es.length : Int) (wrap64 ((i : Int) + 1)) l l1 ns es) (if scan (sE l l1 ns es) (m + 1) i = 0 then sumV es else scan (sE l l1 ns es) (m + 1) i) := fun h0 => by
   rw [scan_succ, if_pos h0, w64 _ (by omega) (by omega)]
   exact sval_edges m (i + 1) (by omega) (fun j hj => by
    rcases Nat.lt_or_eq_of_le (Nat.le_of_lt_succ hj) with h1 | rfl
    · exact hp j h1
    · exact h0)
  have stop_ : ∀ e : Int, sE l l1 ns es i = e → e ≠ 0 → (if scan (sE l l1 ns es) (m + 1) i = 0 then sumV es else scan (sE l l1 ns es) (m + 1) i) = e := fun e h1 h2 => by
   rw [scan_succ, h1, if_neg h2, if_neg h2]
  refine Ev.step (fun k => by rw [statistic_Valid.l1]) ?_
  simp only [show ((i : Int) < (es.length : Int)) by omega, show (0 : Int) ≤ (i : Int) by omega, ↓reduceIte, is_f, Option.bind_some]
  generalize hc : rd_T75 es (i : Int) = c
  have bad : eBad l l1 c = true → Ev (fun k => statistic_Valid.j3 k (i : Int) es (es.length : Int) (i : Int) true l l1 ns es c.f0 c.f1 c.f2 c.f3) (if scan (sE l l1 ns es) (m + 1) i = 0 then sumV es else scan (sE l l1 ns es) (m + 1) i) := fun hb => by
   rw [stop_ 6 (by unfold sE; rw [hc, if_pos hb]) (by decide)]
   refine Ev.step (fun k => by rw [statistic_Valid.j3]) ?_
   simp only [↓reduceIte]; exact Ev.now _
  have j4 : eBad l l1 c = false → fitsE l l1 c.f0 c.f1 c.f2 = true → ∀ b : Bool, b = !(hasE ns c.f1 && hasE ns c.f2) → Ev (fun k => statistic_Valid.j4 k (i : Int) es (es.length : Int) (i : Int) b l l1 ns es c.f0 c.f1 c.f2 c.f3) (if scan (sE l l1 ns es) (m + 1) i = 0 then sumV es else scan (sE l l1 ns es) (m + 1) i) := fun hb hf b hbb => by
   refine Ev.step (fun k => by rw [statistic_Valid.j4]) ?_
   cases hh : (hasE ns c.f1 && hasE ns c.f2)
   · rw [hh] at hbb
     rw [stop_ 10 (by unfold sE; rw [hc, if_neg (by simp [hb]), if_pos hf, if_neg (by simp [hh])]) (by decide), hbb]
     simp only [Bool.not_false, ↓reduceIte]; exact Ev.now _
   · rw [hh] at hbb
     have e0 : sE l l1 ns es i = ordE es i := by unfold sE; rw [hc, if_neg (by simp [hb]), if_pos hf, if_pos hh]
     rw [hbb]
     simp only [Bool.not_true, Bool.false_eq_true, ↓reduceIte]
     by_cases hi0 : 0 < i
     · rw [w64 ((i : Int) - 1) (by omega) (by omega)]
       simp only [show (i : Int) > 0 by omega, show (0 : Int) ≤ (i : Int) - 1 by omega, show (i : Int) - 1 < (es.length : Int) by omega, ↓reduceIte]
       refine Ev.bind (compare_ev _ _ _ _ _ _ _ _) ?_
       have e1 : ordE es i = if cmpE (rd_T75 es ((i : Int) - 1)).f0 (rd_T75 es ((i : Int) - 1)).f1 (rd_T75 es ((i : Int) - 1)).f2 c.f0 c.f1 c.f2 ≥ 0 then 12 else 0 := by
        unfold ordE cmpAtE; rw [if_pos hi0, hc]
       by_cases ho : cmpE (rd_T75 es ((i : Int) - 1)).f0 (rd_T75 es ((i : Int) - 1)).f1 (rd_T75 es ((i : Int) - 1)).f2 c.f0 c.f1 c.f2 ≥ 0
       · rw [if_pos ho] at e1
         rw [stop_ 12 (by rw [e0, e1]) (by decide)]
         simp only [ho, ↓reduceIte]; exact Ev.now _
       · rw [if_neg ho] at e1
         simp only [ho, ↓reduceIte]
         exact next_ (by rw [e0, e1])
     · simp only [show ¬ ((i : Int) > 0) by omega, ↓reduceIte]
       exact next_ (by rw [e0]; unfold ordE; rw [if_neg hi0])
  have good : eBad l l1 c = false → Ev (fun k => statistic_Valid.j3 k (i : Int) es (es.length : Int) (i : Int) false l l1 ns es c.f0 c.f1 c.f2 c.f3) (if scan (sE l l1 ns es) (m + 1) i = 0 then sumV es else scan (sE l l1 ns es) (m + 1) i) := fun hb => by
   refine Ev.step (fun k => by rw [statistic_Valid.j3]) ?_
   simp only [Bool.false_eq_true, ↓reduceIte]
   refine Ev.bind (Fits_ev l l1 hg h h1g h1l _ _ _) ?_
   cases hf : fitsE l l1 c.f0 c.f1 c.f2
   · rw [stop_ 13 (by unfold sE; rw [hc, if_neg (by simp [hb]), if_neg (by simp [hf])]) (by decide)]
     simp only [Bool.false_eq_true, ↓reduceIte]; exact Ev.now _
   · simp only [↓reduceIte, statistic_has.f, any_has.f, Option.bind_some]
     have j := j4 hb hf
     unfold hasE at j
     cases h1 : ns.any (fun m => m.f0 == c.f1)
     · simp only [Bool.false_eq_true, ↓reduceIte]; exact j true (by rw [h1]; rfl)
     · simp only [↓reduceIte]; exact j _ (by rw [h1]; rfl)
  cases h0 : isIn c.f0 (l1.length : Int)
  · simp only [Bool.false_eq_true, ↓reduceIte]; exact bad (by simp [eBad, h0])
  · simp only [↓reduceIte]
    cases h1 : isIn c.f1 (l.length : Int)
    · simp only [Bool.false_eq_true, ↓reduceIte]; exact bad (by simp [eBad, h1])
    · simp only [↓reduceIte]
      cases h2 : isIn c.f2 (l.length : Int)
      · simp only [Bool.false_eq_true, ↓reduceIte]; exact bad (by simp [eBad, h2])
      · simp only [↓reduceIte]
        by_cases h3 : c.f3 < 1
        · simp only [h3, ↓reduceIte]; exact bad (by simp [eBad]; omega)
        · simp only [h3, ↓reduceIte]
          by_cases h4 : c.f3 > 80
          · rw [decide_eq_true h4]; exact bad (by simp [eBad]; omega)
          · rw [decide_eq_false h4]; exact good (by simp [eBad, h0, h1, h2]; omega)
theorem sval_nodes : ∀ (m i : Nat), i + m = ns.length → (∀ j, j < i → sN l ns j = 0) → Ev (fun k => statistic_Valid.l0 k ns (ns.length : Int) (i : Int) l l1 ns es) (if scan (sN l ns) m i = 0 then sNodesV l l1 ns es else scan (sN l ns) m i)
 | 0, i, hi, hp => by
  refine Ev.step (fun k => by rw [statistic_Valid.l0]) ?_
  simp only [show ¬ ((i : Int) < (ns.length : Int)) by omega, ↓reduceIte, scan]
  refine Ev.bind (total_ev ns hn (fun y hy => ?_)) ?_
  · obtain ⟨j, hj, rfl⟩ := List.getElem_of_mem hy
    have := hp j (by omega)
    unfold sN at this
    split at this
    · exact absurd this (by decide)
    · next hb =>
      rw [rd75_nat _ _ hj] at hb
      simp [nBad] at hb
      omega
  · unfold sNodesV
    by_cases hs : sumE ns > 40
    · simp only [hs, ↓reduceIte]; exact Ev.now _
    · simp only [hs, ↓reduceIte]
      exact sval_edges l l1 hg h h1g h1l ns es hn he es.length 0 (by omega) (fun j hj => absurd hj (Nat.not_lt_zero _))
 | m + 1, i, hi, hp => by
  have next_ : sN l ns i = 0 → Ev (fun k => statistic_Valid.l0 k ns (ns.length : Int) (wrap64 ((i : Int) + 1)) l l1 ns es) (if scan (sN l ns) (m + 1) i = 0 then sNodesV l l1 ns es else scan (sN l ns) (m + 1) i) := fun h0 => by
   rw [scan_succ, if_pos h0, w64 _ (by omega) (by omega)]
   exact sval_nodes m (i + 1) (by omega) (fun j hj => by
    rcases Nat.lt_or_eq_of_le (Nat.le_of_lt_succ hj) with h1 | rfl
    · exact hp j h1
    · exact h0)
  have stop_ : ∀ e : Int, sN l ns i = e → e ≠ 0 → (if scan (sN l ns) (m + 1) i = 0 then sNodesV l l1 ns es else scan (sN l ns) (m + 1) i) = e := fun e h1 h2 => by
   rw [scan_succ, h1, if_neg h2, if_neg h2]
  refine Ev.step (fun k => by rw [statistic_Valid.l0]) ?_
  simp only [show ((i : Int) < (ns.length : Int)) by omega, show (0 : Int) ≤ (i : Int) by omega, ↓reduceIte, is_f, Option.bind_some]
  generalize hc : rd_T75 ns (i : Int) = c
  have bad : nBad l c = true → Ev (fun k => statistic_Valid.j1 k (i : Int) ns (ns.length : Int) (i : Int) true l l1 ns es c.f0 c.f1 c.f2 c.f3) (if scan (sN l ns) (m + 1) i = 0 then sNodesV l l1 ns es else scan (sN l ns) (m + 1) i) := fun hb => by
   rw [stop_ 6 (by unfold sN; rw [hc, if_pos hb]) (by decide)]
   refine Ev.step (fun k => by rw [statistic_Valid.j1]) ?_
   simp only [↓reduceIte]; exact Ev.now _
  have good : nBad l c = false → Ev (fun k => statistic_Valid.j1 k (i : Int) ns (ns.length : Int) (i : Int) false l l1 ns es c.f0 c.f1 c.f2 c.f3) (if scan (sN l ns) (m + 1) i = 0 then sNodesV l l1 ns es else scan (sN l ns) (m + 1) i) := fun hb => by
   have e0 : sN l ns i = ordE ns i := by unfold sN; rw [hc, if_neg (by simp [hb])]
   refine Ev.step (fun k => by rw [statistic_Valid.j1]) ?_
   simp only [Bool.false_eq_true, ↓reduceIte]
   by_cases hi0 : 0 < i
   · rw [w64 ((i : Int) - 1) (by omega) (by omega)]
     simp only [show (i : Int) > 0 by omega, show (0 : Int) ≤ (i : Int) - 1 by omega, show (i : Int) - 1 < (ns.length : Int) by omega, ↓reduceIte]
     refine Ev.bind (compare_ev _ _ _ _ _ _ _ _) ?_
     have e1 : ordE ns i = if cmpE (rd_T75 ns ((i : Int) - 1)).f0 (rd_T75 ns ((i : Int) - 1)).f1 (rd_T75 ns ((i : Int) - 1)).f2 c.f0 c.f1 c.f2 ≥ 0 then 12 else 0 := by
      unfold ordE cmpAtE; rw [if_pos hi0, hc]
     by_cases ho : cmpE (rd_T75 ns ((i : Int) - 1)).f0 (rd_T75 ns ((i : Int) - 1)).f1 (rd_T75 ns ((i : Int) - 1)).f2 c.f0 c.f1 c.f2 ≥ 0
     · rw [if_pos ho] at e1
       rw [stop_ 12 (by rw [e0, e1]) (by decide)]
       simp only [ho, ↓reduceIte]; exact Ev.now _
     · rw [if_neg ho] at e1
       simp only [ho, ↓reduceIte]
       exact next_ (by rw [e0, e1])
   · simp only [show ¬ ((i : Int) > 0) by omega, ↓reduceIte]
     exact next_ (by rw [e0]; unfold ordE; rw [if_neg hi0])
  cases h0 : isIn c.f0 (l.length : Int)
  · simp only [Bool.false_eq_true, ↓reduceIte]; exact bad (by simp [nBad, h0])
  · simp only [↓reduceIte]
    by_cases h1 : c.f1 = 0
    · simp only [h1, ↓reduceIte]
      rw [h1] at bad good
      by_cases h2 : c.f2 = 0
      · simp only [h2, ↓reduceIte]
        rw [h2] at bad good
        by_cases h3 : c.f3 < 1
        · simp only [h3, ↓reduceIte]; exact bad (by simp [nBad]; omega)
        · simp only [h3, ↓reduceIte]
          by_cases h4 : c.f3 > 40
          · rw [decide_eq_true h4]; exact bad (by simp [nBad]; omega)
          · rw [decide_eq_false h4]; exact good (by simp [nBad, h0, h1, h2]; omega)
      · simp only [h2, ↓reduceIte]; exact bad (by simp [nBad, h2])
    · simp only [h1, ↓reduceIte]; exact bad (by simp [nBad, h1])
theorem sval_ev : Ev (fun k => statistic_Valid.f k l l1 ns es) (sValidE l l1 ns es) := by
 unfold statistic_Valid.f sValidE
 refine Ev.bind (valid_ev l l1 hg h h1g h1l) ?_
 by_cases hv : (validE l l1).2 = 0
 · simp only [hv, ↓reduceIte]; exact sval_nodes l l1 hg h h1g h1l ns es hn he ns.length 0 (by omega) (fun j hj => absurd hj (Nat.not_lt_zero _))
 · simp only [hv, ↓reduceIte]; exact Ev.now _
end sval
theorem ord_ok {B : Int} {l : List S75} (hc : Cnt B l) (i : Nat) (hi : i < l.length) : ordE l i = 0 := by
 unfold ordE
 by_cases h0 : 0 < i
 · have hk : kLt l[i - 1] l[i] := List.pairwise_iff_getElem.1 hc.srt (i - 1) i (by omega) hi (by omega)
   have := (cmp_lt (hc.key _ (List.getElem_mem (by omega : i - 1 < l.length))) (hc.key _ (List.getElem_mem hi))).2 hk
   rw [if_pos h0, if_neg]
   unfold cmpAtE
   rw [show ((i : Int) - 1) = ((i - 1 : Nat) : Int) by omega, rd75_nat _ _ (by omega), rd75_nat _ _ hi]
   omega
 · rw [if_neg h0]
theorem ris_f (a n : Int) : scarfjointref18_is.f a n = some (isIn a n) := by
 unfold scarfjointref18_is.f isIn
 by_cases h : 0 ≤ a
 · rw [if_pos h]; simp [h]
 · rw [if_neg h]; simp [h]
theorem rtotal_loop (l : List S75) (hl : l.length ≤ 1000) (hn : ∀ y ∈ l, 1 ≤ y.f3 ∧ y.f3 ≤ 80) : ∀ (m i : Nat) (a : Int), i + m = l.length → 0 ≤ a ∧ a ≤ 80 * (i : Int) → Ev (fun k => scarfjointref18_total.l0 k l a (i : Int)) (a + sumE (l.drop i))
 | 0, i, a, hi, ha => by
  refine Ev.step (fun k => by rw [scarfjointref18_total.l0]) ?_
  rw [List.drop_eq_nil_of_le (by omega)]
  simp only [show ¬ ((i : Int) < (l.length : Int)) by omega, ↓reduceIte, sumE, Int.add_zero]; exact Ev.now _
 | m + 1, i, a, hi, ha => by
  have hil : i < l.length := by omega
  have hy := hn _ (List.getElem_mem hil)
  refine Ev.step (fun k => by rw [scarfjointref18_total.l0]) ?_
  simp only [show ((i : Int) < (l.length : Int)) by omega, show (0 : Int) ≤ (i : Int) by omega, ↓reduceIte, rd75_nat l i hil]
  rw [w64 _ (by omega) (by omega), w64 _ (by omega) (by omega), List.drop_eq_getElem_cons hil, sumE, ← Int.add_assoc]
  exact rtotal_loop l hl hn m (i + 1) _ (by omega) (by omega)
theorem rtotal_ev (l : List S75) (hl : l.length ≤ 1000) (hn : ∀ y ∈ l, 1 ≤ y.f3 ∧ y.f3 ≤ 80) : Ev (fun k => scarfjointref18_total.f k l) (sumE l) := by
 have := rtotal_loop l hl hn l.length 0 0 (by omega) (by omega)
 rw [Int.zero_add, List.drop_zero] at this
 exact this
theorem n_kIn_of {l : List S96} {c : S75} (h : Small l) (hb : nBad l c = false) : kIn c := by
 have := h.1
 simp [nBad, isIn] at hb
 unfold kIn; omega
theorem n_kIn {l : List S96} {ns : List S75} {i : Nat} (h : Small l) (hz : sN l ns i = 0) : kIn (rd_T75 ns (i : Int)) := by
 unfold sN at hz
 split at hz
 · exact absurd hz (by decide)
 · next hb => exact n_kIn_of h (by simpa using hb)
theorem e_kIn_of {l : List S96} {l1 : List S101} {c : S75} (h : Small l) (h1l : l1.length ≤ 30) (hb : eBad l l1 c = false) : kIn c := by
 have := h.1
 simp [eBad, isIn] at hb
 unfold kIn; omega
theorem e_kIn {l : List S96} {l1 : List S101} {ns es : List S75} {i : Nat} (h : Small l) (h1l : l1.length ≤ 30) (hz : sE l l1 ns es i = 0) : kIn (rd_T75 es (i : Int)) := by
 unfold sE at hz
 split at hz
 · exact absurd hz (by decide)
 · next hb => exact e_kIn_of h h1l (by simpa using hb)
theorem n_facts {l : List S96} {ns : List S75} {i : Nat} (hz : sN l ns i = 0) : (rd_T75 ns (i : Int)).f1 = 0 ∧ (rd_T75 ns (i : Int)).f2 = 0 ∧ 1 ≤ (rd_T75 ns (i : Int)).f3 ∧ (rd_T75 ns (i : Int)).f3 ≤ 40 := by
 unfold sN at hz
 split at hz
 · exact absurd hz (by decide)
 · next hb => simp [nBad] at hb; omega
theorem number_loop {l : List S96} (h : Small l) (ns : List S75) (hn : ns.length ≤ 1000) (hok : ∀ j, j < ns.length → sN l ns j = 0) (a : Int) (ha : 0 ≤ a ∧ a ≤ 1000) : ∀ (m i : Nat), i + m = ns.length →
 ∃ r, Ev (fun k => scarfjointref18_number.l0 k ns (i : Int) a 0 0 0) r ∧ (r = 0 → (ns.drop i).any (fun c => c.f0 == a) = false) ∧ ((ns.drop i).any (fun c => c.f0 == a) = false → r = 0)
 | 0, i, hi => ⟨0, by
  refine Ev.step (fun k => by rw [scarfjointref18_number.l0]) ?_
  simp only [show ¬ ((i : Int) < (ns.length : Int)) by omega, ↓reduceIte]; exact Ev.now _, fun _ => by rw [List.drop_eq_nil_of_le (by omega)]; rfl, fun _ => rfl⟩
 | m + 1, i, hi => by
  have hil : i < ns.length := by omega
  have hz := hok i hil
  have hk := n_kIn h hz
  have hf := n_facts hz
  rw [rd75_nat ns i hil] at hk hf
  have hb : kIn (⟨a, 0, 0, 0⟩ : S75) := ⟨ha, ⟨(by decide : (0 : Int) ≤ 0), (by decide : (0 : Int) ≤ 1000)⟩, ⟨(by decide : (0 : Int) ≤ 0), (by decide : (0 : Int) ≤ 1000)⟩⟩
  have hc := rcmp_in hk hb
  have he := cmp_eq hk hb
  simp only at hc he
  rw [List.drop_eq_getElem_cons hil, List.any_cons]
  by_cases hq : ns[i].f0 = a
  · have h0 := he.2 ⟨hq, hf.1, hf.2.1⟩
    refine ⟨ns[i].f3, Ev.step (fun k => by rw [scarfjointref18_number.l0]) ?_, fun hh => by omega, fun hh => by simp [hq] at hh⟩
    simp only [show ((i : Int) < (ns.length : Int)) by omega, show (0 : Int) ≤ (i : Int) by omega, ↓reduceIte, rd75_nat ns i hil]
    rw [hc, h0]
    simp only [Option.bind_some, ↓reduceIte]; exact Ev.now _
  · have h0 : ¬ (cmpE ns[i].f0 ns[i].f1 ns[i].f2 a 0 0 = 0) := fun hh => hq (he.1 hh).1
    obtain ⟨r, hr, e1, e2⟩ := number_loop h ns hn hok a ha m (i + 1) (by omega)
    refine ⟨r, Ev.step (fun k => by rw [scarfjointref18_number.l0]) ?_, fun hh => by rw [e1 hh]; simp [hq], fun hh => e2 (by simp [hq] at hh; simpa using hh)⟩
    simp only [show ((i : Int) < (ns.length : Int)) by omega, show (0 : Int) ≤ (i : Int) by omega, ↓reduceIte, rd75_nat ns i hil]
    rw [hc]
    simp only [Option.bind_some, h0, ↓reduceIte]
    rw [w64 _ (by omega) (by omega)]
    exact hr
theorem number_ev {l : List S96} (h : Small l) (ns : List S75) (hn : ns.length ≤ 1000) (hok : ∀ j, j < ns.length → sN l ns j = 0) (a : Int) (ha : 0 ≤ a ∧ a ≤ 1000) :
 ∃ r, Ev (fun k => scarfjointref18_number.f k ns a 0 0 0) r ∧ (r = 0 → hasE ns a = false) ∧ (hasE ns a = false → r = 0) := by
 obtain ⟨r, h1, h2, h3⟩ := number_loop h ns hn hok a ha ns.length 0 (by omega)
 exact ⟨r, h1, h2, h3⟩
section sval
variable (l : List S96) (l1 : List S101) (hg : Good l) (h : Small l) (h1g : ∀ x ∈ l1, good101 x) (h1l : l1.length ≤ 30) (ns es : List S75) (hn : ns.length ≤ 1000) (he : es.length ≤ 1000)
include hg h h1g h1l hn he
theorem rsval_edges (hok : ∀ j, j < ns.length → sN l ns j = 0) : ∀ (m i : Nat), i + m = es.length → (∀ j, j < i → sE l l1 ns es j = 0) → Ev (fun k => scarfjointref18_Valid.l1 k (i : Int) l l1 ns es) (if scan (sE l l1 ns es) m i = 0 then sumV es else scan (sE l l1 ns es) m i)
 | 0, i, hi, hp => by
  refine Ev.step (fun k => by rw [scarfjointref18_Valid.l1]) ?_
  simp only [show ¬ ((i : Int) < (es.length : Int)) by omega, ↓reduceIte, scan]
  refine Ev.bind (rtotal_ev es he (fun y hy => ?_)) ?_
  · obtain ⟨j, hj, rfl⟩ := List.getElem_of_mem hy
    have := hp j (by omega)
    unfold sE at this
    split at this
    · exact absurd this (by decide)
    · next hb =>
      rw [rd75_nat _ _ hj] at hb
      simp [eBad] at hb
      omega
  · unfold sumV
    by_cases hs : sumE es > 80
    · simp only [hs, ↓reduceIte]; exact Ev.now _
    · simp only [hs, ↓reduceIte]; exact Ev.now _
 | m + 1, i, hi, hp => by
  have next_ : sE l l1 ns es i = 0 → Ev (fun k => scarfjointref18_Valid.l1 k (wrap64 ((i : Int) + 1)) l l1 ns es) (if scan (sE l l1 ns es) (m + 1) i = 0 then sumV es else scan (sE l l1 ns es) (m + 1) i) := fun h0 => by
   rw [scan_succ, if_pos h0, w64 _ (by omega) (by omega)]
   exact rsval_edges hok m (i + 1) (by omega) (fun j hj => by
    rcases Nat.lt_or_eq_of_le (Nat.le_of_lt_succ hj) with h1 | rfl
    · exact hp j h1
    · exact h0)
  have stop_ : ∀ e : Int, sE l l1 ns es i = e → e ≠ 0 → (if scan (sE l l1 ns es) (m + 1) i = 0 then sumV es else scan (sE l l1 ns es) (m + 1) i) = e := fun e h1 h2 => by
   rw [scan_succ, h1, if_neg h2, if_neg h2]
  refine Ev.step (fun k => by rw [scarfjointref18_Valid.l1]) ?_
  simp only [show ((i : Int) < (es.length : Int)) by omega, show (0 : Int) ≤ (i : Int) by omega, ↓reduceIte, ris_f, Option.bind_some]
  generalize hc : rd_T75 es (i : Int) = c
  have bad : eBad l l1 c = true → Ev (fun k => scarfjointref18_Valid.j3 k (i : Int) true l l1 ns es c.f0 c.f1 c.f2 c.f3) (if scan (sE l l1 ns es) (m + 1) i = 0 then sumV es else scan (sE l l1 ns es) (m + 1) i) := fun hb => by
   rw [stop_ 6 (by unfold sE; rw [hc, if_pos hb]) (by decide)]
   refine Ev.step (fun k => by rw [scarfjointref18_Valid.j3]) ?_
   simp only [↓reduceIte]; exact Ev.now _
  have j4 : eBad l l1 c = false → fitsE l l1 c.f0 c.f1 c.f2 = true → ∀ b : Bool, b = !(hasE ns c.f1 && hasE ns c.f2) → Ev (fun k => scarfjointref18_Valid.j4 k (i : Int) b l l1 ns es c.f0 c.f1 c.f2 c.f3) (if scan (sE l l1 ns es) (m + 1) i = 0 then sumV es else scan (sE l l1 ns es) (m + 1) i) := fun hb hf b hbb => by
   refine Ev.step (fun k => by rw [scarfjointref18_Valid.j4]) ?_
   cases hh : (hasE ns c.f1 && hasE ns c.f2)
   · rw [hh] at hbb
     rw [stop_ 10 (by unfold sE; rw [hc, if_neg (by simp [hb]), if_pos hf, if_neg (by simp [hh])]) (by decide), hbb]
     simp only [Bool.not_false, ↓reduceIte]; exact Ev.now _
   · rw [hh] at hbb
     have e0 : sE l l1 ns es i = ordE es i := by unfold sE; rw [hc, if_neg (by simp [hb]), if_pos hf, if_pos hh]
     rw [hbb]
     simp only [Bool.not_true, Bool.false_eq_true, ↓reduceIte]
     by_cases hi0 : 0 < i
     · rw [w64 ((i : Int) - 1) (by omega) (by omega)]
       simp only [show (i : Int) > 0 by omega, show (0 : Int) ≤ (i : Int) - 1 by omega, show (i : Int) - 1 < (es.length : Int) by omega, ↓reduceIte]
       have hci := rcmp_in (a := rd_T75 es ((i : Int) - 1)) (b := c) (by rw [show ((i : Int) - 1) = ((i - 1 : Nat) : Int) by omega]; exact e_kIn h h1l (hp (i - 1) (by omega))) (e_kIn_of h h1l hb)
       rw [hci]
       simp only [Option.bind_some]
       have e1 : ordE es i = if cmpE (rd_T75 es ((i : Int) - 1)).f0 (rd_T75 es ((i : Int) - 1)).f1 (rd_T75 es ((i : Int) - 1)).f2 c.f0 c.f1 c.f2 ≥ 0 then 12 else 0 := by
        unfold ordE cmpAtE; rw [if_pos hi0, hc]
       by_cases ho : cmpE (rd_T75 es ((i : Int) - 1)).f0 (rd_T75 es ((i : Int) - 1)).f1 (rd_T75 es ((i : Int) - 1)).f2 c.f0 c.f1 c.f2 ≥ 0
       · rw [if_pos ho] at e1
         rw [stop_ 12 (by rw [e0, e1]) (by decide)]
         simp only [ho, ↓reduceIte]; exact Ev.now _
       · rw [if_neg ho] at e1
         simp only [ho, ↓reduceIte]
         exact next_ (by rw [e0, e1])
     · simp only [show ¬ ((i : Int) > 0) by omega, ↓reduceIte]
       exact next_ (by rw [e0]; unfold ordE; rw [if_neg hi0])
  have good : eBad l l1 c = false → Ev (fun k => scarfjointref18_Valid.j3 k (i : Int) false l l1 ns es c.f0 c.f1 c.f2 c.f3) (if scan (sE l l1 ns es) (m + 1) i = 0 then sumV es else scan (sE l l1 ns es) (m + 1) i) := fun hb => by
   refine Ev.step (fun k => by rw [scarfjointref18_Valid.j3]) ?_
   simp only [Bool.false_eq_true, ↓reduceIte]
   refine Ev.bind (rFits_ev l l1 hg h h1g h1l _ _ _) ?_
   cases hf : fitsE l l1 c.f0 c.f1 c.f2
   · rw [stop_ 13 (by unfold sE; rw [hc, if_neg (by simp [hb]), if_neg (by simp [hf])]) (by decide)]
     simp only [Bool.false_eq_true, ↓reduceIte]; exact Ev.now _
   · simp only [↓reduceIte]
     have j := j4 hb hf
     have hk := e_kIn_of h h1l hb
     obtain ⟨r1, hr1, e1⟩ := number_ev h ns hn hok c.f1 hk.2.1
     obtain ⟨r2, hr2, e2⟩ := number_ev h ns hn hok c.f2 hk.2.2
     refine Ev.bind hr1 ?_
     by_cases z1 : r1 = 0
     · simp only [z1, ↓reduceIte]
       exact j true (by rw [e1.1 z1]; rfl)
     · simp only [z1, ↓reduceIte]
       refine Ev.bind hr2 ?_
       have f1 : hasE ns c.f1 = true := by
        cases hh : hasE ns c.f1
        · exact absurd (e1.2 hh) z1
        · rfl
       by_cases z2 : r2 = 0
       · exact j (r2 == 0) (by rw [f1, e2.1 z2, z2]; rfl)
       · have f2 : hasE ns c.f2 = true := by
          cases hh : hasE ns c.f2
          · exact absurd (e2.2 hh) z2
          · rfl
         exact j (r2 == 0) (by rw [f1, f2]; simp [z2])
  cases h0 : isIn c.f0 (l1.length : Int)
  · simp only [Bool.false_eq_true, ↓reduceIte]; exact bad (by simp [eBad, h0])
  · simp only [↓reduceIte]
    cases h1 : isIn c.f1 (l.length : Int)
    · simp only [Bool.false_eq_true, ↓reduceIte]; exact bad (by simp [eBad, h1])
    · simp only [↓reduceIte]
      cases h2 : isIn c.f2 (l.length : Int)
      · simp only [Bool.false_eq_true, ↓reduceIte]; exact bad (by simp [eBad, h2])
      · simp only [↓reduceIte]
        by_cases h3 : c.f3 < 1
        · simp only [h3, ↓reduceIte]; exact bad (by simp [eBad]; omega)
        · simp only [h3, ↓reduceIte]
          by_cases h4 : c.f3 > 80
          · rw [decide_eq_true h4]; exact bad (by simp [eBad]; omega)
          · rw [decide_eq_false h4]; exact good (by simp [eBad, h0, h1, h2]; omega)
theorem rsval_nodes : ∀ (m i : Nat), i + m = ns.length → (∀ j, j < i → sN l ns j = 0) → Ev (fun k => scarfjointref18_Valid.l0 k (i : Int) l l1 ns es) (if scan (sN l ns) m i = 0 then sNodesV l l1 ns es else scan (sN l ns) m i)
 | 0, i, hi, hp => by
  refine Ev.step (fun k => by rw [scarfjointref18_Valid.l0]) ?_
  simp only [show ¬ ((i : Int) < (ns.length : Int)) by omega, ↓reduceIte, scan]
  refine Ev.bind (rtotal_ev ns hn (fun y hy => ?_)) ?_
  · obtain ⟨j, hj, rfl⟩ := List.getElem_of_mem hy
    have := hp j (by omega)
    unfold sN at this
    split at this
    · exact absurd this (by decide)
    · next hb =>
      rw [rd75_nat _ _ hj] at hb
      simp [nBad] at hb
      omega
  · unfold sNodesV
    by_cases hs : sumE ns > 40
    · simp only [hs, ↓reduceIte]; exact Ev.now _
    · simp only [hs, ↓reduceIte]
      exact rsval_edges l l1 hg h h1g h1l ns es hn he (fun j hj => hp j (by omega)) es.length 0 (by omega) (fun j hj => absurd hj (Nat.not_lt_zero _))
 | m + 1, i, hi, hp => by
  have next_ : sN l ns i = 0 → Ev (fun k => scarfjointref18_Valid.l0 k (wrap64 ((i : Int) + 1)) l l1 ns es) (if scan (sN l ns) (m + 1) i = 0 then sNodesV l l1 ns es else scan (sN l ns) (m + 1) i) := fun h0 => by
   rw [scan_succ, if_pos h0, w64 _ (by omega) (by omega)]
   exact rsval_nodes m (i + 1) (by omega) (fun j hj => by
    rcases Nat.lt_or_eq_of_le (Nat.le_of_lt_succ hj) with h1 | rfl
    · exact hp j h1
    · exact h0)
  have stop_ : ∀ e : Int, sN l ns i = e → e ≠ 0 → (if scan (sN l ns) (m + 1) i = 0 then sNodesV l l1 ns es else scan (sN l ns) (m + 1) i) = e := fun e h1 h2 => by
   rw [scan_succ, h1, if_neg h2, if_neg h2]
  refine Ev.step (fun k => by rw [scarfjointref18_Valid.l0]) ?_
  simp only [show ((i : Int) < (ns.length : Int)) by omega, show (0 : Int) ≤ (i : Int) by omega, ↓reduceIte, ris_f, Option.bind_some]
  generalize hc : rd_T75 ns (i : Int) = c
  have bad : nBad l c = true → Ev (fun k => scarfjointref18_Valid.j1 k (i : Int) true l l1 ns es c.f0 c.f1 c.f2 c.f3) (if scan (sN l ns) (m + 1) i = 0 then sNodesV l l1 ns es else scan (sN l ns) (m + 1) i) := fun hb => by
   rw [stop_ 6 (by unfold sN; rw [hc, if_pos hb]) (by decide)]
   refine Ev.step (fun k => by rw [scarfjointref18_Valid.j1]) ?_
   simp only [↓reduceIte]; exact Ev.now _
  have good : nBad l c = false → Ev (fun k => scarfjointref18_Valid.j1 k (i : Int) false l l1 ns es c.f0 c.f1 c.f2 c.f3) (if scan (sN l ns) (m + 1) i = 0 then sNodesV l l1 ns es else scan (sN l ns) (m + 1) i) := fun hb => by
   have e0 : sN l ns i = ordE ns i := by unfold sN; rw [hc, if_neg (by simp [hb])]
   refine Ev.step (fun k => by rw [scarfjointref18_Valid.j1]) ?_
   simp only [Bool.false_eq_true, ↓reduceIte]
   by_cases hi0 : 0 < i
   · rw [w64 ((i : Int) - 1) (by omega) (by omega)]
     simp only [show (i : Int) > 0 by omega, show (0 : Int) ≤ (i : Int) - 1 by omega, show (i : Int) - 1 < (ns.length : Int) by omega, ↓reduceIte]
     have hci := rcmp_in (a := rd_T75 ns ((i : Int) - 1)) (b := c) (by rw [show ((i : Int) - 1) = ((i - 1 : Nat) : Int) by omega]; exact n_kIn h (hp (i - 1) (by omega))) (n_kIn_of h hb)
     rw [hci]
     simp only [Option.bind_some]
     have e1 : ordE ns i = if cmpE (rd_T75 ns ((i : Int) - 1)).f0 (rd_T75 ns ((i : Int) - 1)).f1 (rd_T75 ns ((i : Int) - 1)).f2 c.f0 c.f1 c.f2 ≥ 0 then 12 else 0 := by
      unfold ordE cmpAtE; rw [if_pos hi0, hc]
     by_cases ho : cmpE (rd_T75 ns ((i : Int) - 1)).f0 (rd_T75 ns ((i : Int) - 1)).f1 (rd_T75 ns ((i : Int) - 1)).f2 c.f0 c.f1 c.f2 ≥ 0
     · rw [if_pos ho] at e1
       rw [stop_ 12 (by rw [e0, e1]) (by decide)]
       simp only [ho, ↓reduceIte]; exact Ev.now _
     · rw [if_neg ho] at e1
       simp only [ho, ↓reduceIte]
       exact next_ (by rw [e0, e1])
   · simp only [show ¬ ((i : Int) > 0) by omega, ↓reduceIte]
     exact next_ (by rw [e0]; unfold ordE; rw [if_neg hi0])
  cases h0 : isIn c.f0 (l.length : Int)
  · simp only [Bool.false_eq_true, ↓reduceIte]; exact bad (by simp [nBad, h0])
  · simp only [↓reduceIte]
    by_cases h1 : c.f1 = 0
    · simp only [h1, ↓reduceIte]
      rw [h1] at bad good
      by_cases h2 : c.f2 = 0
      · simp only [h2, ↓reduceIte]
        rw [h2] at bad good
        by_cases h3 : c.f3 < 1
        · simp only [h3, ↓reduceIte]; exact bad (by simp [nBad]; omega)
        · simp only [h3, ↓reduceIte]
          by_cases h4 : c.f3 > 40
          · rw [decide_eq_true h4]; exact bad (by simp [nBad]; omega)
          · rw [decide_eq_false h4]; exact good (by simp [nBad, h0, h1, h2]; omega)
      · simp only [h2, ↓reduceIte]; exact bad (by simp [nBad, h2])
    · simp only [h1, ↓reduceIte]; exact bad (by simp [nBad, h1])
theorem rsval_ev : Ev (fun k => scarfjointref18_Valid.f k l l1 ns es) (sValidE l l1 ns es) := by
 unfold scarfjointref18_Valid.f sValidE
 refine Ev.bind (rvalid_ev l l1 hg h h1g h1l) ?_
 by_cases hv : (validE l l1).2 = 0
 · simp only [hv, ↓reduceIte]; exact rsval_nodes l l1 hg h h1g h1l ns es hn he ns.length 0 (by omega) (fun j hj => absurd hj (Nat.not_lt_zero _))
 · simp only [hv, ↓reduceIte]; exact Ev.now _
end sval
theorem copied_f (a b : List S75) (ha : a.length ≤ 1000) (hb : b.length ≤ 1000) : scarfjointref18_Copied.f a b = some (a, b) := by
 unfold scarfjointref18_Copied.f
 simp only [Option.bind_some, List.length_nil, List.nil_append]
 rw [if_pos (by omega), if_pos (by omega)]
def numE : List S75 → S75 → Int
 | [], _ => 0
 | y :: l, x => if kEq y x then y.f3 else numE l x
theorem num_at : ∀ (l : List S75) (x : S75) (h : posE l x < l.length), kEq l[posE l x] x → numE l x = l[posE l x].f3
 | [], x, h, _ => by cases h
 | y :: l, x, h, he => by
  by_cases hy : kLt y x
  · have hp : posE (y :: l) x = posE l x + 1 := by rw [posE, if_pos hy]
    simp only [hp, List.getElem_cons_succ] at he ⊢
    rw [numE, if_neg (k_lt_ne hy)]
    exact num_at l x (by rw [hp] at h; simpa using h) he
  · have hp : posE (y :: l) x = 0 := by rw [posE, if_neg hy]
    simp only [hp, List.getElem_cons_zero] at he ⊢
    rw [numE, if_pos he]
theorem num_none : ∀ (l : List S75) (x : S75), (∀ y ∈ l, ¬ kEq y x) → numE l x = 0
 | [], x, _ => rfl
 | y :: l, x, h => by rw [numE, if_neg (h y List.mem_cons_self), num_none l x (fun z hz => h z (List.mem_cons_of_mem _ hz))]
theorem later_ne {B : Int} {y x : S75} {l : List S75} (hc : Cnt B (y :: l)) (h : kLt x y) : ∀ z ∈ l, ¬ kEq z x := fun z hz he => by
 have := (List.pairwise_cons.1 hc.srt).1 z hz
 have := k_trans h this
 unfold kEq kLt at *; omega
theorem num_no {B : Int} : ∀ (l : List S75) (x : S75), Cnt B l → (∀ h : posE l x < l.length, ¬ kEq l[posE l x] x) → numE l x = 0
 | [], x, _, _ => rfl
 | y :: l, x, hc, hn => by
  by_cases hy : kLt y x
  · have hp : posE (y :: l) x = posE l x + 1 := by rw [posE, if_pos hy]
    rw [numE, if_neg (k_lt_ne hy)]
    refine num_no l x hc.tail (fun h => ?_)
    have := hn (by rw [hp]; simpa using h)
    simpa only [hp, List.getElem_cons_succ] using this
  · have hp : posE (y :: l) x = 0 := by rw [posE, if_neg hy]
    have := hn (by rw [hp]; simp)
    simp only [hp, List.getElem_cons_zero] at this
    rw [numE, if_neg this]
    refine num_none l x (later_ne hc ?_)
    rcases k_tri y x with h | h | h
    · exact absurd h hy
    · exact absurd h this
    · exact h
theorem num_has : ∀ {l : List S75} {x : S75}, numE l x ≠ 0 → ∃ y ∈ l, kEq y x
 | [], x, h => absurd rfl h
 | y :: l, x, h => by
  by_cases he : kEq y x
  · exact ⟨y, List.mem_cons_self, he⟩
  · rw [numE, if_neg he] at h
    obtain ⟨z, hz, hk⟩ := num_has h
    exact ⟨z, List.mem_cons_of_mem _ hz, hk⟩
theorem num_pos : ∀ {l : List S75} {x : S75}, (∀ y ∈ l, 1 ≤ y.f3) → (∃ y ∈ l, kEq y x) → 1 ≤ numE l x
 | [], x, _, h => by obtain ⟨y, hy, _⟩ := h; cases hy
 | y :: l, x, hn, h => by
  rw [numE]
  split
  · exact hn y List.mem_cons_self
  · next he =>
    refine num_pos (fun z hz => hn z (List.mem_cons_of_mem _ hz)) ?_
    obtain ⟨z, hz, hk⟩ := h
    rcases List.mem_cons.1 hz with rfl | hz
    · exact absurd hk he
    · exact ⟨z, hz, hk⟩
theorem num_f {B : Int} {l : List S75} {x : S75} (hc : Cnt B l) (hx : kIn x) (z : Int) : statistic_number.f l x.f0 x.f1 x.f2 z = some (numE l x) := by
 unfold statistic_number.f
 rw [search_f]
 simp only [Option.bind_some]
 unfold foundAt
 rw [search_pos hc hx]
 by_cases hlt : posE l x < l.length
 · have hk := hc.key _ (List.getElem_mem hlt)
   have hcm : cmpAt l x.f0 x.f1 x.f2 (posE l x) = 0 ↔ kEq l[posE l x] x := by
    unfold cmpAt
    rw [rd75_nat _ _ hlt]
    exact cmp_eq hk hx
   rw [decide_eq_true hlt]
   by_cases he : kEq l[posE l x] x
   · rw [decide_eq_true (hcm.2 he), if_pos (by rfl), if_pos (by omega), if_pos (by omega), rd75_nat _ _ hlt, num_at l x hlt he]
   · rw [decide_eq_false (fun h => he (hcm.1 h)), if_neg (by simp), num_no l x hc (fun _ => he)]
 · rw [decide_eq_false hlt, if_neg (by simp), num_no l x hc (fun h => absurd h hlt)]
theorem rnum_loop {B : Int} {l : List S75} {x : S75} (hc : Cnt B l) (hx : kIn x) (hl : l.length ≤ 1000) (z : Int) : ∀ (m i : Nat), i + m = l.length →
 Ev (fun k => scarfjointref18_number.l0 k l (i : Int) x.f0 x.f1 x.f2 z) (numE (l.drop i) x)
 | 0, i, hi => by
  refine Ev.step (fun k => by rw [scarfjointref18_number.l0]) ?_
  rw [List.drop_eq_nil_of_le (by omega)]
  simp only [show ¬ ((i : Int) < (l.length : Int)) by omega, ↓reduceIte]; exact Ev.now _
 | m + 1, i, hi => by
  have hil : i < l.length := by omega
  have hk := hc.key _ (List.getElem_mem hil)
  have hrc := rcmp_in hk (b := ⟨x.f0, x.f1, x.f2, z⟩) hx
  have he := cmp_eq hk hx
  simp only at hrc
  refine Ev.step (fun k => by rw [scarfjointref18_number.l0]) ?_
  rw [List.drop_eq_getElem_cons hil, numE]
  simp only [show ((i : Int) < (l.length : Int)) by omega, show (0 : Int) ≤ (i : Int) by omega, ↓reduceIte, rd75_nat l i hil]
  rw [hrc]
  simp only [Option.bind_some]
  by_cases hq : kEq l[i] x
  · rw [if_pos hq]
    simp only [he.2 hq, ↓reduceIte]; exact Ev.now _
  · rw [if_neg hq]
    simp only [show ¬ (cmpE l[i].f0 l[i].f1 l[i].f2 x.f0 x.f1 x.f2 = 0) from fun h => hq (he.1 h), ↓reduceIte]
    rw [w64 _ (by omega) (by omega)]
    exact rnum_loop hc hx hl z m (i + 1) (by omega)
theorem rnum_ev {B : Int} {l : List S75} {x : S75} (hc : Cnt B l) (hx : kIn x) (hl : l.length ≤ 1000) (z : Int) : Ev (fun k => scarfjointref18_number.f k l x.f0 x.f1 x.f2 z) (numE l x) :=
 rnum_loop hc hx hl z l.length 0 (by omega)
theorem add_del : ∀ (l : List S75) (x : S75) (h : posE l x < l.length), kEq l[posE l x] x → l[posE l x].f3 + x.f3 = 0 → addE l x = l.take (posE l x) ++ l.drop (posE l x + 1)
 | [], x, h, _, _ => by cases h
 | y :: l, x, h, he, hz => by
  by_cases hy : kLt y x
  · have hp : posE (y :: l) x = posE l x + 1 := by rw [posE, if_pos hy]
    simp only [hp, List.getElem_cons_succ] at he hz ⊢
    rw [addE, if_pos hy, List.take_succ_cons, List.drop_succ_cons, List.cons_append, add_del l x (by rw [hp] at h; simpa using h) he hz]
  · have hp : posE (y :: l) x = 0 := by rw [posE, if_neg hy]
    simp only [hp, List.getElem_cons_zero] at he hz ⊢
    rw [addE, if_neg hy, if_pos he, if_pos hz]; rfl
theorem counted_ev2 {B : Int} {l : List S75} {x : S75} (hc : Cnt B l) (hx : kIn x) (hB : B ≤ 1000) (hx3 : x.f3 = 1 ∨ x.f3 = -1) (hl : l.length ≤ 1000) : statistic_counted.f l x.f0 x.f1 x.f2 x.f3 = some (addE l x) := by
 unfold statistic_counted.f
 rw [if_pos (by omega)]
 unfold foundAt
 rw [search_pos hc hx]
 have hple := posE_le l x
 by_cases hlt : posE l x < l.length
 · have hk := hc.key _ (List.getElem_mem hlt)
   have hn := hc.num _ (List.getElem_mem hlt)
   have hcm : cmpAt l x.f0 x.f1 x.f2 (posE l x) = 0 ↔ kEq l[posE l x] x := by
    unfold cmpAt
    rw [rd75_nat _ _ hlt]
    exact cmp_eq hk hx
   rw [rd75_nat _ _ hlt, w64 _ (by omega) (by omega)]
   by_cases he : kEq l[posE l x] x
   · rw [decide_eq_true hlt, decide_eq_true (hcm.2 he), if_pos (by rfl)]
     by_cases hz : l[posE l x].f3 + x.f3 = 0
     · rw [if_pos hz, add_del l x hlt he hz]
     · rw [if_neg hz, add_found l x hlt he hz]
   · rw [decide_eq_true hlt, decide_eq_false (fun h => he (hcm.1 h)), if_neg (by simp), add_new l x (fun _ => he)]
 · rw [decide_eq_false hlt, if_neg (by simp), add_new l x (fun h => absurd h hlt)]
theorem Cnt.up {B C : Int} {l : List S75} (h : Cnt B l) (hC : ∀ y ∈ l, y.f3 ≤ C) : Cnt C l := ⟨h.srt, h.key, fun y hy => ⟨(h.num y hy).1, hC y hy⟩⟩
theorem Cnt.sum {B C : Int} {l : List S75} (h : Cnt B l) (hC : sumE l ≤ C) : Cnt C l := h.up fun y hy => by
 have := sum_ge (fun y hy => (h.num y hy).1) y hy; omega
theorem add_Cnt2 {B : Int} : ∀ {l : List S75} {x : S75}, Cnt B l → kIn x → (x.f3 = 1 ∨ (x.f3 = -1 ∧ ∃ y ∈ l, kEq y x)) → 0 ≤ B → Cnt (B + 1) (addE l x)
 | [], x, hc, hx, h1, hB => by
  have h3 : x.f3 = 1 := by
   rcases h1 with h | ⟨_, y, hy, _⟩
   · exact h
   · cases hy
  refine { srt := List.pairwise_singleton _ _, key := fun y hy => ?_, num := fun y hy => ?_ }
  · obtain rfl : y = x := by simpa [addE] using hy
    exact hx
  · obtain rfl : y = x := by simpa [addE] using hy
    omega
 | w :: l, x, hc, hx, h1, hB => by
  have hw := hc.num w List.mem_cons_self
  have hkw := hc.key w List.mem_cons_self
  have hs := List.pairwise_cons.1 hc.srt
  have h3 : x.f3 = 1 ∨ x.f3 = -1 := h1.imp id And.left
  unfold addE
  split
  · next hlt =>
    have ih := add_Cnt2 hc.tail hx (h1.imp id fun ⟨e, y, hy, hk⟩ => ⟨e, y, by
     rcases List.mem_cons.1 hy with rfl | hy
     · exact absurd hk (k_lt_ne hlt)
     · exact hy, hk⟩) hB
    refine { srt := List.pairwise_cons.2 ⟨fun z hz => ?_, ih.srt⟩, key := fun y hy => ?_, num := fun y hy => ?_ }
    · rcases add_mem hz with h | h
      · unfold kLt kEq at *; omega
      · exact hs.1 z h
    · rcases List.mem_cons.1 hy with rfl | hy
      · exact hkw
      · exact ih.key y hy
    · rcases List.mem_cons.1 hy with rfl | hy
      · omega
      · exact ih.num y hy
  · next hlt =>
    split
    · next he =>
      split
      · next hz => exact hc.tail.up fun y hy => by have := hc.num y (List.mem_cons_of_mem _ hy); omega
      · next hz =>
        refine { srt := List.pairwise_cons.2 ⟨fun z hz => hs.1 z hz, hs.2⟩, key := fun y hy => ?_, num := fun y hy => ?_ }
        · rcases List.mem_cons.1 hy with rfl | hy
          · exact hkw
          · exact hc.key y (List.mem_cons_of_mem _ hy)
        · rcases List.mem_cons.1 hy with rfl | hy
          · show 1 ≤ w.f3 + x.f3 ∧ w.f3 + x.f3 ≤ _; omega
          · have := hc.num y (List.mem_cons_of_mem _ hy); omega
    · next he =>
      have hgt : kLt x w := by
       rcases k_tri w x with h | h | h
       · exact absurd h hlt
       · exact absurd h he
       · exact h
      have hx1 : x.f3 = 1 := by
       rcases h1 with h | ⟨_, y, hy, hk⟩
       · exact h
       · rcases List.mem_cons.1 hy with rfl | hy
         · exact absurd hk he
         · exact absurd hk (later_ne hc hgt y hy)
      refine { srt := List.pairwise_cons.2 ⟨fun z hz => ?_, hc.srt⟩, key := fun y hy => ?_, num := fun y hy => ?_ }
      · rcases List.mem_cons.1 hz with rfl | hz
        · exact hgt
        · exact k_trans hgt (hs.1 z hz)
      · rcases List.mem_cons.1 hy with rfl | hy
        · exact hx
        · exact hc.key y hy
      · rcases List.mem_cons.1 hy with rfl | hy
        · omega
        · have := hc.num y hy; omega
theorem add_back {B : Int} : ∀ {l : List S75} {x : S75}, Cnt B l → x.f3 ≠ 0 → addE (addE l x) ⟨x.f0, x.f1, x.f2, -x.f3⟩ = l
 | [], x, _, h0 => by
  have n1 : ¬ kLt x ⟨x.f0, x.f1, x.f2, -x.f3⟩ := by unfold kLt; simp
  have n2 : kEq x ⟨x.f0, x.f1, x.f2, -x.f3⟩ := ⟨rfl, rfl, rfl⟩
  show addE [x] _ = []
  rw [addE, if_neg n1, if_pos n2, if_pos (by show x.f3 + -x.f3 = 0; omega)]
 | y :: l, x, hc, h0 => by
  have n1 : ¬ kLt x ⟨x.f0, x.f1, x.f2, -x.f3⟩ := by unfold kLt; simp
  have n2 : kEq x ⟨x.f0, x.f1, x.f2, -x.f3⟩ := ⟨rfl, rfl, rfl⟩
  by_cases hy : kLt y x
  · have hy' : kLt y ⟨x.f0, x.f1, x.f2, -x.f3⟩ := hy
    rw [addE, if_pos hy, addE, if_pos hy', add_back hc.tail h0]
  · by_cases he : kEq y x
    · have he' : kEq y ⟨x.f0, x.f1, x.f2, -x.f3⟩ := he
      have hy' : ¬ kLt y ⟨x.f0, x.f1, x.f2, -x.f3⟩ := hy
      rw [addE, if_neg hy, if_pos he]
      by_cases hz : y.f3 + x.f3 = 0
      · rw [if_pos hz]
        have e : (⟨x.f0, x.f1, x.f2, -x.f3⟩ : S75) = y := by
         obtain ⟨k0, k1, k2⟩ := he
         cases y
         simp only [S75.mk.injEq] at *
         omega
        rw [e]
        cases l with
        | nil => rfl
        | cons z l =>
         have hyz := (List.pairwise_cons.1 hc.srt).1 z List.mem_cons_self
         rw [addE, if_neg (k_lt_as hyz), if_neg (fun h => k_lt_ne hyz (by unfold kEq at *; omega))]
      · have hy2 : ¬ kLt (⟨y.f0, y.f1, y.f2, y.f3 + x.f3⟩ : S75) ⟨x.f0, x.f1, x.f2, -x.f3⟩ := hy
        have he2 : kEq (⟨y.f0, y.f1, y.f2, y.f3 + x.f3⟩ : S75) ⟨x.f0, x.f1, x.f2, -x.f3⟩ := he
        rw [if_neg hz, addE, if_neg hy2, if_pos he2, if_neg (by have := hc.num y List.mem_cons_self; show ¬ (y.f3 + x.f3 + -x.f3 = 0); omega)]
        congr 1
        cases y
        simp only [S75.mk.injEq]
        refine ⟨trivial, trivial, trivial, ?_⟩
        omega
    · rw [addE, if_neg hy, if_neg he, addE, if_neg n1, if_pos n2, if_pos (by show x.f3 + -x.f3 = 0; omega)]
structure SV (l : List S96) (l1 : List S101) (ns es : List S75) : Prop where
 v : (validE l l1).2 = 0
 n : Cnt 40 ns
 nk : ∀ y ∈ ns, isIn y.f0 (l.length : Int) = true ∧ y.f1 = 0 ∧ y.f2 = 0
 nsum : sumE ns ≤ 40
 e : Cnt 80 es
 ek : ∀ y ∈ es, isIn y.f0 (l1.length : Int) = true ∧ isIn y.f1 (l.length : Int) = true ∧ isIn y.f2 (l.length : Int) = true ∧ fitsE l l1 y.f0 y.f1 y.f2 = true ∧ hasE ns y.f1 = true ∧ hasE ns y.f2 = true
 esum : sumE es ≤ 80
theorem srt_of {l : List S75} (hk : ∀ y ∈ l, kIn y) (ho : ∀ i, i < l.length → ordE l i = 0) : l.Pairwise kLt := by
 have step : ∀ i, 0 < i → (hi : i < l.length) → kLt (l[i - 1]'(by omega)) l[i] := fun i h0 hi => by
  have := ho i hi
  unfold ordE at this
  rw [if_pos h0] at this
  split at this
  · exact absurd this (by decide)
  · next hc =>
    unfold cmpAtE at hc
    rw [show ((i : Int) - 1) = ((i - 1 : Nat) : Int) by omega, rd75_nat _ _ (by omega), rd75_nat _ _ hi] at hc
    exact (cmp_lt (hk _ (List.getElem_mem _)) (hk _ (List.getElem_mem hi))).1 (by omega)
 refine List.pairwise_iff_getElem.2 fun i j hi hj hij => ?_
 have far : ∀ d, (h : i + 1 + d < l.length) → kLt l[i] l[i + 1 + d] := fun d => by
  induction d with
  | zero => intro h; exact step (i + 1) (by omega) h
  | succ d ih => intro h; exact k_trans (ih (by omega)) (step (i + 1 + (d + 1)) (by omega) h)
 have := far (j - i - 1) (by omega)
 have e : i + 1 + (j - i - 1) = j := by omega
 simpa only [e] using this
theorem sv_of {l : List S96} {l1 : List S101} {ns es : List S75} (h : Small l) (h1l : l1.length ≤ 30) (hz : sValidE l l1 ns es = 0) : SV l l1 ns es := by
 unfold sValidE at hz
 split at hz
 · next hv =>
   split at hz
   · next hs =>
     have hN := fun j (hj : j < ns.length) => scan_zero _ _ hs j (Nat.zero_le _) (by omega)
     unfold sNodesV at hz
     split at hz
     · exact absurd hz (by decide)
     · next hsum =>
       unfold sEdgesV at hz
       split at hz
       · next hs2 =>
         have hE := fun j (hj : j < es.length) => scan_zero _ _ hs2 j (Nat.zero_le _) (by omega)
         unfold sumV at hz
         split at hz
         · exact absurd hz (by decide)
         · next hsum2 =>
           have nf : ∀ y ∈ ns, nBad l y = false := fun y hy => by
            obtain ⟨j, hj, rfl⟩ := List.getElem_of_mem hy
            have := hN j hj
            unfold sN at this
            rw [rd75_nat _ _ hj] at this
            split at this
            · exact absurd this (by decide)
            · next hb => simpa using hb
           have nk : ∀ y ∈ ns, kIn y := fun y hy => n_kIn_of h (nf y hy)
           have ef : ∀ j (hj : j < es.length), eBad l l1 es[j] = false ∧ fitsE l l1 es[j].f0 es[j].f1 es[j].f2 = true ∧ hasE ns es[j].f1 = true ∧ hasE ns es[j].f2 = true ∧ ordE es j = 0 := fun j hj => by
            have := hE j hj
            unfold sE at this
            rw [rd75_nat _ _ hj] at this
            split at this
            · exact absurd this (by decide)
            · next hb =>
              split at this
              · next hf =>
                split at this
                · next hh =>
                  rw [Bool.and_eq_true] at hh
                  exact ⟨by simpa using hb, hf, hh.1, hh.2, this⟩
                · exact absurd this (by decide)
              · exact absurd this (by decide)
           have ek : ∀ y ∈ es, kIn y := fun y hy => by
            obtain ⟨j, hj, rfl⟩ := List.getElem_of_mem hy
            exact e_kIn_of h h1l (ef j hj).1
           refine { v := hv, n := { srt := srt_of nk (fun i hi => ?_), key := nk, num := fun y hy => ?_ }, nk := fun y hy => ?_, nsum := by omega, e := { srt := srt_of ek (fun i hi => (ef i hi).2.2.2.2), key := ek, num := fun y hy => ?_ }, ek := fun y hy => ?_, esum := by omega }
           · have := hN i hi
             unfold sN at this
             split at this
             · exact absurd this (by decide)
             · exact this
           · have := nf y hy; simp [nBad] at this; omega
           · have := nf y hy; simp [nBad] at this; exact ⟨this.1, this.2.1, this.2.2.1⟩
           · obtain ⟨j, hj, rfl⟩ := List.getElem_of_mem hy
             have := (ef j hj).1; simp [eBad] at this; omega
           · obtain ⟨j, hj, rfl⟩ := List.getElem_of_mem hy
             have h1 := ef j hj
             have := h1.1; simp [eBad] at this
             exact ⟨this.1, this.2.1, this.2.2.1, h1.2.1, h1.2.2.1, h1.2.2.2.1⟩
       · next hs2 => exact absurd hz hs2
   · next hs => exact absurd hz hs
 · next hv => exact absurd hz hv
theorem sv_zero {l : List S96} {l1 : List S101} {ns es : List S75} (s : SV l l1 ns es) : sValidE l l1 ns es = 0 := by
 unfold sValidE
 rw [if_pos s.v, if_pos]
 · unfold sNodesV
   rw [if_neg (by have := s.nsum; omega)]
   unfold sEdgesV
   rw [if_pos]
   · unfold sumV; rw [if_neg (by have := s.esum; omega)]
   · refine scan_all _ _ (fun j _ hj => ?_)
     have hjl : j < es.length := by omega
     have hm := List.getElem_mem hjl
     obtain ⟨k0, k1, k2, k3, k4, k5⟩ := s.ek _ hm
     have hnum := s.e.num _ hm
     unfold sE
     rw [rd75_nat _ _ hjl, if_neg, if_pos k3, if_pos (by rw [k4, k5]; rfl), ord_ok s.e j hjl]
     unfold eBad
     rw [k0, k1, k2]
     simp; omega
 · refine scan_all _ _ (fun i _ hi => ?_)
   have hil : i < ns.length := by omega
   have hm := List.getElem_mem hil
   obtain ⟨k0, k1, k2⟩ := s.nk _ hm
   have hnum := s.n.num _ hm
   unfold sN
   rw [rd75_nat _ _ hil, if_neg, ord_ok s.n i hil]
   unfold nBad
   rw [k0, k1, k2]
   simp; omega
theorem is_kIn {l : List S96} {a : Int} (h : Small l) (hi : isIn a (l.length : Int) = true) (z : Int) : kIn (⟨a, 0, 0, z⟩ : S75) := by
 have := h.1
 simp [isIn] at hi
 unfold kIn; simp only; omega
theorem has_num {l : List S96} {l1 : List S101} {ns es : List S75} (s : SV l l1 ns es) (a z : Int) : hasE ns a = true ↔ numE ns ⟨a, 0, 0, z⟩ ≠ 0 := by
 unfold hasE
 rw [List.any_eq_true]
 constructor
 · rintro ⟨y, hy, he⟩
   have := num_pos (l := ns) (x := ⟨a, 0, 0, z⟩) (fun y hy => (s.n.num y hy).1) ⟨y, hy, by simpa using he, (s.nk y hy).2.1, (s.nk y hy).2.2⟩
   omega
 · intro hn
   obtain ⟨y, hy, hk⟩ := num_has hn
   exact ⟨y, hy, by simpa using hk.1⟩
theorem pcopied_f (a b : List S75) (ha : a.length ≤ 1000) (hb : b.length ≤ 1000) : statistic_copied.f a b = some (a, b) := by
 unfold statistic_copied.f clone_Count.f
 rw [if_pos (by omega), if_pos (by omega)]; rfl
theorem awake_ev3 : Ev (fun k => scarfjointlaw18_awake.f k) true := Ev.of (fun k => scarfjointlaw18_awake.mono k) (k := 60) (by kernel_rfl)
theorem sfew_f3 (a b : List S75) : (scarfjointref18_Few.f a b = some true ∧ a.length ≤ 45 ∧ b.length ≤ 85) ∨ scarfjointref18_Few.f a b = some false := by
 unfold scarfjointref18_Few.f
 split
 · by_cases h : (b.length : Int) ≤ 85
   · left; rw [decide_eq_true h]; exact ⟨rfl, by omega, by omega⟩
   · right; rw [decide_eq_false h]
 · exact Or.inr rfl
def usedE (es : List S75) (a : Int) : Bool := es.any fun c => c.f1 == a || c.f2 == a
def nodeW (ns es : List S75) (a s : Int) : List S75 × List S75 × Int :=
 if s = 1 ∧ sumE ns = 40 then ([], [], 3)
 else if s = -1 ∧ numE ns ⟨a, 0, 0, s⟩ = 0 then ([], [], 10)
 else if s = -1 ∧ numE ns ⟨a, 0, 0, s⟩ = 1 ∧ usedE es a = true then ([], [], 14)
 else (addE ns ⟨a, 0, 0, s⟩, es, 0)
def nodeV (l : List S96) (l1 : List S101) (ns es : List S75) (a s : Int) : List S75 × List S75 × Int :=
 if sValidE l l1 ns es = 0 then (if isIn a (l.length : Int) = true ∧ (s = 1 ∨ s = -1) then nodeW ns es a s else ([], [], 6)) else ([], [], sValidE l l1 ns es)
section node
variable (l : List S96) (l1 : List S101) (hg : Good l) (h : Small l) (h1g : ∀ x ∈ l1, good101 x) (h1l : l1.length ≤ 30) (ns es : List S75) (hn : ns.length ≤ 1000) (he : es.length ≤ 1000)
include hg h h1g h1l hn he
theorem snode_ev (a s : Int) : Ev (fun k => statistic_Node.f k l l1 ns es a s) (nodeV l l1 ns es a s) := by
 unfold statistic_Node.f nodeV
 refine Ev.bind (sval_ev l l1 hg h h1g h1l ns es hn he) ?_
 by_cases hz : sValidE l l1 ns es = 0
 · simp only [hz, ↓reduceIte]
   have S := sv_of h h1l hz
   rw [is_f]
   simp only [Option.bind_some]
   have six : ∀ b, Ev (fun k => statistic_Node.j0 k b true ns es a) (([] : List S75), ([] : List S75), (6 : Int)) := fun b => by
    refine Ev.step (fun k => by rw [statistic_Node.j0]) ?_
    simp only [↓reduceIte]; exact Ev.now _
   have fin : (s = 1 ∨ s = -1) → isIn a (l.length : Int) = true → Ev (fun _ => (statistic_copied.f ns es).bind fun bt => (statistic_counted.f bt.1 a 0 0 s).bind fun t => some (t, bt.2, (0 : Int))) (addE ns ⟨a, 0, 0, s⟩, es, (0 : Int)) := fun hs hi => by
    rw [pcopied_f ns es hn he]
    simp only [Option.bind_some]
    have := counted_ev2 S.n (is_kIn h hi s) (by decide) hs hn
    simp only at this
    rw [this]; exact Ev.now _
   by_cases hi : isIn a (l.length : Int) = true
   · simp only [hi, ↓reduceIte, true_and]
     by_cases h1 : s = 1
     · subst h1
       have hf := fin (Or.inl rfl) hi
       simp only [↓reduceIte, true_or, nodeW, true_and, show ¬ ((1 : Int) = -1) by decide, false_and]
       refine Ev.step (fun k => by rw [statistic_Node.j0]) ?_
       simp only [Bool.false_eq_true, ↓reduceIte]
       refine Ev.bind (total_ev ns hn (fun y hy => by have := S.n.num y hy; omega)) ?_
       refine Ev.step (fun k => by rw [statistic_Node.j1]) ?_
       by_cases h4 : sumE ns = 40
       · simp only [h4, beq_self_eq_true, ↓reduceIte]; exact Ev.now _
       · simp only [beq_eq_false_iff_ne.2 h4, Bool.false_eq_true, h4, ↓reduceIte, show ¬ ((1 : Int) = -1) by decide]
         exact hf
     · by_cases h2 : s = -1
       · subst h2
         have hf := fin (Or.inr rfl) hi
         simp only [↓reduceIte, or_true, nodeW, true_and, show ¬ ((-1 : Int) = 1) by decide, false_and]
         refine Ev.step (fun k => by rw [statistic_Node.j0]) ?_
         simp only [bne_self_eq_false, Bool.false_eq_true, ↓reduceIte, show ¬ ((-1 : Int) = 1) by decide]
         refine Ev.step (fun k => by rw [statistic_Node.j1]) ?_
         have hnum := num_f S.n (is_kIn h hi (-1)) 0
         simp only at hnum
         simp only [Bool.false_eq_true, ↓reduceIte, hnum, Option.bind_some]
         by_cases h3 : numE ns ⟨a, 0, 0, -1⟩ = 0
         · simp only [h3, ↓reduceIte]; exact Ev.now _
         · simp only [h3, ↓reduceIte]
           by_cases h5 : numE ns ⟨a, 0, 0, -1⟩ = 1
           · simp only [h5, ↓reduceIte, true_and, any_used.f, Option.bind_some]
             refine Ev.step (fun k => by rw [statistic_Node.j2]) ?_
             by_cases h6 : usedE es a = true
             · have h6' := h6
               unfold usedE at h6'
               simp only [h6', h6, ↓reduceIte]; exact Ev.now _
             · have h6' := h6
               unfold usedE at h6'
               simp only [h6', h6, ↓reduceIte, Bool.false_eq_true]; exact hf
           · simp only [h5, ↓reduceIte, false_and]
             refine Ev.step (fun k => by rw [statistic_Node.j2]) ?_
             simp only [Bool.false_eq_true, ↓reduceIte]; exact hf
       · have hb : (s != -1) = true := bne_iff_ne.2 h2
         simp only [h1, h2, or_self, ↓reduceIte, hb]
         exact six s
   · have hi' : isIn a (l.length : Int) = false := by simpa using hi
     simp only [hi', Bool.false_eq_true, false_and, ↓reduceIte]
     exact six s
 · simp only [hz, ↓reduceIte]; exact Ev.now _
theorem rsnode_loop (a s x12 : Int) (hs : s = 1 ∨ s = -1) (hi : isIn a (l.length : Int) = true) (S : SV l l1 ns es) (hx : s = -1 → numE ns ⟨a, 0, 0, s⟩ ≠ 0) : ∀ (m i : Nat), i + m = es.length →
 Ev (fun k => scarfjointref18_Node.l0 k a s x12 (i : Int) ns es a 0 0 0) (if s = -1 ∧ x12 = 1 ∧ usedE (es.drop i) a = true then ([], [], 14) else (addE ns ⟨a, 0, 0, s⟩, es, 0)) := by
 have fin : ∀ m : Nat, Ev (fun k => (scarfjointref18_Copied.f ns es).bind fun bt => (scarfjointref18_change.f k ns a 0 0 0 s).bind fun t => some (t, bt.2, (0 : Int))) (addE ns ⟨a, 0, 0, s⟩, es, (0 : Int)) := fun _ => by
  rw [copied_f ns es hn he]
  simp only [Option.bind_some]
  have := change_ev S.n (by decide) (is_kIn h hi s) (by simp only; omega) 0 hn (fun hm => num_has (hx hm))
  simp only at this
  exact Ev.bind this (Ev.now _)
 have out : ∀ i : Int, Ev (fun k => scarfjointref18_Node.j4 k a s x12 i false ns es a 0 0 0) (addE ns ⟨a, 0, 0, s⟩, es, (0 : Int)) := fun i => by
  refine Ev.step (fun k => by rw [scarfjointref18_Node.j4]) ?_
  simp only [Bool.false_eq_true, ↓reduceIte]
  exact fin 0
 intro m
 induction m with
 | zero =>
  intro i hi'
  refine Ev.step (fun k => by rw [scarfjointref18_Node.l0]) ?_
  rw [List.drop_eq_nil_of_le (by omega)]
  simp only [show ¬ ((i : Int) < (es.length : Int)) by omega, ↓reduceIte, usedE, List.any_nil, Bool.false_eq_true, and_false]
  exact out i
 | succ m ih =>
  intro i hi'
  have hil : i < es.length := by omega
  refine Ev.step (fun k => by rw [scarfjointref18_Node.l0]) ?_
  simp only [show ((i : Int) < (es.length : Int)) by omega, ↓reduceIte]
  by_cases h2 : s = -1
  · by_cases h5 : x12 = 1
    · have ih' := ih (i + 1) (by omega)
      simp only [h2, h5, ↓reduceIte, true_and, beq_self_eq_true] at ih' ⊢
      refine Ev.step (fun k => by rw [scarfjointref18_Node.j4]) ?_
      rw [List.drop_eq_getElem_cons hil]
      simp only [↓reduceIte, show ((i : Int) < (es.length : Int)) by omega, show (0 : Int) ≤ (i : Int) by omega, rd75_nat es i hil, usedE, List.any_cons]
      by_cases e1 : es[i].f1 = a
      · simp only [e1, ↓reduceIte, beq_self_eq_true, Bool.true_or]; exact Ev.now _
      · by_cases e2 : es[i].f2 = a
        · simp only [e1, e2, ↓reduceIte, beq_self_eq_true, Bool.or_true, Bool.true_or]; exact Ev.now _
        · simp only [e1, e2, ↓reduceIte, beq_eq_false_iff_ne.2 e1, beq_eq_false_iff_ne.2 e2, Bool.or_false, Bool.false_or]
          rw [w64 _ (by omega) (by omega)]
          exact ih'
    · have hb : (x12 == 1) = false := beq_eq_false_iff_ne.2 h5
      simp only [h2, h5, ↓reduceIte, hb, false_and, and_false]
      have := out i
      rw [h2] at this
      exact this
  · simp only [h2, ↓reduceIte, false_and]
    exact out i
theorem rsnode_ev (a s : Int) : Ev (fun k => scarfjointref18_Node.f k l l1 ns es a s) (nodeV l l1 ns es a s) := by
 unfold scarfjointref18_Node.f nodeV
 refine Ev.bind (rsval_ev l l1 hg h h1g h1l ns es hn he) ?_
 by_cases hz : sValidE l l1 ns es = 0
 · simp only [hz, ↓reduceIte]
   have S := sv_of h h1l hz
   rw [ris_f]
   simp only [Option.bind_some]
   have six : ∀ b, Ev (fun k => scarfjointref18_Node.j0 k a b true ns es) (([] : List S75), ([] : List S75), (6 : Int)) := fun b => by
    refine Ev.step (fun k => by rw [scarfjointref18_Node.j0]) ?_
    simp only [↓reduceIte]; exact Ev.now _
   by_cases hi : isIn a (l.length : Int) = true
   · have hnum : ∀ s : Int, Ev (fun k => scarfjointref18_number.f k ns a 0 0 0) (numE ns ⟨a, 0, 0, s⟩) := fun s => rnum_ev S.n (is_kIn h hi s) hn 0
     simp only [hi, ↓reduceIte, true_and]
     by_cases h1 : s = 1
     · subst h1
       have lp := rsnode_loop l l1 hg h h1g h1l ns es hn he a 1 (numE ns ⟨a, 0, 0, 1⟩) (Or.inl rfl) hi S (fun hh => absurd hh (by decide)) es.length 0 (by omega)
       simp only [show ¬ ((1 : Int) = -1) by decide, false_and, ↓reduceIte] at lp
       simp only [↓reduceIte, true_or, nodeW, true_and, show ¬ ((1 : Int) = -1) by decide, false_and]
       refine Ev.step (fun k => by rw [scarfjointref18_Node.j0]) ?_
       simp only [Bool.false_eq_true, ↓reduceIte]
       refine Ev.bind (hnum 1) ?_
       refine Ev.bind (rtotal_ev ns hn (fun y hy => by have := S.n.num y hy; omega)) ?_
       refine Ev.step (fun k => by rw [scarfjointref18_Node.j1]) ?_
       by_cases h4 : sumE ns = 40
       · simp only [h4, beq_self_eq_true, ↓reduceIte]; exact Ev.now _
       · simp only [beq_eq_false_iff_ne.2 h4, Bool.false_eq_true, h4, ↓reduceIte, show ¬ ((1 : Int) = -1) by decide]
         refine Ev.step (fun k => by rw [scarfjointref18_Node.j2]) ?_
         simp only [Bool.false_eq_true, ↓reduceIte]
         exact lp
     · by_cases h2 : s = -1
       · subst h2
         simp only [↓reduceIte, or_true, nodeW, true_and, show ¬ ((-1 : Int) = 1) by decide, false_and]
         refine Ev.step (fun k => by rw [scarfjointref18_Node.j0]) ?_
         simp only [bne_self_eq_false, Bool.false_eq_true, ↓reduceIte, show ¬ ((-1 : Int) = 1) by decide]
         refine Ev.bind (hnum (-1)) ?_
         refine Ev.step (fun k => by rw [scarfjointref18_Node.j1]) ?_
         simp only [Bool.false_eq_true, ↓reduceIte]
         refine Ev.step (fun k => by rw [scarfjointref18_Node.j2]) ?_
         by_cases h3 : numE ns ⟨a, 0, 0, -1⟩ = 0
         · simp only [h3, beq_self_eq_true, ↓reduceIte]; exact Ev.now _
         · simp only [beq_eq_false_iff_ne.2 h3, Bool.false_eq_true, h3, ↓reduceIte]
           have lp := rsnode_loop l l1 hg h h1g h1l ns es hn he a (-1) (numE ns ⟨a, 0, 0, -1⟩) (Or.inr rfl) hi S (fun _ => h3) es.length 0 (by omega)
           simp only [true_and, List.drop_zero] at lp
           exact lp
       · have hb : (s != -1) = true := bne_iff_ne.2 h2
         simp only [h1, h2, or_self, ↓reduceIte, hb]
         exact six s
   · have hi' : isIn a (l.length : Int) = false := by simpa using hi
     simp only [hi', Bool.false_eq_true, false_and, ↓reduceIte]
     exact six s
 · simp only [hz, ↓reduceIte]; exact Ev.now _
end node
theorem node_facts {l : List S96} {l1 : List S101} {ns es : List S75} {a s : Int} (hk : ∀ n, sValidE l l1 ns es = n → n ≠ 0 → n ≠ 0) (h0 : (nodeV l l1 ns es a s).2.2 = 0) :
 sValidE l l1 ns es = 0 ∧ isIn a (l.length : Int) = true ∧ (s = 1 ∨ s = -1) ∧ ¬ (s = 1 ∧ sumE ns = 40) ∧ ¬ (s = -1 ∧ numE ns ⟨a, 0, 0, s⟩ = 0) ∧ ¬ (s = -1 ∧ numE ns ⟨a, 0, 0, s⟩ = 1 ∧ usedE es a = true) ∧ nodeV l l1 ns es a s = (addE ns ⟨a, 0, 0, s⟩, es, 0) := by
 unfold nodeV at h0 ⊢
 by_cases hz : sValidE l l1 ns es = 0
 · rw [if_pos hz] at h0 ⊢
   by_cases hi : isIn a (l.length : Int) = true ∧ (s = 1 ∨ s = -1)
   · rw [if_pos hi] at h0 ⊢
     unfold nodeW at h0 ⊢
     split at h0
     · exact absurd h0 (by decide)
     · next c1 =>
       split at h0
       · exact absurd h0 (by decide)
       · next c2 =>
         split at h0
         · exact absurd h0 (by decide)
         · next c3 =>
           rw [if_neg c1, if_neg c2, if_neg c3]
           exact ⟨hz, hi.1, hi.2, c1, c2, c3, rfl⟩
   · rw [if_neg hi] at h0; exact absurd h0 (by decide)
 · rw [if_neg hz] at h0; exact absurd h0 hz
theorem num_add : ∀ {ns : List S75} {a s : Int} {B : Int}, Cnt B ns → s ≠ 0 → numE (addE ns ⟨a, 0, 0, s⟩) ⟨a, 0, 0, -s⟩ = numE ns ⟨a, 0, 0, s⟩ + s
 | [], a, s, B, _, h0 => by
  simp [addE, numE, kEq]
 | y :: ns, a, s, B, hc, h0 => by
  by_cases hy : kLt y ⟨a, 0, 0, s⟩
  · rw [addE, if_pos hy, numE, if_neg (k_lt_ne (b := ⟨a, 0, 0, -s⟩) hy), num_add hc.tail h0, numE, if_neg (k_lt_ne hy)]
  · by_cases he : kEq y ⟨a, 0, 0, s⟩
    · rw [addE, if_neg hy, if_pos he, numE, if_pos he]
      by_cases hz : y.f3 + s = 0
      · rw [if_pos hz, num_none]
        · omega
        · intro z hz' hk
          have := (List.pairwise_cons.1 hc.srt).1 z hz'
          have hk' : kEq z ⟨a, 0, 0, s⟩ := hk
          unfold kEq kLt at *; omega
      · have he2 : kEq (⟨y.f0, y.f1, y.f2, y.f3 + s⟩ : S75) ⟨a, 0, 0, -s⟩ := he
        rw [if_neg hz, numE, if_pos he2]
    · have hgt : kLt ⟨a, 0, 0, s⟩ y := by
       rcases k_tri y ⟨a, 0, 0, s⟩ with h | h | h
       · exact absurd h hy
       · exact absurd h he
       · exact h
      rw [addE, if_neg hy, if_neg he, numE, if_pos ⟨rfl, rfl, rfl⟩, numE, if_neg he, num_none ns _ (later_ne hc hgt)]
      simp
theorem node_next {l : List S96} {l1 : List S101} {ns es : List S75} {a s : Int} (h : Small l) (S : SV l l1 ns es) (hi : isIn a (l.length : Int) = true) (hs : s = 1 ∨ s = -1) (c1 : ¬ (s = 1 ∧ sumE ns = 40)) (c2 : ¬ (s = -1 ∧ numE ns ⟨a, 0, 0, s⟩ = 0)) (c3 : ¬ (s = -1 ∧ numE ns ⟨a, 0, 0, s⟩ = 1 ∧ usedE es a = true)) :
 SV l l1 (addE ns ⟨a, 0, 0, s⟩) es := by
 have hx := is_kIn h hi s
 have c := add_Cnt2 S.n hx (hs.imp id fun e => ⟨e, num_has fun h0 => c2 ⟨e, h0⟩⟩) (by decide)
 have hsum : sumE (addE ns ⟨a, 0, 0, s⟩) ≤ 40 := by
  rw [add_sum]; have := S.nsum; simp only; omega
 have keep : ∀ y ∈ es, ∀ b : Int, (b = y.f1 ∨ b = y.f2) → hasE ns b = true → hasE (addE ns ⟨a, 0, 0, s⟩) b = true := fun y hy b hb hh => by
  rcases hs with rfl | rfl
  · unfold hasE at hh ⊢
    rw [List.any_eq_true] at hh ⊢
    obtain ⟨z, hz, he⟩ := hh
    obtain ⟨u, hu, hk⟩ := add_keep (x := ⟨a, 0, 0, 1⟩) (Int.le_refl 1) (fun y hy => (S.n.num y hy).1) hz
    exact ⟨u, hu, by have := hk.1; simp at he; simp; omega⟩
  · by_cases hba : b = a
    · have hu : usedE es a = true := by
       unfold usedE
       rw [List.any_eq_true]
       refine ⟨y, hy, ?_⟩
       rcases hb with rfl | rfl <;> simp [hba]
      have n1 : numE ns ⟨a, 0, 0, -1⟩ ≠ 1 := fun hn => c3 ⟨rfl, hn, hu⟩
      have n0 : numE ns ⟨a, 0, 0, -1⟩ ≠ 0 := fun hn => c2 ⟨rfl, hn⟩
      have e := num_add (a := a) (s := -1) S.n (by decide)
      obtain ⟨z, hz, hk⟩ := num_has (l := addE ns ⟨a, 0, 0, -1⟩) (x := ⟨a, 0, 0, - -1⟩) (by rw [e]; omega)
      unfold hasE
      rw [List.any_eq_true]
      exact ⟨z, hz, by have := hk.1; simp at this; simp; omega⟩
    · unfold hasE at hh ⊢
      rw [List.any_eq_true] at hh ⊢
      obtain ⟨z, hz, he⟩ := hh
      have far : ∀ {ns : List S75} {z : S75}, z ∈ ns → z.f0 ≠ a → z ∈ addE ns ⟨a, 0, 0, -1⟩ := fun {ns} => by
       induction ns with
       | nil => intro z hz; cases hz
       | cons w ns ih =>
        intro z hz hne
        unfold addE
        split
        · rcases List.mem_cons.1 hz with rfl | hz
          · exact List.mem_cons_self
          · exact List.mem_cons_of_mem _ (ih hz hne)
        · split
          · next hk =>
            rcases List.mem_cons.1 hz with rfl | hz
            · exact absurd hk.1 hne
            · split
              · exact hz
              · exact List.mem_cons_of_mem _ hz
          · exact List.mem_cons_of_mem _ hz
      exact ⟨z, far hz (by simp at he; omega), he⟩
 refine { v := S.v, n := c.sum hsum, nk := fun y hy => ?_, nsum := hsum, e := S.e, ek := fun y hy => ?_, esum := S.esum }
 · rcases add_mem hy with hk | hy
   · obtain ⟨k0, k1, k2⟩ := hk
     simp only at k0 k1 k2
     exact ⟨by rw [k0]; exact hi, k1, k2⟩
   · exact S.nk y hy
 · obtain ⟨k0, k1, k2, k3, k4, k5⟩ := S.ek y hy
   exact ⟨k0, k1, k2, k3, keep y hy _ (Or.inl rfl) k4, keep y hy _ (Or.inr rfl) k5⟩
theorem node_back {l : List S96} {l1 : List S101} {ns es : List S75} {a s : Int} (h : Small l) (h1l : l1.length ≤ 30) (h0 : (nodeV l l1 ns es a s).2.2 = 0) :
 nodeV l l1 (nodeV l l1 ns es a s).1 (nodeV l l1 ns es a s).2.1 a (-s) = (ns, es, 0) := by
 obtain ⟨hz, hi, hs, c1, c2, c3, e⟩ := node_facts (fun _ _ x => x) h0
 have S := sv_of h h1l hz
 have S' := node_next h S hi hs c1 c2 c3
 have hb := add_back (x := ⟨a, 0, 0, s⟩) S.n (by simp only; omega)
 simp only at hb
 have hn := num_add (a := a) (s := s) S.n (by omega)
 have hsum := add_sum ns ⟨a, 0, 0, s⟩
 simp only at hsum
 rw [e]
 simp only
 unfold nodeV
 rw [if_pos (sv_zero S'), if_pos ⟨hi, by omega⟩]
 unfold nodeW
 rw [hb]
 have nn : ∀ x y : Int, numE ns ⟨a, 0, 0, x⟩ = numE ns ⟨a, 0, 0, y⟩ := fun x y => by
  have : ∀ ns : List S75, numE ns ⟨a, 0, 0, x⟩ = numE ns ⟨a, 0, 0, y⟩ := fun ns => by
   induction ns with
   | nil => rfl
   | cons w ns ih => rw [numE, numE, ih]; rfl
  exact this ns
 have hge : 0 ≤ numE ns ⟨a, 0, 0, s⟩ := by
  by_cases hq : numE ns ⟨a, 0, 0, s⟩ = 0
  · omega
  · have := num_pos (fun y hy => (S.n.num y hy).1) (num_has hq); omega
 rw [if_neg (fun hh => ?_), if_neg (fun hh => ?_), if_neg (fun hh => ?_)]
 · obtain ⟨e1, e2, hu⟩ := hh
   rw [hn] at e2
   have hs1 : s = 1 := by omega
   subst hs1
   have hz0 : numE ns ⟨a, 0, 0, 1⟩ = 0 := by omega
   unfold usedE at hu
   rw [List.any_eq_true] at hu
   obtain ⟨y, hy, hk⟩ := hu
   obtain ⟨_, _, _, _, k4, k5⟩ := S.ek y hy
   rw [Bool.or_eq_true] at hk
   rcases hk with hk | hk
   · have : y.f1 = a := by simpa using hk
     rw [this] at k4
     exact (has_num S a 1).1 k4 hz0
   · have : y.f2 = a := by simpa using hk
     rw [this] at k5
     exact (has_num S a 1).1 k5 hz0
 · obtain ⟨e1, e2⟩ := hh
   rw [hn] at e2
   omega
 · obtain ⟨e1, e2⟩ := hh
   rw [hsum] at e2
   have := S.nsum; omega
theorem sv_len {l : List S96} {l1 : List S101} {ns es : List S75} {a s : Int} : (nodeV l l1 ns es a s).1.length ≤ ns.length + 1 ∧ (nodeV l l1 ns es a s).2.1.length ≤ es.length := by
 unfold nodeV
 split
 · split
   · unfold nodeW
     split
     · exact ⟨Nat.zero_le _, Nat.zero_le _⟩
     · split
       · exact ⟨Nat.zero_le _, Nat.zero_le _⟩
       · split
         · exact ⟨Nat.zero_le _, Nat.zero_le _⟩
         · exact ⟨add_len _ _, Nat.le_refl _⟩
   · exact ⟨Nat.zero_le _, Nat.zero_le _⟩
 · exact ⟨Nat.zero_le _, Nat.zero_le _⟩
theorem StatisticNode_pure : ∀ (l0_0 : List S96) (l0_1 : List S101) (l1_0 : List S75) (l1_1 : List S75) (a2_0 : Int) (a2_1 : Int) (a2_2 : Int) (a2_3 : Int), (l0_0.length ≤ reachBytes ∧ ∀ x_ ∈ l0_0, good96 x_) → (l0_1.length ≤ reachBytes ∧ ∀ x_ ∈ l0_1, good101 x_) → (l1_0.length ≤ reachBytes ∧ ∀ x_ ∈ l1_0, good75 x_) → (l1_1.length ≤ reachBytes ∧ ∀ x_ ∈ l1_1, good75 x_) → (Lit.int .i64 a2_0).wf = true → (Lit.int .i64 a2_1).wf = true → (Lit.int .i64 a2_2).wf = true → (Lit.int .i64 a2_3).wf = true → ∃ k, scarfjointlaw18_StatisticNode.f k l0_0 l0_1 l1_0 l1_1 a2_0 a2_1 a2_2 a2_3 = some true := by
 intro l l1 ns es p q r s hl hl1 _ _ _ _ _ _
 have no : Ev (fun k => scarfjointlaw18_StatisticNode.j0 k true l l1 ns es p q r s) true := by
  refine Ev.step (fun k => by rw [scarfjointlaw18_StatisticNode.j0]) ?_
  simp only [↓reduceIte]
  exact Ev.bind awake_ev3 (Ev.now _)
 refine Ev.rounds ?_
 unfold scarfjointlaw18_StatisticNode.f
 refine Ev.bind awake_ev3 ?_
 simp only [↓reduceIte]
 obtain ⟨q0, hb, hQ⟩ := few_ev l l1 hl.2 hl.1 hl1.1
 refine Ev.bind hb ?_
 cases q0
 · simp only [Bool.false_eq_true, ↓reduceIte]; exact no
 · obtain ⟨hs, h30⟩ := hQ rfl
   simp only [↓reduceIte]
   rcases sfew_f3 ns es with ⟨e, hn, he⟩ | e
   · rw [e]
     simp only [Option.bind_some, Bool.not_true]
     refine Ev.step (fun k => by rw [scarfjointlaw18_StatisticNode.j0]) ?_
     simp only [Bool.false_eq_true, ↓reduceIte, copied_f ns es (by omega) (by omega), Option.bind_some]
     refine Ev.bind (snode_ev l l1 hl.2 hs hl1.2 h30 ns es (by omega) (by omega) p s) ?_
     refine Ev.bind (rsnode_ev l l1 hl.2 hs hl1.2 h30 ns es (by omega) (by omega) p s) ?_
     have hlen := sv_len (l := l) (l1 := l1) (ns := ns) (es := es) (a := p) (s := s)
     simp only [↓reduceIte]
     refine Ev.bind (same_ev _ _ (by omega) (by omega)) ?_
     simp only [↓reduceIte]
     refine Ev.step (fun k => by rw [scarfjointlaw18_StatisticNode.j1]) ?_
     by_cases h0 : (nodeV l l1 ns es p s).2.2 = 0
     · have hbk := node_back hs h30 h0
       obtain ⟨_, _, hss, _⟩ := node_facts (fun _ _ x => x) h0
       have hw : wrap64 (-s) = -s := by rcases hss with rfl | rfl <;> exact w64 _ (by omega) (by omega)
       have bk := snode_ev l l1 hl.2 hs hl1.2 h30 (nodeV l l1 ns es p s).1 (nodeV l l1 ns es p s).2.1 (by omega) (by omega) p (-s)
       rw [hbk] at bk
       simp only [h0, bne_self_eq_false, Bool.false_eq_true, ↓reduceIte, hw]
       refine Ev.bind bk ?_
       simp only [↓reduceIte]
       exact Ev.bind (same_ev ns es (by omega) (by omega)) (Ev.now _)
     · have hne : ((nodeV l l1 ns es p s).2.2 != 0) = true := bne_iff_ne.2 h0
       simp only [hne, ↓reduceIte]
       exact Ev.bind (same_ev _ _ (by omega) (by omega)) (Ev.now _)
   · rw [e]
     simp only [Option.bind_some, Bool.not_false]; exact no
end Go.Proofs.YtfpianecohobjaaGreat.P
