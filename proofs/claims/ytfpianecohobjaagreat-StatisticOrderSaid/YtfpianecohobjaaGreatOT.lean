/- StatisticOf: a part of its proof. No condition. -/
import Derived.Test.YtfpianecohobjaaGreatOS
import Derived.Test.YtfpianecohobjaaGreatOH2
import Derived.Test.YtfpianecohobjaaGreatOMh
import Derived.Test.YtfpianecohobjaaGreatOMk
import Derived.Test.YtfpianecohobjaaGreatOPx20
import Derived.Test.YtfpianecohobjaaGreatOMd
import Derived.Test.YtfpianecohobjaaGreatOMl
import Derived.Test.YtfpianecohobjaaGreatOMa
import Derived.Test.YtfpianecohobjaaGreatOPx61
namespace Go.Proofs.YtfpianecohobjaaGreat.P
open Go.RowKit Go.Proofs.YtfpianecohobjaaGreatW.PrintWords Go.Proofs.YtfpianecohobjaaGreatW.PrintLast
set_option maxRecDepth 100000
set_option linter.unusedVariables false
set_option linter.unusedSimpArgs false
set_option linter.unusedSectionVars false
def kLt (a b : S75) : Prop := a.f0 < b.f0 ∨ (a.f0 = b.f0 ∧ (a.f1 < b.f1 ∨ (a.f1 = b.f1 ∧ a.f2 < b.f2)))
def kEq (a b : S75) : Prop := a.f0 = b.f0 ∧ a.f1 = b.f1 ∧ a.f2 = b.f2
instance (a b : S75) : Decidable (kLt a b) := by unfold kLt; exact inferInstance
instance (a b : S75) : Decidable (kEq a b) := by unfold kEq; exact inferInstance
def kIn (a : S75) : Prop := (0 ≤ a.f0 ∧ a.f0 ≤ 1000) ∧ (0 ≤ a.f1 ∧ a.f1 ≤ 1000) ∧ (0 ≤ a.f2 ∧ a.f2 ≤ 1000)
theorem cmp_lt {a b : S75} (ha : kIn a) (hb : kIn b) : cmpE a.f0 a.f1 a.f2 b.f0 b.f1 b.f2 < 0 ↔ kLt a b := by
 unfold kIn at ha hb
 unfold cmpE kLt
 rw [w64 (a.f0 - b.f0) (by omega) (by omega), w64 (a.f1 - b.f1) (by omega) (by omega), w64 (a.f2 - b.f2) (by omega) (by omega)]
 split
 · split <;> omega
 · omega
theorem cmp_eq {a b : S75} (ha : kIn a) (hb : kIn b) : cmpE a.f0 a.f1 a.f2 b.f0 b.f1 b.f2 = 0 ↔ kEq a b := by
 unfold kIn at ha hb
 unfold cmpE kEq
 rw [w64 (a.f0 - b.f0) (by omega) (by omega), w64 (a.f1 - b.f1) (by omega) (by omega), w64 (a.f2 - b.f2) (by omega) (by omega)]
 split
 · split <;> omega
 · omega
theorem k_tri (a b : S75) : kLt a b ∨ kEq a b ∨ kLt b a := by unfold kLt kEq; omega
theorem k_lt_ne {a b : S75} (h : kLt a b) : ¬ kEq a b := by unfold kLt kEq at *; omega
theorem k_lt_as {a b : S75} (h : kLt a b) : ¬ kLt b a := by unfold kLt at *; omega
theorem k_trans {a b c : S75} (h : kLt a b) (h' : kLt b c) : kLt a c := by unfold kLt at *; omega
structure Cnt (B : Int) (l : List S75) : Prop where
 srt : l.Pairwise kLt
 key : ∀ y ∈ l, kIn y
 num : ∀ y ∈ l, 1 ≤ y.f3 ∧ y.f3 ≤ B
theorem Cnt.nil (B : Int) : Cnt B [] := { srt := List.Pairwise.nil, key := fun y h => (List.not_mem_nil h).elim, num := fun y h => (List.not_mem_nil h).elim }
theorem Cnt.tail {B : Int} {y : S75} {l : List S75} (h : Cnt B (y :: l)) : Cnt B l :=
 ⟨(List.pairwise_cons.1 h.srt).2, fun z hz => h.key z (List.mem_cons_of_mem _ hz), fun z hz => h.num z (List.mem_cons_of_mem _ hz)⟩
def addE : List S75 → S75 → List S75
 | [], x => [x]
 | y :: l, x => if kLt y x then y :: addE l x else if kEq y x then (if y.f3 + x.f3 = 0 then l else ⟨y.f0, y.f1, y.f2, y.f3 + x.f3⟩ :: l) else x :: y :: l
def posE : List S75 → S75 → Nat
 | [], _ => 0
 | y :: l, x => if kLt y x then posE l x + 1 else 0
theorem posE_le : ∀ (l : List S75) (x : S75), posE l x ≤ l.length
 | [], _ => Nat.le_refl _
 | y :: l, x => by
  unfold posE
  split
  · exact Nat.succ_le_succ (posE_le l x)
  · exact Nat.zero_le _
theorem rd75_nat (l : List S75) (i : Nat) (h : i < l.length) : rd_T75 l (i : Int) = l[i] := by unfold rd_T75; simp [h]
theorem pos_below : ∀ (l : List S75) (x : S75) (h : Nat), h < posE l x → (hl : h < l.length) → kLt l[h] x
 | [], x, h, hp, hl => by cases hl
 | y :: l, x, h, hp, hl => by
  unfold posE at hp
  split at hp
  · next hy =>
    cases h with
    | zero => exact hy
    | succ h => exact pos_below l x h (by omega) (by simpa using hl)
  · omega
theorem pos_above {B : Int} : ∀ (l : List S75) (x : S75), Cnt B l → ∀ (h : Nat), posE l x ≤ h → (hl : h < l.length) → ¬ kLt l[h] x
 | [], x, _, h, hp, hl => by cases hl
 | y :: l, x, hc, h, hp, hl => by
  unfold posE at hp
  split at hp
  · next hy =>
    cases h with
    | zero => omega
    | succ h => exact pos_above l x hc.tail h (by omega) (by simpa using hl)
  · next hy =>
    cases h with
    | zero => exact hy
    | succ h =>
     intro hk
     have hl' : h < l.length := by simpa using hl
     have := (List.pairwise_cons.1 hc.srt).1 l[h] (List.getElem_mem hl')
     exact hy (k_trans this hk)
theorem bsE_at (p : Nat → Bool) (m : Nat) : ∀ (n i j : Nat), j - i ≤ n → i ≤ m → m ≤ j → (∀ h, i ≤ h → h < m → p h = true) → (∀ h, m ≤ h → h < j → p h = false) → bsE p n i j = m
 | 0, i, j, hn, hi, hj, _, _ => by rw [bsE]; omega
 | n + 1, i, j, hn, hi, hj, h1, h2 => by
  rw [bsE]
  split
  · next hlt =>
    by_cases hm : (i + j) / 2 < m
    · rw [if_pos (h1 _ (by omega) hm)]
      exact bsE_at p m n _ _ (by omega) (by omega) hj (fun h ha hb => h1 h (by omega) hb) h2
    · rw [if_neg (by rw [h2 _ (by omega) (by omega)]; simp)]
      exact bsE_at p m n _ _ (by omega) hi (by omega) h1 (fun h ha hb => h2 h ha (by omega))
  · omega
theorem search_pos {B : Int} {l : List S75} {x : S75} (hc : Cnt B l) (hx : kIn x) : searchAt l x.f0 x.f1 x.f2 = posE l x := by
 unfold searchAt
 refine bsE_at _ _ _ _ _ (by omega) (Nat.zero_le _) (posE_le l x) (fun h _ hh => ?_) (fun h hh hl => ?_)
 · have hl : h < l.length := Nat.lt_of_lt_of_le hh (posE_le l x)
   refine decide_eq_true ?_
   unfold cmpAt
   rw [rd75_nat _ _ hl]
   exact (cmp_lt (hc.key _ (List.getElem_mem hl)) hx).2 (pos_below l x h hh hl)
 · refine decide_eq_false ?_
   unfold cmpAt
   rw [rd75_nat _ _ hl]
   exact fun h' => pos_above l x hc h hh hl ((cmp_lt (hc.key _ (List.getElem_mem hl)) hx).1 h')
theorem add_found : ∀ (l : List S75) (x : S75) (h : posE l x < l.length), kEq l[posE l x] x → l[posE l x].f3 + x.f3 ≠ 0 → addE l x = l.set (posE l x) ⟨l[posE l x].f0, l[posE l x].f1, l[posE l x].f2, l[posE l x].f3 + x.f3⟩
 | [], x, h, _, _ => by cases h
 | y :: l, x, h, he, hz => by
  by_cases hy : kLt y x
  · have hp : posE (y :: l) x = posE l x + 1 := by rw [posE, if_pos hy]
    simp only [hp, List.getElem_cons_succ] at he hz ⊢
    rw [addE, if_pos hy, List.set_cons_succ, add_found l x (by rw [hp] at h; simpa using h) he hz]
  · have hp : posE (y :: l) x = 0 := by rw [posE, if_neg hy]
    simp only [hp, List.getElem_cons_zero] at he hz ⊢
    rw [addE, if_neg hy, if_pos he, if_neg hz]; rfl
theorem add_new : ∀ (l : List S75) (x : S75), (∀ h : posE l x < l.length, ¬ kEq l[posE l x] x) → addE l x = l.take (posE l x) ++ x :: l.drop (posE l x)
 | [], x, _ => rfl
 | y :: l, x, hn => by
  by_cases hy : kLt y x
  · have hp : posE (y :: l) x = posE l x + 1 := by rw [posE, if_pos hy]
    rw [addE, if_pos hy, hp, List.take_succ_cons, List.drop_succ_cons, List.cons_append, add_new l x (fun h => by
     have := hn (by rw [hp]; simpa using h)
     simpa only [hp, List.getElem_cons_succ] using this)]
  · have hp : posE (y :: l) x = 0 := by rw [posE, if_neg hy]
    have := hn (by rw [hp]; simp)
    simp only [hp, List.getElem_cons_zero] at this
    rw [addE, if_neg hy, if_neg this, hp]; rfl
theorem counted_ev {B : Int} {l : List S75} {x : S75} (hc : Cnt B l) (hx : kIn x) (hB : B ≤ 1000) (hx3 : 1 ≤ x.f3 ∧ x.f3 ≤ 1000) (hl : l.length ≤ 1000) : statistic_counted.f l x.f0 x.f1 x.f2 x.f3 = some (addE l x) := by
 unfold statistic_counted.f
 rw [if_pos (by omega)]
 unfold foundAt
 rw [search_pos hc hx]
 have hple := posE_le l x
 by_cases hlt : posE l x < l.length
 · have hk := hc.key _ (List.getElem_mem hlt)
   have hn := hc.num _ (List.getElem_mem hlt)
   have hcm : cmpAt l x.f0 x.f1 x.f2 (posE l x) = 0 ↔ kEq l[posE l x] x := by
    unfold cmpAt
    rw [rd75_nat _ _ hlt]
    exact cmp_eq hk hx
   rw [rd75_nat _ _ hlt, w64 _ (by omega) (by omega)]
   by_cases he : kEq l[posE l x] x
   · rw [decide_eq_true hlt, decide_eq_true (hcm.2 he), if_pos (by rfl), if_neg (by omega), add_found l x hlt he (by omega)]
   · rw [decide_eq_true hlt, decide_eq_false (fun h => he (hcm.1 h)), if_neg (by simp), add_new l x (fun _ => he)]
 · rw [decide_eq_false hlt, if_neg (by simp), add_new l x (fun h => absurd h hlt)]
theorem add_mem : ∀ {l : List S75} {x y : S75}, y ∈ addE l x → (kEq y x ∨ y ∈ l)
 | [], x, y, h => by
  obtain rfl : y = x := by simpa [addE] using h
  exact Or.inl ⟨rfl, rfl, rfl⟩
 | w :: l, x, y, h => by
  unfold addE at h
  split at h
  · rcases List.mem_cons.1 h with rfl | h
    · exact Or.inr List.mem_cons_self
    · rcases add_mem h with h | h
      · exact Or.inl h
      · exact Or.inr (List.mem_cons_of_mem _ h)
  · split at h
    · next he =>
      split at h
      · exact Or.inr (List.mem_cons_of_mem _ h)
      · rcases List.mem_cons.1 h with rfl | h
        · exact Or.inl he
        · exact Or.inr (List.mem_cons_of_mem _ h)
    · rcases List.mem_cons.1 h with rfl | h
      · exact Or.inl ⟨rfl, rfl, rfl⟩
      · exact Or.inr h
theorem add_Cnt {B : Int} : ∀ {l : List S75} {x : S75}, Cnt B l → kIn x → 1 ≤ x.f3 → 0 ≤ B → Cnt (B + x.f3) (addE l x)
 | [], x, hc, hx, h1, hB => by
  refine { srt := List.pairwise_singleton _ _, key := fun y hy => ?_, num := fun y hy => ?_ }
  · obtain rfl : y = x := by simpa [addE] using hy
    exact hx
  · obtain rfl : y = x := by simpa [addE] using hy
    omega
 | w :: l, x, hc, hx, h1, hB => by
  have hw := hc.num w List.mem_cons_self
  have hkw := hc.key w List.mem_cons_self
  have hs := List.pairwise_cons.1 hc.srt
  unfold addE
  split
  · next hlt =>
    have ih := add_Cnt hc.tail hx h1 hB
    refine { srt := List.pairwise_cons.2 ⟨fun z hz => ?_, ih.srt⟩, key := fun y hy => ?_, num := fun y hy => ?_ }
    · rcases add_mem hz with h | h
      · unfold kLt kEq at *; omega
      · exact hs.1 z h
    · rcases List.mem_cons.1 hy with rfl | hy
      · exact hkw
      · exact ih.key y hy
    · rcases List.mem_cons.1 hy with rfl | hy
      · omega
      · exact ih.num y hy
  · next hlt =>
    split
    · next he =>
      rw [if_neg (by omega)]
      refine { srt := List.pairwise_cons.2 ⟨fun z hz => hs.1 z hz, hs.2⟩, key := fun y hy => ?_, num := fun y hy => ?_ }
      · rcases List.mem_cons.1 hy with rfl | hy
        · exact hkw
        · exact hc.key y (List.mem_cons_of_mem _ hy)
      · rcases List.mem_cons.1 hy with rfl | hy
        · show 1 ≤ w.f3 + x.f3 ∧ w.f3 + x.f3 ≤ _; omega
        · have := hc.num y (List.mem_cons_of_mem _ hy); omega
    · next he =>
      have hgt : kLt x w := by
       rcases k_tri w x with h | h | h
       · exact absurd h hlt
       · exact absurd h he
       · exact h
      refine { srt := List.pairwise_cons.2 ⟨fun z hz => ?_, hc.srt⟩, key := fun y hy => ?_, num := fun y hy => ?_ }
      · rcases List.mem_cons.1 hz with rfl | hz
        · exact hgt
        · exact k_trans hgt (hs.1 z hz)
      · rcases List.mem_cons.1 hy with rfl | hy
        · exact hx
        · exact hc.key y hy
      · rcases List.mem_cons.1 hy with rfl | hy
        · omega
        · have := hc.num y hy; omega
def sumE : List S75 → Int
 | [] => 0
 | y :: l => y.f3 + sumE l
theorem add_sum : ∀ (l : List S75) (x : S75), sumE (addE l x) = sumE l + x.f3
 | [], x => by simp [addE, sumE]
 | w :: l, x => by
  unfold addE
  split
  · rw [sumE, add_sum l x, sumE]; omega
  · split
    · split
      · next hz => rw [sumE]; omega
      · rw [sumE, sumE]; show w.f3 + x.f3 + _ = _; omega
    · rw [sumE]; omega
theorem add_len (l : List S75) (x : S75) : (addE l x).length ≤ l.length + 1 := by
 induction l with
 | nil => simp [addE]
 | cons w l ih =>
  unfold addE
  split
  · simpa using ih
  · split
    · split <;> simp <;> omega
    · simp
theorem add_has : ∀ {l : List S75} {x : S75}, 1 ≤ x.f3 → (∀ y ∈ l, 1 ≤ y.f3) → ∃ y ∈ addE l x, kEq y x
 | [], x, _, _ => ⟨x, by simp [addE], rfl, rfl, rfl⟩
 | w :: l, x, h1, hn => by
  unfold addE
  split
  · obtain ⟨y, hy, he⟩ := add_has (l := l) h1 (fun y hy => hn y (List.mem_cons_of_mem _ hy))
    exact ⟨y, List.mem_cons_of_mem _ hy, he⟩
  · split
    · next he =>
      have := hn w List.mem_cons_self
      rw [if_neg (by omega)]
      exact ⟨_, List.mem_cons_self, he⟩
    · exact ⟨x, List.mem_cons_self, rfl, rfl, rfl⟩
theorem add_keep : ∀ {l : List S75} {x z : S75}, 1 ≤ x.f3 → (∀ y ∈ l, 1 ≤ y.f3) → z ∈ l → ∃ y ∈ addE l x, kEq y z
 | [], x, z, _, _, h => by cases h
 | w :: l, x, z, h1, hn, h => by
  unfold addE
  split
  · rcases List.mem_cons.1 h with rfl | h
    · exact ⟨_, List.mem_cons_self, rfl, rfl, rfl⟩
    · obtain ⟨y, hy, he⟩ := add_keep h1 (fun y hy => hn y (List.mem_cons_of_mem _ hy)) h
      exact ⟨y, List.mem_cons_of_mem _ hy, he⟩
  · split
    · have := hn w List.mem_cons_self
      rw [if_neg (by omega)]
      rcases List.mem_cons.1 h with rfl | h
      · exact ⟨_, List.mem_cons_self, rfl, rfl, rfl⟩
      · exact ⟨z, List.mem_cons_of_mem _ h, rfl, rfl, rfl⟩
    · exact ⟨z, List.mem_cons_of_mem _ h, rfl, rfl, rfl⟩
def graphE (g : List Int) (es : List S56) : Int := if (g.length : Int) > 40 ∨ (es.length : Int) > 80 then 3 else if g.any (fun t => !withinB t 99) = true then 6 else if es.any (fun e => !fitsB e.f0 e.f1 e.f2 (g.length : Int)) = true then 6 else 0
theorem graph_ev (g : List Int) (es : List S56) : Ev (fun k => graph_Valid.f k g es) (graphE g es) := by
 have fin : Ev (fun k => graph_Valid.j0 k false g es) (if g.any (fun t => !withinB t 99) = true then 6 else if es.any (fun e => !fitsB e.f0 e.f1 e.f2 (g.length : Int)) = true then 6 else 0) := by
  refine Ev.step (fun k => by rw [graph_Valid.j0]) ?_
  simp only [Bool.false_eq_true, ↓reduceIte, any_graph1.f, any_graph2.f, Option.bind_some]
  cases g.any (fun t => !withinB t 99)
  · cases es.any (fun e => !fitsB e.f0 e.f1 e.f2 (g.length : Int)) <;> exact Ev.now _
  · exact Ev.now _
 have big : Ev (fun k => graph_Valid.j0 k true g es) 3 := by
  refine Ev.step (fun k => by rw [graph_Valid.j0]) ?_
  simp only [↓reduceIte]; exact Ev.now _
 unfold graph_Valid.f graphE
 by_cases h1 : (g.length : Int) > 40
 · simp only [h1, true_or, ↓reduceIte]; exact big
 · by_cases h2 : (es.length : Int) > 80
   · simp only [h1, h2, or_true, ↓reduceIte, decide_true]; exact big
   · simp only [h1, h2, or_self, ↓reduceIte, decide_false]; exact fin
theorem rd56_nat (l : List S56) (i : Nat) (h : i < l.length) : rd_T56 l (i : Int) = l[i] := by unfold rd_T56; simp [h]
theorem graph_facts {g : List Int} {es : List S56} (h : graphE g es = 0) : g.length ≤ 40 ∧ es.length ≤ 80 ∧ (∀ i : Nat, i < g.length → 0 ≤ rd g (i : Int) ∧ rd g (i : Int) ≤ 99) ∧
 ∀ j : Nat, j < es.length → (0 ≤ (rd_T56 es (j : Int)).f0 ∧ (rd_T56 es (j : Int)).f0 ≤ 99) ∧ (0 ≤ (rd_T56 es (j : Int)).f1 ∧ (rd_T56 es (j : Int)).f1 < (g.length : Int)) ∧ (0 ≤ (rd_T56 es (j : Int)).f2 ∧ (rd_T56 es (j : Int)).f2 < (g.length : Int)) := by
 unfold graphE at h
 split at h
 · exact absurd h (by decide)
 · next h1 =>
   split at h
   · exact absurd h (by decide)
   · next h2 =>
     split at h
     · exact absurd h (by decide)
     · next h3 =>
       rw [Bool.not_eq_true, List.any_eq_false] at h2 h3
       refine ⟨by omega, by omega, fun i hi => ?_, fun j hj => ?_⟩
       · have := h2 _ (List.getElem_mem hi)
         rw [rd_nat _ _ hi]
         simp [withinB] at this
         omega
       · have := h3 _ (List.getElem_mem hj)
         rw [rd56_nat _ _ hj]
         simp only [fitsB, withinB] at this
         rw [w64 _ (by omega) (by omega)] at this
         simp at this
         omega
theorem scan_succ (F : Nat → Int) (m i : Nat) : scan F (m + 1) i = if F i = 0 then scan F m (i + 1) else F i := rfl
def nodeF (l : List S96) (g : List Int) (i : Nat) : Int := if rd g (i : Int) ≥ (l.length : Int) then 6 else 0
def edgeF (l : List S96) (l1 : List S101) (g : List Int) (es : List S56) (j : Nat) : Int := if (rd_T56 es (j : Int)).f0 ≥ (l1.length : Int) then 6 else if fitsE l l1 (rd_T56 es (j : Int)).f0 (rd g (rd_T56 es (j : Int)).f1) (rd g (rd_T56 es (j : Int)).f2) = true then 0 else 13
def typedE (l : List S96) (l1 : List S101) (g : List Int) (es : List S56) : Int := if (validE l l1).2 = 0 then (if graphE g es = 0 then (if scan (nodeF l g) g.length 0 = 0 then scan (edgeF l l1 g es) es.length 0 else scan (nodeF l g) g.length 0) else graphE g es) else (validE l l1).2
theorem scan_zero {F : Nat → Int} : ∀ (m i : Nat), scan F m i = 0 → ∀ j, i ≤ j → j < i + m → F j = 0
 | 0, i, h, j, h1, h2 => by omega
 | m + 1, i, h, j, h1, h2 => by
  unfold scan at h
  split at h
  · next h0 =>
    rcases Nat.lt_or_eq_of_le h1 with h3 | rfl
    · exact scan_zero m (i + 1) h j h3 (by omega)
    · exact h0
  · next h0 => exact absurd h h0
theorem scan_all {F : Nat → Int} : ∀ (m i : Nat), (∀ j, i ≤ j → j < i + m → F j = 0) → scan F m i = 0
 | 0, i, _ => rfl
 | m + 1, i, h => by
  unfold scan
  rw [if_pos (h i (Nat.le_refl _) (by omega))]
  exact scan_all m (i + 1) (fun j h1 h2 => h j (by omega) (by omega))
section typed
variable (l : List S96) (l1 : List S101) (hg : Good l) (h : Small l) (h1g : ∀ x ∈ l1, good101 x) (h1l : l1.length ≤ 30) (g : List Int) (es : List S56)
include hg h h1g h1l
theorem typed_edges (hG : graphE g es = 0) : ∀ (m i : Nat), i + m = es.length → Ev (fun k => statistic_typed.l1 k es (es.length : Int) (i : Int) l l1 g es) (scan (edgeF l l1 g es) m i)
 | 0, i, hi => by
  refine Ev.step (fun k => by rw [statistic_typed.l1]) ?_
  simp only [show ¬ ((i : Int) < (es.length : Int)) by omega, ↓reduceIte]; exact Ev.now _
 | m + 1, i, hi => by
  obtain ⟨f1, f2, f3, f4⟩ := graph_facts hG
  obtain ⟨e0, e1, e2⟩ := f4 i (by omega)
  refine Ev.step (fun k => by rw [statistic_typed.l1]) ?_
  simp only [show ((i : Int) < (es.length : Int)) by omega, show (0 : Int) ≤ (i : Int) by omega, e1.1, e1.2, e2.1, e2.2, ↓reduceIte]
  unfold scan
  by_cases hr : (rd_T56 es (i : Int)).f0 ≥ (l1.length : Int)
  · have : edgeF l l1 g es i = 6 := by unfold edgeF; rw [if_pos hr]
    simp only [hr, ↓reduceIte, this, show ¬ ((6 : Int) = 0) by omega]; exact Ev.now _
  · simp only [hr, ↓reduceIte]
    refine Ev.bind (Fits_ev l l1 hg h h1g h1l _ _ _) ?_
    cases hf : fitsE l l1 (rd_T56 es (i : Int)).f0 (rd g (rd_T56 es (i : Int)).f1) (rd g (rd_T56 es (i : Int)).f2)
    · have : edgeF l l1 g es i = 13 := by unfold edgeF; rw [if_neg hr, hf]; rfl
      simp only [Bool.false_eq_true, ↓reduceIte, this, show ¬ ((13 : Int) = 0) by omega]; exact Ev.now _
    · have : edgeF l l1 g es i = 0 := by unfold edgeF; rw [if_neg hr, hf]; rfl
      simp only [↓reduceIte, this]
      rw [w64 _ (by omega) (by omega)]
      exact typed_edges hG m (i + 1) (by omega)
theorem typed_nodes (hG : graphE g es = 0) : ∀ (m i : Nat), i + m = g.length → Ev (fun k => statistic_typed.l0 k g (g.length : Int) (i : Int) l l1 g es) (if scan (nodeF l g) m i = 0 then scan (edgeF l l1 g es) es.length 0 else scan (nodeF l g) m i)
 | 0, i, hi => by
  refine Ev.step (fun k => by rw [statistic_typed.l0]) ?_
  simp only [show ¬ ((i : Int) < (g.length : Int)) by omega, ↓reduceIte, scan]; exact typed_edges l l1 hg h h1g h1l g es hG es.length 0 (by omega)
 | m + 1, i, hi => by
  have f1 := (graph_facts hG).1
  refine Ev.step (fun k => by rw [statistic_typed.l0]) ?_
  simp only [show ((i : Int) < (g.length : Int)) by omega, show (0 : Int) ≤ (i : Int) by omega, ↓reduceIte]
  rw [scan_succ]
  by_cases hr : rd g (i : Int) ≥ (l.length : Int)
  · have : nodeF l g i = 6 := by unfold nodeF; rw [if_pos hr]
    simp only [hr, ↓reduceIte, this, show ¬ ((6 : Int) = 0) by omega]; exact Ev.now _
  · have : nodeF l g i = 0 := by unfold nodeF; rw [if_neg hr]
    simp only [hr, ↓reduceIte, this]
    rw [w64 _ (by omega) (by omega)]
    exact typed_nodes hG m (i + 1) (by omega)
theorem typed_ev : Ev (fun k => statistic_typed.f k l l1 g es) (typedE l l1 g es) := by
 unfold statistic_typed.f typedE
 refine Ev.bind (valid_ev l l1 hg h h1g h1l) ?_
 by_cases hv : (validE l l1).2 = 0
 · simp only [hv, ↓reduceIte]
   refine Ev.bind (graph_ev g es) ?_
   by_cases hG : graphE g es = 0
   · simp only [hG, ↓reduceIte]; exact typed_nodes l l1 hg h h1g h1l g es hG g.length 0 (by omega)
   · simp only [hG, ↓reduceIte]; exact Ev.now _
 · simp only [hv, ↓reduceIte]; exact Ev.now _
end typed
theorem typed_facts {l : List S96} {l1 : List S101} {g : List Int} {es : List S56} (h : typedE l l1 g es = 0) : (validE l l1).2 = 0 ∧ graphE g es = 0 ∧ (∀ i : Nat, i < g.length → rd g (i : Int) < (l.length : Int)) ∧
 ∀ j : Nat, j < es.length → (rd_T56 es (j : Int)).f0 < (l1.length : Int) ∧ fitsE l l1 (rd_T56 es (j : Int)).f0 (rd g (rd_T56 es (j : Int)).f1) (rd g (rd_T56 es (j : Int)).f2) = true := by
 unfold typedE at h
 split at h
 · next hv =>
   split at h
   · next hG =>
     split at h
     · next hn =>
       refine ⟨hv, hG, fun i hi => ?_, fun j hj => ?_⟩
       · have := scan_zero _ _ hn i (Nat.zero_le _) (by omega)
         unfold nodeF at this
         split at this
         · exact absurd this (by decide)
         · omega
       · have := scan_zero _ _ h j (Nat.zero_le _) (by omega)
         unfold edgeF at this
         split at this
         · exact absurd this (by decide)
         · split at this
           · next hf => exact ⟨by omega, hf⟩
           · exact absurd this (by decide)
     · next hn => exact absurd h hn
   · next hG => exact absurd h hG
 · next hv => exact absurd h hv
def nkey (g : List Int) (i : Nat) : S75 := ⟨rd g (i : Int), 0, 0, 1⟩
def ekey (g : List Int) (es : List S56) (j : Nat) : S75 := ⟨(rd_T56 es (j : Int)).f0, rd g (rd_T56 es (j : Int)).f1, rd g (rd_T56 es (j : Int)).f2, 1⟩
def accE (K : Nat → S75) : Nat → Nat → List S75 → List S75
 | 0, _, acc => acc
 | m + 1, i, acc => accE K m (i + 1) (addE acc (K i))
theorem acc_succ (K : Nat → S75) (m i : Nat) (acc : List S75) : accE K (m + 1) i acc = accE K m (i + 1) (addE acc (K i)) := rfl
structure Acc (K : Nat → S75) (i : Nat) (acc : List S75) : Prop where
 cnt : Cnt (i : Int) acc
 len : acc.length ≤ i
 sum : sumE acc = (i : Int)
 of : ∀ y ∈ acc, ∃ j, j < i ∧ kEq y (K j)
 has : ∀ j, j < i → ∃ y ∈ acc, kEq y (K j)
theorem Acc.zero (K : Nat → S75) : Acc K 0 [] := { cnt := Cnt.nil _, len := Nat.le_refl _, sum := rfl, of := fun y h => (List.not_mem_nil h).elim, has := fun j h => absurd h (Nat.not_lt_zero _) }
theorem k_eq_tr {a b c : S75} (h : kEq a b) (h' : kEq b c) : kEq a c := by unfold kEq at *; omega
theorem Acc.step {K : Nat → S75} {i : Nat} {acc : List S75} (h : Acc K i acc) (hk : kIn (K i)) (h1 : (K i).f3 = 1) : Acc K (i + 1) (addE acc (K i)) := by
 have hn : ∀ y ∈ acc, 1 ≤ y.f3 := fun y hy => (h.cnt.num y hy).1
 have c := add_Cnt h.cnt hk (by omega) (by omega)
 rw [h1] at c
 refine { cnt := ?_, len := Nat.le_trans (add_len _ _) (Nat.succ_le_succ h.len), sum := by rw [add_sum, h.sum, h1]; omega, of := fun y hy => ?_, has := fun j hj => ?_ }
 · rw [show ((i + 1 : Nat) : Int) = (i : Int) + 1 by omega]; exact c
 · rcases add_mem hy with he | hm
   · exact ⟨i, by omega, he⟩
   · obtain ⟨j, hj, he⟩ := h.of y hm
     exact ⟨j, by omega, he⟩
 · rcases Nat.lt_or_eq_of_le (Nat.le_of_lt_succ hj) with hlt | rfl
   · obtain ⟨y, hy, he⟩ := h.has j hlt
     obtain ⟨z, hz, hze⟩ := add_keep (x := K i) (by omega) hn hy
     exact ⟨z, hz, k_eq_tr hze he⟩
   · exact add_has (by omega) hn
theorem Acc.all {K : Nat → S75} (hk : ∀ n : Nat, n < n + 1 → True) : ∀ (m i : Nat) (acc : List S75), Acc K i acc → (∀ j, i ≤ j → j < i + m → kIn (K j) ∧ (K j).f3 = 1) → Acc K (i + m) (accE K m i acc)
 | 0, i, acc, h, _ => h
 | m + 1, i, acc, h, hj => by
  have h0 := hj i (Nat.le_refl _) (by omega)
  have := Acc.all hk m (i + 1) _ (h.step h0.1 h0.2) (fun j h1 h2 => hj j (by omega) (by omega))
  rw [acc_succ, show i + (m + 1) = i + 1 + m by omega]; exact this
section of
variable (l : List S96) (l1 : List S101) (hg : Good l) (h : Small l) (h1g : ∀ x ∈ l1, good101 x) (h1l : l1.length ≤ 30) (g : List Int) (es : List S56)
def nsE (g : List Int) : List S75 := accE (nkey g) g.length 0 []
def esE (g : List Int) (es : List S56) : List S75 := accE (ekey g es) es.length 0 []
theorem nkey_in {g : List Int} {es : List S56} (hG : graphE g es = 0) (i : Nat) (hi : i < g.length) : kIn (nkey g i) := by
 have := (graph_facts hG).2.2.1 i hi
 unfold kIn nkey
 exact ⟨⟨this.1, by show rd g (i : Int) ≤ 1000; omega⟩, ⟨(by decide : (0 : Int) ≤ 0), (by decide : (0 : Int) ≤ 1000)⟩, ⟨(by decide : (0 : Int) ≤ 0), (by decide : (0 : Int) ≤ 1000)⟩⟩
theorem rd_at {g : List Int} {es : List S56} (hG : graphE g es = 0) (x : Int) (h0 : 0 ≤ x) (h1 : x < (g.length : Int)) : 0 ≤ rd g x ∧ rd g x ≤ 99 := by
 have := (graph_facts hG).2.2.1 x.toNat (by omega)
 rwa [Int.toNat_of_nonneg h0] at this
theorem ekey_in {g : List Int} {es : List S56} (hG : graphE g es = 0) (j : Nat) (hj : j < es.length) : kIn (ekey g es j) := by
 obtain ⟨e0, e1, e2⟩ := (graph_facts hG).2.2.2 j hj
 have h1 := rd_at hG _ e1.1 e1.2
 have h2 := rd_at hG _ e2.1 e2.2
 unfold kIn ekey
 exact ⟨⟨e0.1, by show (rd_T56 es (j : Int)).f0 ≤ 1000; omega⟩, ⟨h1.1, by show rd g (rd_T56 es (j : Int)).f1 ≤ 1000; omega⟩, ⟨h2.1, by show rd g (rd_T56 es (j : Int)).f2 ≤ 1000; omega⟩⟩
theorem of_edges (hG : graphE g es = 0) (ns : List S75) : ∀ (m j : Nat) (acc : List S75), j + m = es.length → Acc (ekey g es) j acc →
 Ev (fun k => statistic_Of.l1 k es (es.length : Int) (j : Int) g es ns acc) (ns, accE (ekey g es) m j acc, 0)
 | 0, j, acc, hj, _ => by
  refine Ev.step (fun k => by rw [statistic_Of.l1]) ?_
  simp only [show ¬ ((j : Int) < (es.length : Int)) by omega, ↓reduceIte]; exact Ev.now _
 | m + 1, j, acc, hj, ha => by
  obtain ⟨f1, f2, f3, f4⟩ := graph_facts hG
  obtain ⟨e0, e1, e2⟩ := f4 j (by omega)
  have hl := ha.len
  have hk := ekey_in hG j (by omega)
  have hc := counted_ev (x := ekey g es j) ha.cnt hk (by omega) (by show (1 : Int) ≤ 1 ∧ (1 : Int) ≤ 1000; decide) (by omega)
  refine Ev.step (fun k => by rw [statistic_Of.l1]) ?_
  simp only [show ((j : Int) < (es.length : Int)) by omega, show (0 : Int) ≤ (j : Int) by omega, e1.1, e1.2, e2.1, e2.2, ↓reduceIte]
  unfold ekey at hc
  simp only at hc
  rw [hc, w64 _ (by omega) (by omega), acc_succ]
  simp only [Option.bind_some]
  exact of_edges hG ns m (j + 1) _ (by omega) (ha.step hk rfl)
theorem of_nodes (hG : graphE g es = 0) : ∀ (m i : Nat) (acc : List S75), i + m = g.length → Acc (nkey g) i acc →
 Ev (fun k => statistic_Of.l0 k g (g.length : Int) (i : Int) g es acc) (accE (nkey g) m i acc, esE g es, 0)
 | 0, i, acc, hi, _ => by
  refine Ev.step (fun k => by rw [statistic_Of.l0]) ?_
  simp only [show ¬ ((i : Int) < (g.length : Int)) by omega, ↓reduceIte]
  exact of_edges g es hG acc es.length 0 [] (by omega) (Acc.zero _)
 | m + 1, i, acc, hi, ha => by
  have f1 := (graph_facts hG).1
  have hl := ha.len
  have hk := nkey_in hG i (by omega)
  have hc := counted_ev (x := nkey g i) ha.cnt hk (by omega) (by show (1 : Int) ≤ 1 ∧ (1 : Int) ≤ 1000; decide) (by omega)
  refine Ev.step (fun k => by rw [statistic_Of.l0]) ?_
  simp only [show ((i : Int) < (g.length : Int)) by omega, show (0 : Int) ≤ (i : Int) by omega, ↓reduceIte]
  unfold nkey at hc
  simp only at hc
  rw [hc, w64 _ (by omega) (by omega), acc_succ]
  simp only [Option.bind_some]
  exact of_nodes hG m (i + 1) _ (by omega) (ha.step hk rfl)
def ofE (l : List S96) (l1 : List S101) (g : List Int) (es : List S56) : List S75 × List S75 × Int := if typedE l l1 g es = 0 then (nsE g, esE g es, 0) else ([], [], typedE l l1 g es)
include hg h h1g h1l
theorem of_ev : Ev (fun k => statistic_Of.f k l l1 g es) (ofE l l1 g es) := by
 unfold statistic_Of.f ofE
 refine Ev.bind (typed_ev l l1 hg h h1g h1l g es) ?_
 by_cases h0 : typedE l l1 g es = 0
 · simp only [h0, ↓reduceIte]
   exact of_nodes g es (typed_facts h0).2.1 g.length 0 [] (by omega) (Acc.zero _)
 · simp only [h0, ↓reduceIte]; exact Ev.now _
end of
theorem same_loop (a : List S75) (ha : a.length ≤ 1000) : ∀ (m i : Nat), i + m = a.length → Ev (fun k => scarfjointref18_SameCounts.l0 k a a (i : Int)) true
 | 0, i, hi => by
  refine Ev.step (fun k => by rw [scarfjointref18_SameCounts.l0]) ?_
  simp only [show ¬ ((i : Int) < (a.length : Int)) by omega, ↓reduceIte]; exact Ev.now _
 | m + 1, i, hi => by
  refine Ev.step (fun k => by rw [scarfjointref18_SameCounts.l0]) ?_
  simp only [show ((i : Int) < (a.length : Int)) by omega, show (0 : Int) ≤ (i : Int) by omega, beq_self_eq_true, Bool.not_true, Bool.or_self, Bool.false_eq_true, ↓reduceIte]
  rw [w64 _ (by omega) (by omega)]
  exact same_loop a ha m (i + 1) (by omega)
theorem same_ev (a b : List S75) (ha : a.length ≤ 1000) (hb : b.length ≤ 1000) : Ev (fun k => scarfjointref18_Same.f k a b a b) true := by
 unfold scarfjointref18_Same.f scarfjointref18_SameCounts.f
 simp only [↓reduceIte]
 refine Ev.bind (same_loop a ha a.length 0 (by omega)) ?_
 simp only [↓reduceIte]
 refine Ev.bind (same_loop b hb b.length 0 (by omega)) ?_
 exact Ev.now _
theorem ns_acc {g : List Int} {es : List S56} (hG : graphE g es = 0) : Acc (nkey g) g.length (nsE g) := by
 have := Acc.all (K := nkey g) (fun _ _ => trivial) g.length 0 [] (Acc.zero _) (fun j _ hj => ⟨nkey_in hG j (by omega), rfl⟩)
 rwa [Nat.zero_add] at this
theorem es_acc {g : List Int} {es : List S56} (hG : graphE g es = 0) : Acc (ekey g es) es.length (esE g es) := by
 have := Acc.all (K := ekey g es) (fun _ _ => trivial) es.length 0 [] (Acc.zero _) (fun j _ hj => ⟨ekey_in hG j (by omega), rfl⟩)
 rwa [Nat.zero_add] at this
section sval
variable (l : List S96) (l1 : List S101) (hg : Good l) (h : Small l) (h1g : ∀ x ∈ l1, good101 x) (h1l : l1.length ≤ 30) (ns es : List S75) (hn : ns.length ≤ 1000) (he : es.length ≤ 1000)
include hg h h1g h1l hn he
end sval
def fl (q : Int → Bool) : Nat → Nat → List Int
 | 0, _ => []
 | m + 1, i => if q (i : Int) = true then (i : Int) :: fl q m (i + 1) else fl q m (i + 1)
theorem fl_succ (q : Int → Bool) (m i : Nat) : fl q (m + 1) i = if q (i : Int) = true then (i : Int) :: fl q m (i + 1) else fl q m (i + 1) := rfl
section
variable (l : List S96) (l1 : List S101) (hu : AllUp l) (h20 : l.length ≤ 20)
include hu h20
end
section
variable (l : List S96) (l1 : List S101) (hg : Good l) (h : Small l) (h1g : ∀ x ∈ l1, good101 x) (h1l : l1.length ≤ 30)
include hg h h1g h1l
end

def nmB (i : Nat) : ByteArray := (⟨#[65, 66, 67, 68, 69, 70]⟩ : ByteArray).extract i (i + 1)
def anB (i : Nat) : ByteArray := (⟨#[117, 118, 119, 120, 121, 122]⟩ : ByteArray).extract i (i + 1)
def enB (i : Nat) : ByteArray := (⟨#[101, 102, 103, 104, 105]⟩ : ByteArray).extract i (i + 1)
def offon : List ByteArray := [(⟨#[111, 102, 102]⟩ : ByteArray), (⟨#[111, 110]⟩ : ByteArray)]
theorem six {P : Nat → Prop} (h0 : P 0) (h1 : P 1) (h2 : P 2) (h3 : P 3) (h4 : P 4) (h5 : P 5) : ∀ i, i < 6 → P i := by
 intro i hi
 have : i = 0 ∨ i = 1 ∨ i = 2 ∨ i = 3 ∨ i = 4 ∨ i = 5 := by omega
 rcases this with rfl | rfl | rfl | rfl | rfl | rfl <;> assumption
theorem nm_name : ∀ i, i < 6 → nameB (nmB i) = true := six (by kernel_rfl) (by kernel_rfl) (by kernel_rfl) (by kernel_rfl) (by kernel_rfl) (by kernel_rfl)
theorem an_name : ∀ i, i < 6 → nameB (anB i) = true := six (by kernel_rfl) (by kernel_rfl) (by kernel_rfl) (by kernel_rfl) (by kernel_rfl) (by kernel_rfl)
theorem five {P : Nat → Prop} (h0 : P 0) (h1 : P 1) (h2 : P 2) (h3 : P 3) (h4 : P 4) : ∀ i, i < 5 → P i := by
 intro i hi
 have : i = 0 ∨ i = 1 ∨ i = 2 ∨ i = 3 ∨ i = 4 := by omega
 rcases this with rfl | rfl | rfl | rfl | rfl <;> assumption
theorem en_name : ∀ i, i < 5 → nameB (enB i) = true := five (by kernel_rfl) (by kernel_rfl) (by kernel_rfl) (by kernel_rfl) (by kernel_rfl)
theorem nm_size : ∀ i, i < 6 → (nmB i).size = 1 := six rfl rfl rfl rfl rfl rfl
theorem an_size : ∀ i, i < 6 → (anB i).size = 1 := six rfl rfl rfl rfl rfl rfl
theorem en_size : ∀ i, i < 5 → (enB i).size = 1 := by
 intro i hi
 have : i = 0 ∨ i = 1 ∨ i = 2 ∨ i = 3 ∨ i = 4 := by omega
 rcases this with rfl | rfl | rfl | rfl | rfl <;> rfl
theorem nm_byte : ∀ i, i < 6 → (nmB i).data.toList = [UInt8.ofNat (65 + i)] := six rfl rfl rfl rfl rfl rfl
theorem an_byte : ∀ i, i < 6 → (anB i).data.toList = [UInt8.ofNat (117 + i)] := six rfl rfl rfl rfl rfl rfl
theorem en_byte : ∀ i, i < 5 → (enB i).data.toList = [UInt8.ofNat (101 + i)] := by
 intro i hi
 have : i = 0 ∨ i = 1 ∨ i = 2 ∨ i = 3 ∨ i = 4 := by omega
 rcases this with rfl | rfl | rfl | rfl | rfl <;> rfl
theorem byte_ne (c i j : Nat) (hc : c < 200) (hi : i < 6) (hj : j < i) : ([UInt8.ofNat (c + j)] == [UInt8.ofNat (c + i)]) = false := by
 have : UInt8.ofNat (c + j) ≠ UInt8.ofNat (c + i) := by
  intro h
  have := congrArg UInt8.toNat h
  simp only [UInt8.toNat_ofNat'] at this
  omega
 simp only [beq_eq_false_iff_ne, ne_eq, List.cons.injEq, and_true]
 exact this
theorem nm_ne (i j : Nat) (hi : i < 6) (hj : j < i) : ((nmB j).toList == (nmB i).toList) = false := by
 rw [toList_data, toList_data, nm_byte i hi, nm_byte j (by omega)]; exact byte_ne 65 i j (by omega) hi hj
theorem an_ne (i j : Nat) (hi : i < 6) (hj : j < i) : ((anB j).toList == (anB i).toList) = false := by
 rw [toList_data, toList_data, an_byte i hi, an_byte j (by omega)]; exact byte_ne 117 i j (by omega) hi hj
theorem en_ne (i j : Nat) (hi : i < 5) (hj : j < i) : ((enB j).toList == (enB i).toList) = false := by
 rw [toList_data, toList_data, en_byte i hi, en_byte j (by omega)]; exact byte_ne 101 i j (by omega) (by omega) hj
theorem offon_names : namesE offon = 0 := by kernel_rfl
theorem offon_good : goodN offon := by
 have hn := reach_num
 refine ⟨by show 2 ≤ reachBytes; omega, ?_⟩
 intro x hx
 rcases List.mem_cons.1 hx with rfl | hx
 · show 3 ≤ reachBytes; omega
 · rcases List.mem_cons.1 hx with rfl | hx
   · show 2 ≤ reachBytes; omega
   · cases hx
theorem i64_wf {x : Int} (h0 : -9223372036854775808 ≤ x) (h1 : x ≤ 9223372036854775807) : (Lit.int .i64 x).wf = true := by
 simp only [Lit.wf, IntKind.min, IntKind.max, IntKind.signed, IntKind.bits, Bool.and_eq_true, decide_eq_true_eq, ite_true]
 omega
def MadeA (i : Nat) (s : List S99) : Prop := s = [] ∨ ∃ a : S99, s = [a] ∧ a.f0 = anB i ∧ ((a.f1 = -3 ∧ 3 ≤ a.f2 ∧ a.f2 ≤ 11 ∧ a.f3 = []) ∨ (a.f1 = 0 ∧ a.f2 = 1 ∧ a.f3 = offon))
def MadeT (i : Nat) (x : S96) : Prop := x.f0 = nmB i ∧ -1 ≤ x.f1 ∧ x.f1 < (i : Int) ∧ MadeA i x.f3
def MadeN (l : List S96) : Prop := 1 ≤ l.length ∧ l.length ≤ 6 ∧ ∀ i : Nat, i < l.length → MadeT i (rd_T96 l (i : Int))
def MadeG (n : Nat) (i : Nat) (x : S101) : Prop := x.f0 = enB i ∧ (0 ≤ x.f1 ∧ x.f1 < (n : Int)) ∧ (0 ≤ x.f2 ∧ x.f2 < (n : Int)) ∧ x.f3 = 0 ∧ x.f4 = -1 ∧ x.f5 = 0 ∧ x.f6 = -1
def MadeE (n : Nat) (l1 : List S101) : Prop := l1.length ≤ 5 ∧ ∀ i : Nat, i < l1.length → MadeG n i (rd_T101 l1 (i : Int))
theorem firstE_all {F : Nat → Int} {nm : Nat → ByteArray} {r : ByteArray × Int} : ∀ (m i : Nat), (∀ j, i ≤ j → j < i + m → F j = 0) → firstE F nm r m i = r
 | 0, i, _ => rfl
 | m + 1, i, h => by
  unfold firstE
  rw [if_pos (h i (Nat.le_refl _) (by omega))]
  exact firstE_all m (i + 1) (fun j h1 h2 => h j (by omega) (by omega))
section made
variable {l : List S96} (h : MadeN l)
include h
theorem made_up : AllUp l := fun j hj => ⟨(h.2.2 j hj).2.1, (h.2.2 j hj).2.2.1⟩
theorem made_attrs_mem : ∀ (n : Nat) (i : Int), At l i → ∀ x ∈ attrsE l n i, ∃ j : Nat, (j : Int) ≤ i ∧ j < l.length ∧ x ∈ (rd_T96 l (j : Int)).f3
 | 0, i, hi, x, hx => by cases hx
 | n + 1, i, hi, x, hx => by
  rcases Int.lt_or_le i 0 with hc | hc
  · rw [attrsE_neg _ _ _ hc] at hx; cases hx
  · rw [attrsE_pos _ _ _ hc] at hx
    obtain ⟨h1, h2⟩ := up_at (made_up h) hi hc
    rcases List.mem_append.1 hx with hx | hx
    · obtain ⟨j, hj, hl, hm⟩ := made_attrs_mem n _ h1 x hx
      exact ⟨j, by omega, hl, hm⟩
    · have := hi.2
      exact ⟨i.toNat, by omega, by omega, by rw [Int.toNat_of_nonneg hc]; exact hx⟩
theorem made_own (i : Nat) (hi : i < l.length) : (rd_T96 l (i : Int)).f3.length ≤ 1 := by
 rcases (h.2.2 i hi).2.2.2 with e | ⟨a, e, _⟩ <;> rw [e] <;> simp
theorem made_attrs_len : ∀ (n : Nat) (i : Int), At l i → ((attrsE l n i).length : Int) ≤ i + 1
 | 0, i, hi => by have := hi.1; simp [attrsE]; omega
 | n + 1, i, hi => by
  rcases Int.lt_or_le i 0 with hc | hc
  · have := hi.1
    rw [attrsE_neg _ _ _ hc]; simp; omega
  · obtain ⟨h1, h2⟩ := up_at (made_up h) hi hc
    have h3 := made_attrs_len n _ h1
    have := hi.2
    have h4 := made_own h i.toNat (by omega)
    rw [Int.toNat_of_nonneg hc] at h4
    rw [attrsE_pos _ _ _ hc, List.length_append]; omega
theorem made_bounds (i : Nat) (hi : i < l.length) (a : S99) (ha : (rd_T96 l (i : Int)).f3 = [a]) : a.f0 = anB i ∧ boundsE a.f1 a.f2 a.f3 = 0 := by
 rcases (h.2.2 i hi).2.2.2 with e | ⟨b, e, h0, h1⟩
 · rw [e] at ha; cases ha
 · rw [ha] at e
   obtain rfl : a = b := by simpa using e
   refine ⟨h0, ?_⟩
   rcases h1 with ⟨e1, e2, e3, e4⟩ | ⟨e1, e2, e3⟩
   · unfold boundsE
     rw [e4, namesE_nil, if_pos rfl, if_neg (by simp), if_pos (by omega)]
   · unfold boundsE
     rw [e3, offon_names, if_pos rfl, if_pos (by decide), if_pos ⟨e1, e2⟩]
theorem made_nodeE (i : Nat) (hi : i < l.length) : nodeE l i = 0 := by
 have h6 := h.2.1
 obtain ⟨h0, h1, h2, h3⟩ := h.2.2 i hi
 have hA : At l (i : Int) := ⟨by omega, by omega⟩
 have hlen := made_attrs_len h 20 (i : Int) hA
 have hown := made_own h i hi
 unfold nodeE
 rw [h0, nm_name i (by omega), if_pos rfl]
 rw [if_neg (by
  rw [Bool.not_eq_true, List.any_eq_false]
  intro m hm
  obtain ⟨j, hj, rfl⟩ := List.getElem_of_mem hm
  rw [List.length_take] at hj
  rw [List.getElem_take]
  have e := (h.2.2 j (by omega)).1
  rw [rd96_nat _ _ (by omega)] at e
  rw [e, nm_ne i j (by omega) (by omega)]; simp)]
 rw [if_neg (by omega), if_neg (by omega), if_neg (by omega)]
 rcases h3 with e | ⟨a, e, _⟩
 · rw [e]; rfl
 · rw [e]
   obtain ⟨b0, b1⟩ := made_bounds h i hi a e
   have ht : attrsE l 20 (i : Int) = attrsE l 19 (rd_T96 l (i : Int)).f1 ++ [a] := by rw [attrsE_pos _ _ _ (by omega), e]
   rw [ht]
   generalize hp : attrsE l 19 (rd_T96 l (i : Int)).f1 = p
   have hF : attrF (p ++ [a]) p.length = 0 := by
    unfold attrF
    rw [List.take_left, rd99_nat _ _ (by simp)]
    simp only [List.getElem_append_right (Nat.le_refl _), Nat.sub_self, List.getElem_cons_zero]
    unfold attrE
    rw [b0, an_name i (by omega), if_pos rfl, if_neg, b1]
    rw [Bool.not_eq_true, List.any_eq_false]
    intro m hm
    rw [← hp] at hm
    obtain ⟨h1', h2'⟩ := up_at (made_up h) hA (by omega)
    obtain ⟨j, hj, hl, hmj⟩ := made_attrs_mem h 19 _ h1' m hm
    rcases (h.2.2 j hl).2.2.2 with e' | ⟨b, e', hb0, _⟩
    · rw [e'] at hmj; cases hmj
    · rw [e'] at hmj
      obtain rfl : m = b := by simpa using hmj
      rw [hb0, an_ne i j (by omega) (by omega)]; simp
   show scan (attrF (p ++ [a])) 1 ((p ++ [a]).length - 1) = 0
   have : (p ++ [a]).length - 1 = p.length := by simp
   rw [this]
   unfold scan
   rw [if_pos hF]; rfl
theorem made_good : Good l := by
 have hn := reach_num
 intro x hx
 obtain ⟨i, hi, rfl⟩ := List.getElem_of_mem hx
 have h6 := h.2.1
 obtain ⟨h0, h1, h2, h3⟩ := h.2.2 i hi
 rw [rd96_nat _ _ hi] at h0 h1 h2 h3
 refine ⟨?_, i64_wf (by omega) (by omega), trivial, ?_⟩
 · rw [h0, nm_size i (by omega)]; omega
 · rcases h3 with e | ⟨a, e, ha, hb⟩
   · rw [e]; exact ⟨Nat.zero_le _, fun x hx => by cases hx⟩
   · rw [e]
     refine ⟨by show 1 ≤ reachBytes; omega, fun y hy => ?_⟩
     obtain rfl : y = a := by simpa using hy
     rcases hb with ⟨b1, b2, b3, b4⟩ | ⟨b1, b2, b3⟩
     · refine ⟨by rw [ha, an_size i (by omega)]; omega, i64_wf (by omega) (by omega), i64_wf (by omega) (by omega), ?_⟩
       rw [b4]; exact ⟨Nat.zero_le _, fun x hx => by cases hx⟩
     · refine ⟨by rw [ha, an_size i (by omega)]; omega, i64_wf (by omega) (by omega), i64_wf (by omega) (by omega), ?_⟩
       rw [b3]; exact offon_good
theorem made_good1 {l1 : List S101} (h1 : MadeE l.length l1) : ∀ x ∈ l1, good101 x := by
 have hn := reach_num
 have h6 := h.2.1
 have h5 := h1.1
 intro x hx
 obtain ⟨i, hi, rfl⟩ := List.getElem_of_mem hx
 obtain ⟨e0, e1, e2, e3, e4, e5, e6⟩ := h1.2 i hi
 rw [rd101_nat _ _ hi] at e0 e1 e2 e3 e4 e5 e6
 exact ⟨by rw [e0, en_size i (by omega)]; omega, i64_wf (by omega) (by omega), i64_wf (by omega) (by omega), i64_wf (by omega) (by omega), i64_wf (by omega) (by omega), i64_wf (by omega) (by omega), i64_wf (by omega) (by omega)⟩
theorem made_small : Small l := by
 have h6 := h.2.1
 refine ⟨by omega, ?_⟩
 intro x hx
 obtain ⟨i, hi, rfl⟩ := List.getElem_of_mem hx
 have := made_own h i hi
 rw [rd96_nat _ _ hi] at this
 omega
theorem made_edgeE {l1 : List S101} (h1 : MadeE l.length l1) (i : Nat) (hi : i < l1.length) : edgeE l l1 i = 0 := by
 have h5 := h1.1
 obtain ⟨e0, e1, e2, e3, e4, e5, e6⟩ := h1.2 i hi
 unfold edgeE
 rw [e0, en_name i (by omega), if_pos rfl]
 rw [if_neg (by
  rw [Bool.not_eq_true, List.any_eq_false]
  intro m hm
  obtain ⟨j, hj, rfl⟩ := List.getElem_of_mem hm
  rw [List.length_take] at hj
  rw [List.getElem_take]
  have e := (h1.2 j (by omega)).1
  rw [rd101_nat _ _ (by omega)] at e
  rw [e, en_ne i j (by omega) (by omega)]; simp)]
 rw [e3, e4, e5, e6, if_pos]
 simp only [insideB, boundB, e1.1, e1.2, e2.1, e2.2, decide_true, Bool.and_true, Bool.true_and]
 decide
theorem made_valid {l1 : List S101} (h1 : MadeE l.length l1) : (validE l l1).2 = 0 := by
 have h6 := h.2.1
 have h0 := h.1
 have h5 := h1.1
 unfold validE
 rw [if_neg (by omega), if_neg (by omega), if_neg (by omega)]
 rw [firstE_all _ _ (fun j _ hj => made_nodeE h j (by omega)), firstE_all _ _ (fun j _ hj => made_edgeE h h1 j (by omega))]
end made
theorem u8_wf {x : Int} (h : (Lit.int .u8 x).wf = true) : 0 ≤ x ∧ x ≤ 255 := by
 simp only [Lit.wf, IntKind.min, IntKind.max, IntKind.signed, IntKind.bits, Bool.and_eq_true, decide_eq_true_eq, Bool.false_eq_true, ite_false] at h
 omega
theorem rd107_nat (l : List S107) (i : Nat) (h : i < l.length) : rd_T107 l (i : Int) = l[i] := by
 rw [show rd_T107 l (i : Int) = rdOf z107 l (i : Int) from rfl, rdOf_nat _ _ _ h]
theorem good107_rd {l : List S107} (h : ∀ x ∈ l, good107 x) (i : Nat) (hi : i < l.length) : good107 (rd_T107 l (i : Int)) := by
 rw [rd107_nat _ _ hi]; exact h _ (List.getElem_mem hi)
theorem tmod_lt (x : Int) (h0 : 0 ≤ x) (n : Nat) (hn : 0 < n) : 0 ≤ Int.tmod x (n : Int) ∧ Int.tmod x (n : Int) < (n : Int) := by
 rw [Int.tmod_eq_emod_of_nonneg h0]
 exact ⟨Int.emod_nonneg _ (by omega), Int.emod_lt_of_pos _ (by omega)⟩
theorem rd96_push {l : List S96} {x : S96} (j : Nat) (hj : j < (l ++ [x]).length) : rd_T96 (l ++ [x]) (j : Int) = if h : j < l.length then rd_T96 l (j : Int) else x := by
 rw [rd96_nat _ _ hj]
 split
 · next h => rw [rd96_nat _ _ h, List.getElem_append_left h]
 · next h =>
   have : j = l.length := by rw [List.length_append] at hj; simp at hj; omega
   subst this
   simp
theorem rd101_push {l : List S101} {x : S101} (j : Nat) (hj : j < (l ++ [x]).length) : rd_T101 (l ++ [x]) (j : Int) = if h : j < l.length then rd_T101 l (j : Int) else x := by
 rw [rd101_nat _ _ hj]
 split
 · next h => rw [rd101_nat _ _ h, List.getElem_append_left h]
 · next h =>
   have : j = l.length := by rw [List.length_append] at hj; simp at hj; omega
   subst this
   simp
section made
variable (x0 x1 : List S107) (hg0 : ∀ x ∈ x0, good107 x) (hg1 : ∀ x ∈ x1, good107 x) (hl0 : x0.length ≤ reachBytes) (hl1 : x1.length ≤ reachBytes)
include hg0 hg1 hl0 hl1
theorem made_edges (l : List S96) (hl : 1 ≤ l.length ∧ l.length ≤ 6) : ∀ (m i : Nat) (acc : List S101), i + m = 5 → acc.length = i → (∀ j : Nat, j < acc.length → MadeG l.length j (rd_T101 acc (j : Int))) →
 ∃ l1, Ev (fun k => q4_Made.l1 k x1 (i : Int) l acc) (l, l1) ∧ MadeE l.length l1
 | 0, i, acc, hi, ha, hm => ⟨acc, by
  refine Ev.step (fun k => by rw [q4_Made.l1]) ?_
  simp only [show ¬ ((i : Int) < 5) by omega, ↓reduceIte, ite_self]; exact Ev.now _, by omega, hm⟩
 | m + 1, i, acc, hi, ha, hm => by
  have hn := reach_num
  by_cases hlt : i < x1.length
  · have hx := good107_rd hg1 i hlt
    have hp := u8_wf hx.1
    have hq := u8_wf hx.2
    have t1 := tmod_lt (rd_T107 x1 (i : Int)).f0 hp.1 l.length (by omega)
    have t2 := tmod_lt (rd_T107 x1 (i : Int)).f1 hq.1 l.length (by omega)
    obtain ⟨l1, h1, h2⟩ := made_edges l hl m (i + 1) (acc ++ [⟨enB i, Int.tmod (rd_T107 x1 (i : Int)).f0 (l.length : Int), Int.tmod (rd_T107 x1 (i : Int)).f1 (l.length : Int), 0, -1, 0, -1⟩]) (by omega) (by simp [ha]) (by
     intro j hj
     rw [rd101_push j hj]
     split
     · next h => exact hm j h
     · next h =>
       have : j = i := by rw [List.length_append] at hj; simp at hj; omega
       subst this
       exact ⟨rfl, t1, t2, rfl, rfl, rfl, rfl⟩)
    refine ⟨l1, Ev.step (fun k => by rw [q4_Made.l1]) ?_, h2⟩
    rw [w64 ((i : Int) + 1) (by omega) (by omega), w64 _ (by omega) (by omega), w64 _ (by omega) (by omega)]
    simp only [show ((i : Int) < (x1.length : Int)) by omega, show ((i : Int) < 5) by omega, show (0 : Int) ≤ (i : Int) by omega, show ((i : Int) ≤ (i : Int) + 1) by omega, show ((i : Int) + 1 ≤ 5) by omega, show ¬ ((l.length : Int) = 0) by omega, show acc.length < 2199023255552 by omega, ↓reduceIte]
    exact h1
  · refine ⟨acc, Ev.step (fun k => by rw [q4_Made.l1]) ?_, by omega, hm⟩
    simp only [show ¬ ((i : Int) < (x1.length : Int)) by omega, ↓reduceIte]; exact Ev.now _
theorem made_node (acc : List S96) (i : Nat) (hi : i < 6) (ha : acc.length = i) (p q : Int) (hp : 0 ≤ p ∧ p ≤ 255) (hq : 0 ≤ q ∧ q ≤ 255)
 (hm : ∀ x : S96, MadeT i x → ∃ r, Ev (fun k => q4_Made.l0 k x0 x1 ((i : Int) + 1) (acc ++ [x])) r ∧ MadeN r.1 ∧ MadeE r.1.length r.2) :
 ∃ r, Ev (fun k => q4_Made.j2 k x0 x1 (i : Int) acc p q) r ∧ MadeN r.1 ∧ MadeE r.1.length r.2 := by
 have t1 := tmod_lt p hp.1 (i + 1) (by omega)
 rw [show ((i + 1 : Nat) : Int) = (i : Int) + 1 by omega] at t1
 have hd : 0 ≤ Int.tdiv q 4 % 256 % 9 ∧ Int.tdiv q 4 % 256 % 9 ≤ 8 := by omega
 by_cases c1 : Int.tmod q 4 = 1
 · obtain ⟨r, h1, h2⟩ := hm ⟨nmB i, Int.tmod p ((i : Int) + 1) - 1, (Int.tdiv p 16 % 4) == 3, [⟨anB i, -3, 3 + Int.tdiv q 4 % 256 % 9, []⟩]⟩ ⟨rfl, by show -1 ≤ Int.tmod p ((i : Int) + 1) - 1; omega, by show Int.tmod p ((i : Int) + 1) - 1 < (i : Int); omega, Or.inr ⟨_, rfl, rfl, Or.inl ⟨rfl, by show 3 ≤ 3 + Int.tdiv q 4 % 256 % 9; omega, by show 3 + Int.tdiv q 4 % 256 % 9 ≤ 11; omega, rfl⟩⟩⟩
   refine ⟨r, Ev.step (fun k => by rw [q4_Made.j2]) ?_, h2⟩
   rw [w64 ((i : Int) + 1) (by omega) (by omega), w64 p (by omega) (by omega), w64 (Int.tmod p ((i : Int) + 1) - 1) (by omega) (by omega)]
   simp only [c1, show (0 : Int) ≤ (i : Int) by omega, show ((i : Int) ≤ (i : Int) + 1) by omega, show ((i : Int) + 1 ≤ 6) by omega, show ¬ ((i : Int) + 1 = 0) by omega, show acc.length < 2513169434916 by omega, ↓reduceIte]
   exact h1
 · by_cases c2 : Int.tmod q 4 = 2
   · obtain ⟨r, h1, h2⟩ := hm ⟨nmB i, Int.tmod p ((i : Int) + 1) - 1, (Int.tdiv p 16 % 4) == 3, [⟨anB i, 0, 1, offon⟩]⟩ ⟨rfl, by show -1 ≤ Int.tmod p ((i : Int) + 1) - 1; omega, by show Int.tmod p ((i : Int) + 1) - 1 < (i : Int); omega, Or.inr ⟨_, rfl, rfl, Or.inr ⟨rfl, rfl, rfl⟩⟩⟩
     refine ⟨r, Ev.step (fun k => by rw [q4_Made.j2]) ?_, h2⟩
     rw [w64 ((i : Int) + 1) (by omega) (by omega), w64 p (by omega) (by omega), w64 (Int.tmod p ((i : Int) + 1) - 1) (by omega) (by omega)]
     simp only [c2, show ¬ ((2 : Int) = 1) by omega, show (0 : Int) ≤ (i : Int) by omega, show ((i : Int) ≤ (i : Int) + 1) by omega, show ((i : Int) + 1 ≤ 6) by omega, show ¬ ((i : Int) + 1 = 0) by omega, show acc.length < 2513169434916 by omega, ↓reduceIte]
     exact h1
   · obtain ⟨r, h1, h2⟩ := hm ⟨nmB i, Int.tmod p ((i : Int) + 1) - 1, (Int.tdiv p 16 % 4) == 3, []⟩ ⟨rfl, by show -1 ≤ Int.tmod p ((i : Int) + 1) - 1; omega, by show Int.tmod p ((i : Int) + 1) - 1 < (i : Int); omega, Or.inl rfl⟩
     refine ⟨r, Ev.step (fun k => by rw [q4_Made.j2]) ?_, h2⟩
     rw [w64 ((i : Int) + 1) (by omega) (by omega), w64 p (by omega) (by omega), w64 (Int.tmod p ((i : Int) + 1) - 1) (by omega) (by omega)]
     simp only [c1, c2, show (0 : Int) ≤ (i : Int) by omega, show ((i : Int) ≤ (i : Int) + 1) by omega, show ((i : Int) + 1 ≤ 6) by omega, show ¬ ((i : Int) + 1 = 0) by omega, show acc.length < 2513169434916 by omega, ↓reduceIte]
     exact h1
theorem made_nodes : ∀ (m i : Nat) (acc : List S96), i + m = 6 → acc.length = i → (∀ j : Nat, j < acc.length → MadeT j (rd_T96 acc (j : Int))) →
 ∃ r, Ev (fun k => q4_Made.l0 k x0 x1 (i : Int) acc) r ∧ MadeN r.1 ∧ MadeE r.1.length r.2
 | m, i, acc, hi, ha, hm => by
  have hn := reach_num
  have stop : 1 ≤ i → ∃ r, Ev (fun k => q4_Made.j1 k x0 x1 (i : Int) false acc) r ∧ MadeN r.1 ∧ MadeE r.1.length r.2 := by
   intro h1
   obtain ⟨l1, e1, e2⟩ := made_edges x0 x1 hg0 hg1 hl0 hl1 acc (by omega) 5 0 [] (by omega) rfl (fun j hj => absurd hj (Nat.not_lt_zero _))
   refine ⟨(acc, l1), Ev.step (fun k => by rw [q4_Made.j1]) ?_, ⟨by show 1 ≤ acc.length; omega, by show acc.length ≤ 6; omega, hm⟩, e2⟩
   simp only [Bool.false_eq_true, ↓reduceIte]; exact e1
  have go : i < 6 → (∀ x : S96, MadeT i x → ∃ r, Ev (fun k => q4_Made.l0 k x0 x1 ((i : Int) + 1) (acc ++ [x])) r ∧ MadeN r.1 ∧ MadeE r.1.length r.2) → ∃ r, Ev (fun k => q4_Made.j1 k x0 x1 (i : Int) true acc) r ∧ MadeN r.1 ∧ MadeE r.1.length r.2 := by
   intro h6 hr
   by_cases hlt : i < x0.length
   · have hx := good107_rd hg0 i hlt
     obtain ⟨r, e1, e2⟩ := made_node x0 x1 hg0 hg1 hl0 hl1 acc i h6 ha _ _ (u8_wf hx.1) (u8_wf hx.2) hr
     refine ⟨r, Ev.step (fun k => by rw [q4_Made.j1]) ?_, e2⟩
     simp only [show ((i : Int) < (x0.length : Int)) by omega, show (0 : Int) ≤ (i : Int) by omega, ↓reduceIte]; exact e1
   · obtain ⟨r, e1, e2⟩ := made_node x0 x1 hg0 hg1 hl0 hl1 acc i h6 ha 0 0 (by omega) (by omega) hr
     refine ⟨r, Ev.step (fun k => by rw [q4_Made.j1]) ?_, e2⟩
     simp only [show ¬ ((i : Int) < (x0.length : Int)) by omega, ↓reduceIte]; exact e1
  cases m with
  | zero =>
   obtain ⟨r, e1, e2⟩ := stop (by omega)
   refine ⟨r, Ev.step (fun k => by rw [q4_Made.l0]) ?_, e2⟩
   simp only [show ¬ ((i : Int) = 0) by omega, show decide ((i : Int) < 6) = false by exact decide_eq_false (by omega), ↓reduceIte, ite_self]; exact e1
  | succ m =>
   have rec_ := go (by omega) (fun x hx => by
    have := made_nodes m (i + 1) (acc ++ [x]) (by omega) (by simp [ha]) (fun j hj => by
     rw [rd96_push j hj]
     split
     · next h => exact hm j h
     · next h =>
       have : j = i := by rw [List.length_append] at hj; simp at hj; omega
       subst this; exact hx)
    exact this)
   by_cases h0 : i = 0
   · obtain ⟨r, e1, e2⟩ := rec_
     refine ⟨r, Ev.step (fun k => by rw [q4_Made.l0]) ?_, e2⟩
     simp only [show ((i : Int) = 0) by omega, ↓reduceIte]
     rw [show ((i : Int)) = 0 by omega] at e1
     exact e1
   · by_cases hlt : i < x0.length
     · obtain ⟨r, e1, e2⟩ := rec_
       refine ⟨r, Ev.step (fun k => by rw [q4_Made.l0]) ?_, e2⟩
       simp only [show ¬ ((i : Int) = 0) by omega, show ((i : Int) < (x0.length : Int)) by omega, show decide ((i : Int) < 6) = true by exact decide_eq_true (by omega), ↓reduceIte]; exact e1
     · obtain ⟨r, e1, e2⟩ := stop (by omega)
       refine ⟨r, Ev.step (fun k => by rw [q4_Made.l0]) ?_, e2⟩
       simp only [show ¬ ((i : Int) = 0) by omega, show ¬ ((i : Int) < (x0.length : Int)) by omega, ↓reduceIte]; exact e1
theorem Made_ev : ∃ r, Ev (fun k => q4_Made.f k x0 x1) r ∧ MadeN r.1 ∧ MadeE r.1.length r.2 := by
 have := made_nodes x0 x1 hg0 hg1 hl0 hl1 6 0 [] (by omega) rfl (fun j hj => absurd hj (Nat.not_lt_zero _))
 exact this
end made
theorem made_all (x0 x1 : List S107) (h0 : x0.length ≤ reachBytes ∧ ∀ x ∈ x0, good107 x) (h1 : x1.length ≤ reachBytes ∧ ∀ x ∈ x1, good107 x) :
 ∃ l l1, Ev (fun k => q4_Made.f k x0 x1) (l, l1) ∧ 0 < l.length ∧ l.length ≤ 6 ∧ l1.length ≤ 5 ∧ Good l ∧ Small l ∧ (∀ x ∈ l1, good101 x) ∧ (validE l l1).2 = 0 ∧ AllUp l := by
 obtain ⟨⟨l, l1⟩, hM, hN, hE⟩ := Made_ev x0 x1 h0.2 h1.2 h0.1 h1.1
 exact ⟨l, l1, hM, hN.1, hN.2.1, hE.1, made_good hN, made_small hN, made_good1 hN hE, made_valid hN hE, made_up hN⟩
theorem ix (a : Int) (ha : (Lit.int .u8 a).wf = true) (n : Nat) (hn : 0 < n) : 0 ≤ Int.tmod (wrap64 a) (n : Int) ∧ Int.tmod (wrap64 a) (n : Int) < (n : Int) := by
 have := u8_wf ha
 rw [w64 _ (by omega) (by omega)]
 exact tmod_lt a this.1 n hn
section facts
variable (l : List S96) (l1 : List S101) (hg : Good l) (h : Small l) (h1g : ∀ x ∈ l1, good101 x) (h1l : l1.length ≤ 5) (hv : (validE l l1).2 = 0)
include hg h h1g h1l hv
end facts
structure Typd (l : List S96) (l1 : List S101) (g : List Int) (es : List S56) : Prop where
 n : ∀ x ∈ g, 0 ≤ x ∧ x < (l.length : Int)
 e : ∀ e ∈ es, (0 ≤ e.f0 ∧ e.f0 < (l1.length : Int)) ∧ (0 ≤ e.f1 ∧ e.f1 < (g.length : Int)) ∧ (0 ≤ e.f2 ∧ e.f2 < (g.length : Int)) ∧ fitsE l l1 e.f0 (rd g e.f1) (rd g e.f2) = true
theorem typd_graph {l : List S96} {l1 : List S101} {g : List Int} {es : List S56} (h6 : l.length ≤ 20) (h5 : l1.length ≤ 30) (hg : g.length ≤ 40) (he : es.length ≤ 80) (t : Typd l l1 g es) : graphE g es = 0 := by
 unfold graphE
 rw [if_neg (by omega), if_neg, if_neg]
 · rw [Bool.not_eq_true, List.any_eq_false]
   intro e hm
   obtain ⟨h0, h1, h2, _⟩ := t.e e hm
   simp only [fitsB, withinB]
   rw [w64 _ (by omega) (by omega)]
   simp
   omega
 · rw [Bool.not_eq_true, List.any_eq_false]
   intro x hm
   have := t.n x hm
   simp [withinB]
   omega
theorem typd_zero {l : List S96} {l1 : List S101} {g : List Int} {es : List S56} (hv : (validE l l1).2 = 0) (h6 : l.length ≤ 20) (h5 : l1.length ≤ 30) (hg : g.length ≤ 40) (he : es.length ≤ 80) (t : Typd l l1 g es) : typedE l l1 g es = 0 := by
 have hG := typd_graph h6 h5 hg he t
 unfold typedE
 rw [if_pos hv, if_pos hG, if_pos]
 · refine scan_all _ _ (fun j _ hj => ?_)
   have hjl : j < es.length := by omega
   obtain ⟨h0, h1, h2, h3⟩ := t.e _ (List.getElem_mem hjl)
   unfold edgeF
   rw [rd56_nat _ _ hjl, if_neg (by omega), if_pos h3]
 · refine scan_all _ _ (fun i _ hi => ?_)
   have hil : i < g.length := by omega
   have := t.n _ (List.getElem_mem hil)
   unfold nodeF
   rw [rd_nat _ _ hil, if_neg (by omega)]
theorem rd51_nat (l : List S51) (i : Nat) (h : i < l.length) : rd_T51 l (i : Int) = l[i] := by unfold rd_T51; simp [h]
section gmade
variable (l : List S96) (l1 : List S101) (hg : Good l) (h : Small l) (h1g : ∀ x ∈ l1, good101 x) (h1l : l1.length ≤ 30) (hn0 : 0 < l.length) (x1 : List Int) (x2 : List S51) (hx1 : ∀ x ∈ x1, (Lit.int .u8 x).wf = true) (hx2 : ∀ x ∈ x2, good51 x) (hl1 : x1.length ≤ reachBytes) (hl2 : x2.length ≤ reachBytes)
include hg h h1g h1l hn0 hx1 hx2 hl1 hl2
theorem gmade_edges (g : List Int) (hgn : ∀ x ∈ g, 0 ≤ x ∧ x < (l.length : Int)) (hg8 : g.length ≤ 8) : ∀ (m i : Nat) (acc : List S56), i + m = 12 → acc.length ≤ i → Typd l l1 g acc →
 ∃ es, Ev (fun k => scarfjointref18_Made.l1 k x2 (i : Int) l l1 g acc) (g, es) ∧ es.length ≤ 12 ∧ Typd l l1 g es := by
 have stop : ∀ (i : Int) (acc : List S56), Ev (fun k => scarfjointref18_Made.j3 k x2 i false l l1 g acc) (g, acc) := fun i acc => by
  refine Ev.step (fun k => by rw [scarfjointref18_Made.j3]) ?_
  simp only [Bool.false_eq_true, ↓reduceIte]; exact Ev.now _
 intro m
 induction m with
 | zero =>
  intro i acc hi ha hT
  refine ⟨acc, Ev.step (fun k => by rw [scarfjointref18_Made.l1]) ?_, by omega, hT⟩
  simp only [show ¬ ((i : Int) < 12) by omega, ↓reduceIte]
  by_cases c : (i : Int) < (x2.length : Int)
  · simp only [c, ↓reduceIte]; exact stop _ _
  · simp only [c, ↓reduceIte]; exact stop _ _
 | succ m ih =>
  intro i acc hi ha hT
  by_cases c : (i : Int) < (x2.length : Int)
  · by_cases c1 : (g.length : Int) > 0
    · by_cases c2 : (l1.length : Int) > 0
      · have hil : i < x2.length := by omega
        have hb := hx2 _ (List.getElem_mem hil)
        have a0 := ix _ hb.1 l1.length (by omega)
        have a1 := ix _ hb.2.1 g.length (by omega)
        have a2 := ix _ hb.2.2 g.length (by omega)
        have hr := rd51_nat x2 i hil
        generalize hA : Int.tmod (wrap64 x2[i].f0) (l1.length : Int) = A at a0
        generalize hB : Int.tmod (wrap64 x2[i].f1) (g.length : Int) = B at a1
        generalize hC : Int.tmod (wrap64 x2[i].f2) (g.length : Int) = C at a2
        have run : ∀ r, (∃ acc', (acc'.length ≤ i + 1 ∧ Typd l l1 g acc' ∧ ((fitsE l l1 A (rd g B) (rd g C) = true ∧ acc' = acc ++ [⟨A, B, C⟩]) ∨ (fitsE l l1 A (rd g B) (rd g C) = false ∧ acc' = acc))) ∧ Ev (fun k => scarfjointref18_Made.l1 k x2 ((i + 1 : Nat) : Int) l l1 g acc') r) → Ev (fun k => scarfjointref18_Made.l1 k x2 (i : Int) l l1 g acc) r := by
         rintro r ⟨acc', ⟨_, _, hor⟩, hev⟩
         refine Ev.step (fun k => by rw [scarfjointref18_Made.l1]) ?_
         simp only [c, show (i : Int) < 12 by omega, c1, c2, decide_true, ↓reduceIte]
         refine Ev.step (fun k => by rw [scarfjointref18_Made.j3]) ?_
         simp only [c, show (0 : Int) ≤ (i : Int) by omega, show ¬ ((l1.length : Int) = 0) by omega, show ¬ ((g.length : Int) = 0) by omega, hr, hA, hB, hC, a1.1, a1.2, a2.1, a2.2, ↓reduceIte]
         refine Ev.bind (rFits_ev l l1 hg h h1g h1l A (rd g B) (rd g C)) ?_
         rw [w64 _ (by omega) (by omega)]
         rcases hor with ⟨e, rfl⟩ | ⟨e, rfl⟩
         · simp only [e, show acc.length < 5864062014805 by omega, ↓reduceIte]
           exact hev
         · simp only [e, Bool.false_eq_true, ↓reduceIte]
           exact hev
        by_cases hf : fitsE l l1 A (rd g B) (rd g C) = true
        · have hT' : Typd l l1 g (acc ++ [⟨A, B, C⟩]) := ⟨hT.n, fun e he => by
           rcases List.mem_append.1 he with he | he
           · exact hT.e e he
           · rw [List.mem_singleton] at he; subst he; exact ⟨a0, a1, a2, hf⟩⟩
          obtain ⟨es, hE, hl, hTe⟩ := ih (i + 1) (acc ++ [⟨A, B, C⟩]) (by omega) (by simp; omega) hT'
          exact ⟨es, run _ ⟨_, ⟨by simp; omega, hT', Or.inl ⟨hf, rfl⟩⟩, hE⟩, hl, hTe⟩
        · obtain ⟨es, hE, hl, hTe⟩ := ih (i + 1) acc (by omega) (by omega) hT
          exact ⟨es, run _ ⟨_, ⟨by omega, hT, Or.inr ⟨by simpa using hf, rfl⟩⟩, hE⟩, hl, hTe⟩
      · refine ⟨acc, Ev.step (fun k => by rw [scarfjointref18_Made.l1]) ?_, by omega, hT⟩
        simp only [c, show (i : Int) < 12 by omega, c1, c2, decide_false, ↓reduceIte]; exact stop _ _
    · refine ⟨acc, Ev.step (fun k => by rw [scarfjointref18_Made.l1]) ?_, by omega, hT⟩
      simp only [c, show (i : Int) < 12 by omega, c1, ↓reduceIte]; exact stop _ _
  · refine ⟨acc, Ev.step (fun k => by rw [scarfjointref18_Made.l1]) ?_, by omega, hT⟩
    simp only [c, ↓reduceIte]; exact stop _ _
theorem gmade_nodes : ∀ (m i : Nat) (acc : List Int), i + m = 8 → acc.length = i → (∀ x ∈ acc, 0 ≤ x ∧ x < (l.length : Int)) →
 ∃ g es, Ev (fun k => scarfjointref18_Made.l0 k x1 x2 8 (i : Int) l l1 acc) (g, es) ∧ g.length ≤ 8 ∧ es.length ≤ 12 ∧ Typd l l1 g es := by
 have stop : ∀ (acc : List Int), (∀ x ∈ acc, 0 ≤ x ∧ x < (l.length : Int)) → acc.length ≤ 8 → ∃ g es, Ev (fun k => scarfjointref18_Made.j1 k x2 l l1 acc) (g, es) ∧ g.length ≤ 8 ∧ es.length ≤ 12 ∧ Typd l l1 g es := fun acc hn h8 => by
  obtain ⟨es, hE, hl, hT⟩ := gmade_edges l l1 hg h h1g h1l hn0 x1 x2 hx1 hx2 hl1 hl2 acc hn h8 12 0 [] (by omega) (Nat.le_refl _) ⟨hn, fun e he => (List.not_mem_nil he).elim⟩
  refine ⟨acc, es, Ev.step (fun k => by rw [scarfjointref18_Made.j1]) ?_, h8, hl, hT⟩
  exact hE
 intro m
 induction m with
 | zero =>
  intro i acc hi ha hn
  obtain ⟨g, es, hE, r⟩ := stop acc hn (by omega)
  refine ⟨g, es, Ev.step (fun k => by rw [scarfjointref18_Made.l0]) ?_, r⟩
  simp only [show ¬ ((i : Int) < 8) by omega, ↓reduceIte]
  by_cases c : (i : Int) < (x1.length : Int)
  · simp only [c, ↓reduceIte]; exact hE
  · simp only [c, ↓reduceIte]; exact hE
 | succ m ih =>
  intro i acc hi ha hn
  by_cases c : (i : Int) < (x1.length : Int)
  · have hil : i < x1.length := by omega
    have hb := ix _ (hx1 _ (List.getElem_mem hil)) l.length hn0
    have hr := rd_nat x1 i hil
    obtain ⟨g, es, hE, r⟩ := ih (i + 1) (acc ++ [Int.tmod (wrap64 x1[i]) (l.length : Int)]) (by omega) (by simp; omega) (fun x hx => by
     rcases List.mem_append.1 hx with hx | hx
     · exact hn x hx
     · rw [List.mem_singleton] at hx; subst hx; exact hb)
    refine ⟨g, es, Ev.step (fun k => by rw [scarfjointref18_Made.l0]) ?_, r⟩
    simp only [c, show (i : Int) < 8 by omega, show (0 : Int) ≤ (i : Int) by omega, show ¬ ((l.length : Int) = 0) by omega, show acc.length < 17592186044416 by omega, hr, ↓reduceIte]
    rw [w64 _ (by omega) (by omega)]
    exact hE
  · obtain ⟨g, es, hE, r⟩ := stop acc hn (by omega)
    refine ⟨g, es, Ev.step (fun k => by rw [scarfjointref18_Made.l0]) ?_, r⟩
    simp only [c, ↓reduceIte]; exact hE
end gmade
structure Mde (l : List S96) (l1 : List S101) (g : List Int) (es : List S56) : Prop where
 n0 : 0 < l.length
 n6 : l.length ≤ 6
 n5 : l1.length ≤ 5
 good : Good l
 small : Small l
 good1 : ∀ x ∈ l1, good101 x
 v : (validE l l1).2 = 0
 up : AllUp l
 g8 : g.length ≤ 8
 e12 : es.length ≤ 12
 t : Typd l l1 g es
theorem lmade_ev (x0 x0' : List S107) (x1 : List Int) (x2 : List S51) (h0 : x0.length ≤ reachBytes ∧ ∀ x ∈ x0, good107 x) (h0' : x0'.length ≤ reachBytes ∧ ∀ x ∈ x0', good107 x) (h1 : x1.length ≤ reachBytes ∧ ∀ x ∈ x1, (Lit.int .u8 x).wf = true) (h2 : x2.length ≤ reachBytes ∧ ∀ x ∈ x2, good51 x) :
 ∃ l l1 g es, Ev (fun k => scarfjointlaw18_made.f k x0 x0' x1 x2) (l, l1, g, es) ∧ Mde l l1 g es := by
 obtain ⟨l, l1, hM, hn0, hn6, h5, hg, hsm, h1g, hv, hu⟩ := made_all x0 x0' h0 h0'
 obtain ⟨g, es, hE, h8, h12, hT⟩ := gmade_nodes l l1 hg hsm h1g (by omega) hn0 x1 x2 h1.2 h2.2 h1.1 h2.1 8 0 [] (by omega) rfl (fun x hx => (List.not_mem_nil hx).elim)
 refine ⟨l, l1, g, es, ?_, hn0, hn6, h5, hg, hsm, h1g, hv, hu, h8, h12, hT⟩
 unfold scarfjointlaw18_made.f
 refine Ev.bind hM ?_
 exact Ev.bind hE (Ev.now _)
theorem acc_snoc (K : Nat → S75) : ∀ (m i : Nat) (acc : List S75), accE K (m + 1) i acc = addE (accE K m i acc) (K (i + m))
 | 0, i, acc => rfl
 | m + 1, i, acc => by
  rw [acc_succ, acc_snoc K m (i + 1), acc_succ, show i + 1 + m = i + (m + 1) by omega]
theorem acc_congr {K K' : Nat → S75} : ∀ (m i : Nat) (acc : List S75), (∀ j, i ≤ j → j < i + m → K j = K' j) → accE K m i acc = accE K' m i acc
 | 0, _, _, _ => rfl
 | m + 1, i, acc, h => by
  rw [acc_succ, acc_succ, h i (Nat.le_refl _) (by omega)]
  exact acc_congr m (i + 1) _ (fun j h1 h2 => h j (by omega) (by omega))
theorem rd_app {g : List Int} {a x : Int} (h0 : 0 ≤ x) (h1 : x < (g.length : Int)) : rd (g ++ [a]) x = rd g x := by
 have hx : ((x.toNat : Nat) : Int) = x := Int.toNat_of_nonneg h0
 rw [← hx, rd_nat _ _ (by simp; omega), rd_nat _ _ (by omega), List.getElem_append_left]
theorem rd_last (g : List Int) (a : Int) : rd (g ++ [a]) (g.length : Int) = a := by
 rw [rd_nat _ _ (by simp)]; simp
theorem rd56_app {es : List S56} {y : S56} (j : Nat) (h : j < es.length) : rd_T56 (es ++ [y]) (j : Int) = rd_T56 es (j : Int) := by
 rw [rd56_nat _ _ (by simp; omega), rd56_nat _ _ h, List.getElem_append_left]
theorem rd56_last (es : List S56) (y : S56) : rd_T56 (es ++ [y]) (es.length : Int) = y := by
 rw [rd56_nat _ _ (by simp)]; simp
theorem ns_snoc (g : List Int) (a : Int) : nsE (g ++ [a]) = addE (nsE g) ⟨a, 0, 0, 1⟩ := by
 unfold nsE
 rw [List.length_append, List.length_singleton, acc_snoc, Nat.zero_add]
 rw [acc_congr (K' := nkey g) g.length 0 [] (fun j _ hj => by unfold nkey; rw [rd_app (by omega) (by omega)])]
 congr 1
 unfold nkey
 rw [rd_last]
theorem es_snoc (g : List Int) (es : List S56) (y : S56) : esE g (es ++ [y]) = addE (esE g es) ⟨y.f0, rd g y.f1, rd g y.f2, 1⟩ := by
 unfold esE
 rw [List.length_append, List.length_singleton, acc_snoc, Nat.zero_add]
 rw [acc_congr (K' := ekey g es) es.length 0 [] (fun j _ hj => by unfold ekey; rw [rd56_app j (by omega)])]
 congr 1
 unfold ekey
 rw [rd56_last]
theorem add_front {x h : S75} {Z : List S75} (hx : kLt x h) : addE (h :: Z) x = x :: h :: Z := by
 rw [addE, if_neg (k_lt_as hx), if_neg (fun he => k_lt_ne hx (by unfold kEq at *; omega))]
theorem add_comm_lt {x y : S75} (hx : x.f3 = 1) (hy : y.f3 = 1) (hxy : kLt x y) : ∀ (z : List S75), (∀ w ∈ z, 1 ≤ w.f3) → addE (addE z x) y = addE (addE z y) x
 | [], _ => by
  show addE [x] y = addE [y] x
  rw [add_front hxy, addE, if_pos hxy]; rfl
 | w :: t, hz => by
  have hw := hz w List.mem_cons_self
  by_cases h1 : kLt w x
  · have h2 := k_trans h1 hxy
    rw [addE, if_pos h1, addE, if_pos h2, add_comm_lt hx hy hxy t (fun v hv => hz v (List.mem_cons_of_mem _ hv)), addE, if_pos h2, addE, if_pos h1]
  · by_cases h2 : kEq w x
    · have h3 : kLt w y := by unfold kEq kLt at *; omega
      have h4 : kLt (⟨w.f0, w.f1, w.f2, w.f3 + x.f3⟩ : S75) y := h3
      rw [addE, if_neg h1, if_pos h2, if_neg (by omega), addE, if_pos h4, addE, if_pos h3, addE, if_neg h1, if_pos h2, if_neg (by omega)]
    · have h3 : kLt x w := by
       rcases k_tri w x with h | h | h
       · exact absurd h h1
       · exact absurd h h2
       · exact h
      rw [add_front h3, addE, if_pos hxy]
      have e : ∃ h Z, addE (w :: t) y = h :: Z ∧ kLt x h := by
       rw [addE]
       by_cases c1 : kLt w y
       · rw [if_pos c1]; exact ⟨_, _, rfl, h3⟩
       · rw [if_neg c1]
         by_cases c2 : kEq w y
         · rw [if_pos c2, if_neg (by omega)]; exact ⟨_, _, rfl, h3⟩
         · rw [if_neg c2]; exact ⟨_, _, rfl, hxy⟩
      obtain ⟨h, Z, e, hh⟩ := e
      rw [e, add_front hh]
theorem add_comm {x y : S75} (hx : x.f3 = 1) (hy : y.f3 = 1) (z : List S75) (hz : ∀ w ∈ z, 1 ≤ w.f3) : addE (addE z x) y = addE (addE z y) x := by
 rcases k_tri x y with h | h | h
 · exact add_comm_lt hx hy h z hz
 · have : x = y := by
    obtain ⟨h0, h1, h2⟩ := h
    cases x; cases y
    simp only [S75.mk.injEq] at *
    omega
   rw [this]
 · exact (add_comm_lt hy hx h z hz).symm
theorem add_pos {x : S75} (hx : x.f3 = 1) : ∀ (z : List S75), (∀ w ∈ z, 1 ≤ w.f3) → ∀ w ∈ addE z x, 1 ≤ w.f3
 | [], _, w, h => by
  obtain rfl : w = x := by simpa [addE] using h
  omega
 | v :: t, hz, w, h => by
  have hv := hz v List.mem_cons_self
  have ht := fun u hu => hz u (List.mem_cons_of_mem v hu)
  unfold addE at h
  split at h
  · rcases List.mem_cons.1 h with rfl | h
    · exact hv
    · exact add_pos hx t ht w h
  · split at h
    · rw [if_neg (by omega)] at h
      rcases List.mem_cons.1 h with rfl | h
      · show 1 ≤ v.f3 + x.f3; omega
      · exact ht w h
    · rcases List.mem_cons.1 h with rfl | h
      · omega
      · exact hz w h
instance (z : List S75) : Decidable (∀ w ∈ z, 1 ≤ w.f3) := inferInstance
def addP (z : List S75) (x : S75) : List S75 := if (∀ w ∈ z, 1 ≤ w.f3) then addE z x else z
theorem foldP : ∀ (L : List S75) (z : List S75), (∀ x ∈ L, x.f3 = 1) → (∀ w ∈ z, 1 ≤ w.f3) → L.foldl addE z = L.foldl addP z
 | [], _, _, _ => rfl
 | x :: L, z, hL, hz => by
  have hx := hL x List.mem_cons_self
  rw [List.foldl_cons, List.foldl_cons, show addP z x = addE z x from if_pos hz]
  exact foldP L _ (fun y hy => hL y (List.mem_cons_of_mem _ hy)) (add_pos hx z hz)
theorem fold_perm {L M : List S75} (h : L.Perm M) (hL : ∀ x ∈ L, x.f3 = 1) : L.foldl addE [] = M.foldl addE [] := by
 have hM : ∀ x ∈ M, x.f3 = 1 := fun x hx => hL x (h.mem_iff.2 hx)
 rw [foldP L [] hL (fun w hw => (List.not_mem_nil hw).elim), foldP M [] hM (fun w hw => (List.not_mem_nil hw).elim)]
 refine List.Perm.foldl_eq' h (fun x hx y hy z => ?_) []
 have h1 := hL x hx
 have h2 := hL y hy
 unfold addP
 by_cases hz : ∀ w ∈ z, 1 ≤ w.f3
 · rw [if_pos hz, if_pos hz, if_pos (add_pos h1 z hz), if_pos (add_pos h2 z hz), add_comm h1 h2 z hz]
 · simp only [if_neg hz]
theorem ns_fold (g : List Int) : nsE g = (g.map fun x => (⟨x, 0, 0, 1⟩ : S75)).foldl addE [] := by
 have : ∀ l : List Int, nsE l.reverse = (l.reverse.map fun x => (⟨x, 0, 0, 1⟩ : S75)).foldl addE [] := fun l => by
  induction l with
  | nil => rfl
  | cons a l ih => rw [List.reverse_cons, ns_snoc, List.map_append, List.foldl_append, ih]; rfl
 have h := this g.reverse
 rwa [List.reverse_reverse] at h
def kf (g : List Int) (e : S56) : S75 := ⟨e.f0, rd g e.f1, rd g e.f2, 1⟩
theorem es_fold (g : List Int) (es : List S56) : esE g es = (es.map (kf g)).foldl addE [] := by
 have : ∀ l : List S56, esE g l.reverse = (l.reverse.map (kf g)).foldl addE [] := fun l => by
  induction l with
  | nil => rfl
  | cons a l ih => rw [List.reverse_cons, es_snoc, List.map_append, List.foldl_append, ih]; rfl
 have h := this es.reverse
 rwa [List.reverse_reverse] at h
def upTo (n : Nat) : List Int := (List.range n).map (fun (i : Nat) => (i : Int))
def IsP (n : Nat) (p : List Int) : Prop := p.Perm (upTo n)
theorem upTo_len (n : Nat) : (upTo n).length = n := by unfold upTo; simp
theorem IsP.len {n : Nat} {p : List Int} (h : IsP n p) : p.length = n := (List.Perm.length_eq h).trans (upTo_len n)
theorem IsP.bnd {n : Nat} {p : List Int} (h : IsP n p) : ∀ x ∈ p, 0 ≤ x ∧ x < (n : Int) := fun x hx => by
 have := (List.Perm.mem_iff h).1 hx
 unfold upTo at this
 rw [List.mem_map] at this
 obtain ⟨i, hi, rfl⟩ := this
 have := List.mem_range.1 hi
 omega
theorem IsP.nd {n : Nat} {p : List Int} (h : IsP n p) : p.Nodup := by
 refine (List.Perm.symm h).nodup ?_
 unfold upTo
 refine List.pairwise_map.2 (List.Pairwise.imp (fun {a b} hab => ?_) List.nodup_range)
 omega
theorem IsP.at_ {n : Nat} {p : List Int} (h : IsP n p) (i : Nat) (hi : i < n) : 0 ≤ rd p (i : Int) ∧ rd p (i : Int) < (n : Int) := by
 have hl := h.len
 rw [rd_nat _ _ (by omega)]
 exact h.bnd _ (List.getElem_mem _)
theorem IsP.inj {n : Nat} {p : List Int} (h : IsP n p) (i j : Nat) (hi : i < n) (hj : j < n) (hne : i ≠ j) : (rd p (i : Int)).toNat ≠ (rd p (j : Int)).toNat := by
 have hl := h.len
 have a := h.at_ i hi
 have b := h.at_ j hj
 intro e
 have e' : rd p (i : Int) = rd p (j : Int) := by omega
 rw [rd_nat _ _ (by omega), rd_nat _ _ (by omega)] at e'
 exact hne ((List.getElem_inj h.nd).1 e')
theorem numbers_loop (n : Nat) (hn : n ≤ 1000) : ∀ (m i : Nat), i + m = n → Ev (fun k => q5_Numbers.l0 k 0 (n : Int) (upTo i) (i : Int)) (upTo n)
 | 0, i, hi => by
  refine Ev.step (fun k => by rw [q5_Numbers.l0]) ?_
  obtain rfl : i = n := by omega
  simp only [show ¬ ((i : Int) < (i : Int)) by omega, ↓reduceIte]; exact Ev.now _
 | m + 1, i, hi => by
  refine Ev.step (fun k => by rw [q5_Numbers.l0]) ?_
  simp only [show ((i : Int) < (n : Int)) by omega, show (upTo i).length < 17592186044416 by rw [upTo_len]; omega, ↓reduceIte]
  rw [w64 _ (by omega) (by omega), w64 _ (by omega) (by omega), show upTo i ++ [0 + (i : Int)] = upTo (i + 1) by unfold upTo; rw [List.range_succ, List.map_append]; simp]
  exact numbers_loop n hn m (i + 1) (by omega)
theorem shuffle_loop (n : Nat) (hn : n ≤ 1000) (c : List Int) (hc : ∀ x ∈ c, (Lit.int .u8 x).wf = true) : ∀ (m i : Nat) (acc : List Int), i + m = n → acc.length = n → ∃ r, Ev (fun k => q5_Shuffle.l0 k (n : Int) c acc (i : Int)) r ∧ r.Perm acc
 | 0, i, acc, hi, ha => by
  refine ⟨acc, Ev.step (fun k => by rw [q5_Shuffle.l0]) ?_, List.Perm.refl _⟩
  simp only [show ¬ ((i : Int) < (n : Int)) by omega, ↓reduceIte]; exact Ev.now _
 | m + 1, i, acc, hi, ha => by
  by_cases hcl : (i : Int) < (c.length : Int)
  · have hil : i < c.length := by omega
    have hx := u8_wf (hc _ (List.getElem_mem hil))
    have ht := tmod_lt c[i] hx.1 (n - i) (by omega)
    have hr := rd_nat c i hil
    have hT : ((n - i : Nat) : Int) = (n : Int) - (i : Int) := by omega
    rw [hT] at ht
    generalize hq : Int.tmod c[i] ((n : Int) - (i : Int)) = q at ht
    have hk : (i : Int) + q = ((i + q.toNat : Nat) : Int) := by omega
    have hkl : i + q.toNat < acc.length := by omega
    have hia : i < acc.length := by omega
    obtain ⟨r, hE, hp⟩ := shuffle_loop n hn c hc m (i + 1) ((acc.set i (acc[i + q.toNat])).set (i + q.toNat) acc[i]) (by omega) (by simp [ha])
    refine ⟨r, Ev.step (fun k => by rw [q5_Shuffle.l0]) ?_, hp.trans (List.set_set_perm hia hkl)⟩
    simp only [show ((i : Int) < (n : Int)) by omega, hcl, show (0 : Int) ≤ (i : Int) by omega, ↓reduceIte, hr]
    rw [w64 ((n : Int) - (i : Int)) (by omega) (by omega), w64 c[i] (by omega) (by omega), hq, w64 ((i : Int) + q) (by omega) (by omega), hk]
    simp only [show ¬ ((n : Int) - (i : Int) = 0) by omega, show (0 : Int) ≤ ((i + q.toNat : Nat) : Int) by omega, show ((i + q.toNat : Nat) : Int) < (acc.length : Int) by omega, show (i : Int) < (acc.length : Int) by omega, ↓reduceIte, rd_nat acc _ hkl, rd_nat acc _ hia, Int.toNat_natCast]
    rw [w64 _ (by omega) (by omega)]
    exact hE
  · refine ⟨acc, Ev.step (fun k => by rw [q5_Shuffle.l0]) ?_, List.Perm.refl _⟩
    simp only [show ((i : Int) < (n : Int)) by omega, hcl, ↓reduceIte]; exact Ev.now _
theorem shuffle_ev (n : Nat) (hn : n ≤ 1000) (c : List Int) (hc : ∀ x ∈ c, (Lit.int .u8 x).wf = true) : ∃ p, Ev (fun k => q5_Shuffle.f k (n : Int) c) p ∧ IsP n p := by
 obtain ⟨r, hE, hp⟩ := shuffle_loop n hn c hc n 0 (upTo n) (by omega) (upTo_len n)
 refine ⟨r, ?_, hp⟩
 unfold q5_Shuffle.f q5_Numbers.f
 exact Ev.bind (numbers_loop n hn n 0 (by omega)) hE
theorem perm_loop (n : Nat) (hn : n ≤ 1000) (p : List Int) (h : IsP n p) : ∀ (m i : Nat), i + m = n → Ev (fun k => graph_permutation.l0 k p p (p.length : Int) (i : Int)) 0
 | 0, i, hi => by
  have hl := h.len
  refine Ev.step (fun k => by rw [graph_permutation.l0]) ?_
  simp only [show ¬ ((i : Int) < (p.length : Int)) by omega, ↓reduceIte]; exact Ev.now _
 | m + 1, i, hi => by
  have hl := h.len
  refine Ev.step (fun k => by rw [graph_permutation.l0]) ?_
  simp only [show ((i : Int) < (p.length : Int)) by omega, show (0 : Int) ≤ (i : Int) by omega, show ((i : Int) ≤ (p.length : Int)) by omega, ↓reduceIte, Int.toNat_natCast]
  refine Ev.bind (ContainsI_ev (p.take i) (rd p (i : Int)) (by rw [List.length_take]; omega)) ?_
  have e : (p.take i).any (fun x => x == rd p (i : Int)) = false := by
   rw [List.any_eq_false]
   intro x hx
   obtain ⟨j, hj, rfl⟩ := List.getElem_of_mem hx
   have hj2 := hj
   rw [List.length_take] at hj
   rw [rd_nat _ _ (by omega), List.getElem_take]
   have := mt (List.getElem_inj (i := j) (j := i) (h₀ := by omega) (h₁ := by omega) h.nd).1 (by omega)
   simpa using this
  rw [e]
  simp only [Bool.false_eq_true, ↓reduceIte]
  rw [w64 _ (by omega) (by omega)]
  exact perm_loop n hn p h m (i + 1) (by omega)
theorem perm_ev (n : Nat) (hn : n ≤ 1000) (p : List Int) (h : IsP n p) : Ev (fun k => graph_permutation.f k p (n : Int)) 0 := by
 have hl := h.len
 unfold graph_permutation.f any_perm.f
 simp only [show ((p.length : Int) = (n : Int)) by omega, ↓reduceIte]
 have e : p.any (fun t => !withinB t (wrap64 ((n : Int) - 1))) = false := by
  rw [List.any_eq_false]
  intro x hx
  have := h.bnd x hx
  rw [w64 _ (by omega) (by omega)]
  simp [withinB]; omega
 rw [e]
 simp only [Option.bind_some, Bool.false_eq_true, ↓reduceIte]
 have lp := perm_loop n hn p h n 0 (by omega)
 rw [hl] at lp
 exact lp
def place {α : Type} (p : List Int) (v : Nat → α) : Nat → Nat → List α → List α
 | 0, _, acc => acc
 | m + 1, i, acc => place p v m (i + 1) (acc.set (rd p (i : Int)).toNat (v i))
theorem place_len {α : Type} (p : List Int) (v : Nat → α) : ∀ (m i : Nat) (acc : List α), (place p v m i acc).length = acc.length
 | 0, _, _ => rfl
 | m + 1, i, acc => by rw [place, place_len p v m, List.length_set]
theorem place_at {α : Type} {n : Nat} {p : List Int} (h : IsP n p) (v : Nat → α) : ∀ (m i : Nat) (acc : List α), i + m = n → acc.length = n → (∀ j, j < i → acc[(rd p (j : Int)).toNat]? = some (v j)) →
 ∀ j, j < n → (place p v m i acc)[(rd p (j : Int)).toNat]? = some (v j)
 | 0, i, acc, hi, ha, hp, j, hj => hp j (by omega)
 | m + 1, i, acc, hi, ha, hp, j, hj => by
  refine place_at h v m (i + 1) _ (by omega) (by rw [List.length_set]; exact ha) (fun j hj => ?_) j hj
  have b := h.at_ i (by omega)
  by_cases e : j = i
  · subst e
    rw [List.getElem?_set_self (by omega)]
  · rw [List.getElem?_set_ne (h.inj i j (by omega) (by omega) (fun hh => e hh.symm))]
    exact hp j (by omega)
theorem perm_place {α : Type} {n : Nat} {p : List Int} (h : IsP n p) (a b : List α) (ha : a.length = n) (hb : b.length = n) (hv : ∀ j (hj : j < n), b[(rd p (j : Int)).toNat]? = a[j]?) : a.Perm b := by
 have hl := h.len
 have e1 : p.map (fun x => b[x.toNat]?) = a.map some := by
  refine List.ext_getElem (by simp; omega) (fun j h1 h2 => ?_)
  rw [List.getElem_map, List.getElem_map]
  have hj : j < n := by simp at h1; omega
  have := hv j hj
  rw [rd_nat _ _ (by omega)] at this
  rw [this, List.getElem?_eq_getElem (by omega)]
 have e2 : (upTo n).map (fun x => b[x.toNat]?) = b.map some := by
  unfold upTo
  rw [List.map_map]
  refine List.ext_getElem (by simp; omega) (fun j h1 h2 => ?_)
  simp only [List.getElem_map, List.getElem_range, Function.comp, Int.toNat_natCast]
  rw [List.getElem?_eq_getElem (by simp at h2; omega)]
 have hp : (a.map some).Perm (b.map some) := by
  rw [← e1, ← e2]; exact List.Perm.map _ h
 have := List.Perm.filterMap id hp
 rw [List.filterMap_map, List.filterMap_map] at this
 simpa using this
section reorder
variable (g : List Int) (es : List S56) (p q : List Int) (hg : g.length ≤ 1000) (he : es.length ≤ 1000) (hp : IsP g.length p) (hq : IsP es.length q)
include hg he hp hq
def ve (es : List S56) (p : List Int) (i : Nat) : S56 := ⟨(rd_T56 es (i : Int)).f0, rd p (rd_T56 es (i : Int)).f1, rd p (rd_T56 es (i : Int)).f2⟩
theorem reorder_edges (ns : List Int) (hin : ∀ e ∈ es, (0 ≤ e.f1 ∧ e.f1 < (g.length : Int)) ∧ (0 ≤ e.f2 ∧ e.f2 < (g.length : Int))) : ∀ (m i : Nat) (acc : List S56), i + m = es.length → acc.length = es.length →
 Ev (fun k => graph_Reorder.l1 k es (es.length : Int) (i : Int) p q ns acc) (ns, place q (ve es p) m i acc, 0)
 | 0, i, acc, hi, ha => by
  refine Ev.step (fun k => by rw [graph_Reorder.l1]) ?_
  simp only [show ¬ ((i : Int) < (es.length : Int)) by omega, ↓reduceIte]; exact Ev.now _
 | m + 1, i, acc, hi, ha => by
  have hil : i < es.length := by omega
  have b := hq.at_ i hil
  have hl := hp.len
  have hl2 := hq.len
  have hr := rd56_nat es i hil
  have hi2 := hin _ (List.getElem_mem hil)
  refine Ev.step (fun k => by rw [graph_Reorder.l1]) ?_
  simp only [show ((i : Int) < (es.length : Int)) by omega, show (0 : Int) ≤ (i : Int) by omega, show ((i : Int) < (q.length : Int)) by omega, hr, hi2.1.1, hi2.2.1, show es[i].f1 < (p.length : Int) by omega, show es[i].f2 < (p.length : Int) by omega, b.1, show rd q (i : Int) < (acc.length : Int) by omega, ↓reduceIte]
  rw [w64 _ (by omega) (by omega)]
  have := reorder_edges ns hin m (i + 1) (acc.set (rd q (i : Int)).toNat (ve es p i)) (by omega) (by rw [List.length_set]; exact ha)
  unfold ve at this ⊢
  rw [hr] at this
  rw [place, hr]
  exact this
theorem reorder_nodes (hin : ∀ e ∈ es, (0 ≤ e.f1 ∧ e.f1 < (g.length : Int)) ∧ (0 ≤ e.f2 ∧ e.f2 < (g.length : Int))) : ∀ (m i : Nat) (acc : List Int) (acc1 : List S56), i + m = g.length → acc.length = g.length → acc1.length = es.length →
 Ev (fun k => graph_Reorder.l0 k g (g.length : Int) (i : Int) g es p q acc acc1) (place p (fun j => rd g (j : Int)) m i acc, place q (ve es p) es.length 0 acc1, 0)
 | 0, i, acc, acc1, hi, ha, ha1 => by
  refine Ev.step (fun k => by rw [graph_Reorder.l0]) ?_
  simp only [show ¬ ((i : Int) < (g.length : Int)) by omega, ↓reduceIte]
  exact reorder_edges g es p q hg he hp hq acc hin es.length 0 acc1 (by omega) ha1
 | m + 1, i, acc, acc1, hi, ha, ha1 => by
  have b := hp.at_ i (by omega)
  have hl := hp.len
  refine Ev.step (fun k => by rw [graph_Reorder.l0]) ?_
  simp only [show ((i : Int) < (g.length : Int)) by omega, show (0 : Int) ≤ (i : Int) by omega, show ((i : Int) < (p.length : Int)) by omega, b.1, show rd p (i : Int) < (acc.length : Int) by omega, ↓reduceIte]
  rw [w64 _ (by omega) (by omega), place]
  exact reorder_nodes hin m (i + 1) _ acc1 (by omega) (by rw [List.length_set]; exact ha) ha1
theorem reorder_ev (hG : graphE g es = 0) (hin : ∀ e ∈ es, (0 ≤ e.f1 ∧ e.f1 < (g.length : Int)) ∧ (0 ≤ e.f2 ∧ e.f2 < (g.length : Int))) :
 Ev (fun k => graph_Reorder.f k g es p q) (place p (fun j => rd g (j : Int)) g.length 0 (List.replicate g.length 0), place q (ve es p) es.length 0 (List.replicate es.length z56), 0) := by
 have hl := hp.len
 have hl2 := hq.len
 unfold graph_Reorder.f
 have h := graph_ev g es
 rw [hG] at h
 refine Ev.bind h ?_
 simp only [↓reduceIte, show ((p.length : Int) = (g.length : Int)) by omega]
 have hb : ((q.length : Int) != (es.length : Int)) = false := by rw [hl2]; exact bne_self_eq_false _
 rw [hb]
 refine Ev.step (fun k => by rw [graph_Reorder.j0]) ?_
 simp only [Bool.false_eq_true, ↓reduceIte]
 refine Ev.bind (perm_ev g.length hg p hp) ?_
 simp only [↓reduceIte]
 refine Ev.bind (perm_ev es.length he q hq) ?_
 simp only [↓reduceIte, show (0 : Int) ≤ (g.length : Int) by omega, show (0 : Int) ≤ (es.length : Int) by omega, Int.toNat_natCast, show g.length ≤ 35184372088832 by omega, show es.length ≤ 11728124029610 by omega]
 exact reorder_nodes g es p q hg he hp hq hin g.length 0 _ _ (by omega) (by simp) (by simp)
end reorder
theorem awake_ev6 : Ev (fun k => scarfjointlaw18_awake.f k) true := Ev.of (fun k => scarfjointlaw18_awake.mono k) (k := 60) (by kernel_rfl)
theorem StatisticOrder_pure : ∀ (l0_0 : List S107) (l0_1 : List S107) (l0_2 : List Int) (l0_3 : List S51) (l1 : List Int), (l0_0.length ≤ reachBytes ∧ ∀ x_ ∈ l0_0, good107 x_) → (l0_1.length ≤ reachBytes ∧ ∀ x_ ∈ l0_1, good107 x_) → (l0_2.length ≤ reachBytes ∧ ∀ x_ ∈ l0_2, (Lit.int .u8 x_).wf = true) → (l0_3.length ≤ reachBytes ∧ ∀ x_ ∈ l0_3, good51 x_) → (l1.length ≤ reachBytes ∧ ∀ x_ ∈ l1, (Lit.int .u8 x_).wf = true) → ∃ k, scarfjointlaw18_StatisticOrder.f k l0_0 l0_1 l0_2 l0_3 l1 = some true := by
 intro x0 x1 x2 x3 c h0 h1 h2 h3 hc
 refine Ev.rounds ?_
 unfold scarfjointlaw18_StatisticOrder.f
 refine Ev.bind awake_ev6 ?_
 simp only [↓reduceIte]
 refine Ev.step (fun k => by rw [scarfjointlaw18_StatisticOrder.j0]) ?_
 by_cases h40 : (c.length : Int) > 40
 · simp only [decide_eq_true h40, ↓reduceIte]
   exact Ev.bind awake_ev6 (Ev.now _)
 · simp only [decide_eq_false h40, Bool.false_eq_true, ↓reduceIte]
   obtain ⟨l, l1, g, es, hM, M⟩ := lmade_ev x0 x1 x2 x3 h0 h1 h2 h3
   have n0 := M.n0
   have n6 := M.n6
   have n5 := M.n5
   have g8 := M.g8
   have e12 := M.e12
   refine Ev.bind hM ?_
   obtain ⟨p, hP, ip⟩ := shuffle_ev g.length (by omega) c hc.2
   obtain ⟨q, hQ, iq⟩ := shuffle_ev es.length (by omega) c hc.2
   have t0 := typd_zero M.v (by omega) (by omega) (by omega) (by omega) M.t
   have G0 := typd_graph (by omega) (by omega) (by omega) (by omega) M.t
   have hin : ∀ e ∈ es, (0 ≤ e.f1 ∧ e.f1 < (g.length : Int)) ∧ (0 ≤ e.f2 ∧ e.f2 < (g.length : Int)) := fun e he => ⟨(M.t.e e he).2.1, (M.t.e e he).2.2.1⟩
   have hR := reorder_ev g es p q (by omega) (by omega) ip iq G0 hin
   have al := place_len p (fun j => rd g (j : Int)) g.length 0 (List.replicate g.length 0)
   have bl := place_len q (ve es p) es.length 0 (List.replicate es.length z56)
   have aat := place_at ip (fun j => rd g (j : Int)) g.length 0 (List.replicate g.length 0) (by omega) (by simp) (fun j hj => absurd hj (Nat.not_lt_zero _))
   have bat := place_at iq (ve es p) es.length 0 (List.replicate es.length z56) (by omega) (by simp) (fun j hj => absurd hj (Nat.not_lt_zero _))
   generalize place p (fun j => rd g (j : Int)) g.length 0 (List.replicate g.length 0) = g' at hR al aat
   generalize place q (ve es p) es.length 0 (List.replicate es.length z56) = es' at hR bl bat
   rw [List.length_replicate] at al bl
   have pg : g.Perm g' := perm_place ip g g' rfl al (fun j hj => by rw [aat j hj, rd_nat _ _ hj, List.getElem?_eq_getElem hj])
   have rg : ∀ x : Int, 0 ≤ x → x < (g.length : Int) → rd g' (rd p x) = rd g x := fun x hx0 hx1 => by
    have hx : ((x.toNat : Nat) : Int) = x := Int.toNat_of_nonneg hx0
    have a := aat x.toNat (by omega)
    have b := ip.at_ x.toNat (by omega)
    rw [hx] at a b
    have hz : (((rd p x).toNat : Nat) : Int) = rd p x := Int.toNat_of_nonneg b.1
    have hl : (rd p x).toNat < g'.length := by omega
    rw [List.getElem?_eq_getElem hl] at a
    have := rd_nat g' (rd p x).toNat hl
    rw [hz] at this
    rw [this]
    exact Option.some.inj a
   have pe : (es.map (fun e => (⟨e.f0, rd p e.f1, rd p e.f2⟩ : S56))).Perm es' := perm_place iq _ es' (by simp) bl (fun j hj => by
    rw [bat j hj, List.getElem?_eq_getElem (by simpa using hj), List.getElem_map]
    unfold ve
    rw [rd56_nat _ _ hj])
   have ns : nsE g' = nsE g := by
    rw [ns_fold, ns_fold]
    exact (fold_perm (List.Perm.map _ pg) (fun x hx => by rw [List.mem_map] at hx; obtain ⟨y, _, rfl⟩ := hx; rfl)).symm
   have ee : esE g' es' = esE g es := by
    rw [es_fold, es_fold]
    have a := fold_perm (List.Perm.map (kf g') pe) (fun x hx => by rw [List.mem_map] at hx; obtain ⟨y, _, rfl⟩ := hx; rfl)
    rw [← a, List.map_map]
    congr 1
    refine List.map_congr_left (fun e he => ?_)
    have h := hin e he
    simp only [Function.comp, kf, rg e.f1 h.1.1 h.1.2, rg e.f2 h.2.1 h.2.2]
   have tt : Typd l l1 g' es' := ⟨fun x hx => M.t.n x (pg.mem_iff.2 hx), fun e' he' => by
    have := pe.mem_iff.2 he'
    rw [List.mem_map] at this
    obtain ⟨e, he, rfl⟩ := this
    obtain ⟨a0, a1, a2, a3⟩ := M.t.e e he
    have b1 := ip.at_ e.f1.toNat (by omega)
    have b2 := ip.at_ e.f2.toNat (by omega)
    rw [Int.toNat_of_nonneg a1.1] at b1
    rw [Int.toNat_of_nonneg a2.1] at b2
    refine ⟨a0, by simp only; omega, by simp only; omega, ?_⟩
    simp only [rg e.f1 a1.1 a1.2, rg e.f2 a2.1 a2.2]
    exact a3⟩
   have t1 := typd_zero M.v (by omega) (by omega) (by omega) (by omega) tt
   have o0 := of_ev l l1 M.good M.small M.good1 (by omega) g es
   have o1 := of_ev l l1 M.good M.small M.good1 (by omega) g' es'
   unfold ofE at o0 o1
   rw [if_pos t0] at o0
   rw [if_pos t1, ns, ee] at o1
   have an := (ns_acc G0).len
   have ae := (es_acc G0).len
   refine Ev.bind hP ?_
   refine Ev.bind hQ ?_
   refine Ev.bind hR ?_
   refine Ev.bind o0 ?_
   refine Ev.bind o1 ?_
   simp only [↓reduceIte]
   exact Ev.bind (same_ev _ _ (by omega) (by omega)) (Ev.now _)
end Go.Proofs.YtfpianecohobjaaGreat.P
