/- StatisticOf: a part of its proof. No condition. -/
import Derived.Test.YtfpianecohobjaaVS
import Derived.Test.YtfpianecohobjaaVH2
import Derived.Test.YtfpianecohobjaaVH1
import Derived.Test.YtfpianecohobjaaVPx35
import Derived.Test.YtfpianecohobjaaVPx36
import Derived.Test.YtfpianecohobjaaVPx38
import Derived.Test.YtfpianecohobjaaVPx42
import Derived.Test.YtfpianecohobjaaVPx43
import Derived.Test.YtfpianecohobjaaVPx37
import Derived.Test.YtfpianecohobjaaVPx39
import Derived.Test.YtfpianecohobjaaVPx40
import Derived.Test.YtfpianecohobjaaVPx41
import Derived.Test.YtfpianecohobjaaVPx24
import Derived.Test.YtfpianecohobjaaVPx22
import Derived.Test.YtfpianecohobjaaVPx44
import Derived.Test.YtfpianecohobjaaVPx45
import Derived.Test.YtfpianecohobjaaVPx46
namespace Go.Proofs.Ytfpianecohobjaa.P
open Go.RowKit Go.Proofs.YtfpianecohobjaaW.PrintWords Go.Proofs.YtfpianecohobjaaW.PrintLast
set_option maxRecDepth 100000
set_option linter.unusedVariables false
set_option linter.unusedSimpArgs false
set_option linter.unusedSectionVars false
def kLt (a b : S88) : Prop := a.f0 < b.f0 ∨ (a.f0 = b.f0 ∧ (a.f1 < b.f1 ∨ (a.f1 = b.f1 ∧ a.f2 < b.f2)))
def kEq (a b : S88) : Prop := a.f0 = b.f0 ∧ a.f1 = b.f1 ∧ a.f2 = b.f2
instance (a b : S88) : Decidable (kLt a b) := by unfold kLt; exact inferInstance
instance (a b : S88) : Decidable (kEq a b) := by unfold kEq; exact inferInstance
def kIn (a : S88) : Prop := (0 ≤ a.f0 ∧ a.f0 ≤ 1000) ∧ (0 ≤ a.f1 ∧ a.f1 ≤ 1000) ∧ (0 ≤ a.f2 ∧ a.f2 ≤ 1000)
theorem cmp_lt {a b : S88} (ha : kIn a) (hb : kIn b) : cmpE a.f0 a.f1 a.f2 b.f0 b.f1 b.f2 < 0 ↔ kLt a b := by
 unfold kIn at ha hb
 unfold cmpE kLt
 rw [w64 (a.f0 - b.f0) (by omega) (by omega), w64 (a.f1 - b.f1) (by omega) (by omega), w64 (a.f2 - b.f2) (by omega) (by omega)]
 split
 · split <;> omega
 · omega
theorem cmp_eq {a b : S88} (ha : kIn a) (hb : kIn b) : cmpE a.f0 a.f1 a.f2 b.f0 b.f1 b.f2 = 0 ↔ kEq a b := by
 unfold kIn at ha hb
 unfold cmpE kEq
 rw [w64 (a.f0 - b.f0) (by omega) (by omega), w64 (a.f1 - b.f1) (by omega) (by omega), w64 (a.f2 - b.f2) (by omega) (by omega)]
 split
 · split <;> omega
 · omega
theorem k_tri (a b : S88) : kLt a b ∨ kEq a b ∨ kLt b a := by unfold kLt kEq; omega
theorem k_trans {a b c : S88} (h : kLt a b) (h' : kLt b c) : kLt a c := by unfold kLt at *; omega
structure Cnt (B : Int) (l : List S88) : Prop where
 srt : l.Pairwise kLt
 key : ∀ y ∈ l, kIn y
 num : ∀ y ∈ l, 1 ≤ y.f3 ∧ y.f3 ≤ B
theorem Cnt.nil (B : Int) : Cnt B [] := { srt := List.Pairwise.nil, key := fun y h => (List.not_mem_nil h).elim, num := fun y h => (List.not_mem_nil h).elim }
theorem Cnt.tail {B : Int} {y : S88} {l : List S88} (h : Cnt B (y :: l)) : Cnt B l :=
 ⟨(List.pairwise_cons.1 h.srt).2, fun z hz => h.key z (List.mem_cons_of_mem _ hz), fun z hz => h.num z (List.mem_cons_of_mem _ hz)⟩
def addE : List S88 → S88 → List S88
 | [], x => [x]
 | y :: l, x => if kLt y x then y :: addE l x else if kEq y x then (if y.f3 + x.f3 = 0 then l else ⟨y.f0, y.f1, y.f2, y.f3 + x.f3⟩ :: l) else x :: y :: l
def posE : List S88 → S88 → Nat
 | [], _ => 0
 | y :: l, x => if kLt y x then posE l x + 1 else 0
theorem posE_le : ∀ (l : List S88) (x : S88), posE l x ≤ l.length
 | [], _ => Nat.le_refl _
 | y :: l, x => by
  unfold posE
  split
  · exact Nat.succ_le_succ (posE_le l x)
  · exact Nat.zero_le _
theorem rd88_nat (l : List S88) (i : Nat) (h : i < l.length) : rd_T88 l (i : Int) = l[i] := by unfold rd_T88; simp [h]
theorem pos_below : ∀ (l : List S88) (x : S88) (h : Nat), h < posE l x → (hl : h < l.length) → kLt l[h] x
 | [], x, h, hp, hl => by cases hl
 | y :: l, x, h, hp, hl => by
  unfold posE at hp
  split at hp
  · next hy =>
    cases h with
    | zero => exact hy
    | succ h => exact pos_below l x h (by omega) (by simpa using hl)
  · omega
theorem pos_above {B : Int} : ∀ (l : List S88) (x : S88), Cnt B l → ∀ (h : Nat), posE l x ≤ h → (hl : h < l.length) → ¬ kLt l[h] x
 | [], x, _, h, hp, hl => by cases hl
 | y :: l, x, hc, h, hp, hl => by
  unfold posE at hp
  split at hp
  · next hy =>
    cases h with
    | zero => omega
    | succ h => exact pos_above l x hc.tail h (by omega) (by simpa using hl)
  · next hy =>
    cases h with
    | zero => exact hy
    | succ h =>
     intro hk
     have hl' : h < l.length := by simpa using hl
     have := (List.pairwise_cons.1 hc.srt).1 l[h] (List.getElem_mem hl')
     exact hy (k_trans this hk)
theorem bsE_at (p : Nat → Bool) (m : Nat) : ∀ (n i j : Nat), j - i ≤ n → i ≤ m → m ≤ j → (∀ h, i ≤ h → h < m → p h = true) → (∀ h, m ≤ h → h < j → p h = false) → bsE p n i j = m
 | 0, i, j, hn, hi, hj, _, _ => by rw [bsE]; omega
 | n + 1, i, j, hn, hi, hj, h1, h2 => by
  rw [bsE]
  split
  · next hlt =>
    by_cases hm : (i + j) / 2 < m
    · rw [if_pos (h1 _ (by omega) hm)]
      exact bsE_at p m n _ _ (by omega) (by omega) hj (fun h ha hb => h1 h (by omega) hb) h2
    · rw [if_neg (by rw [h2 _ (by omega) (by omega)]; simp)]
      exact bsE_at p m n _ _ (by omega) hi (by omega) h1 (fun h ha hb => h2 h ha (by omega))
  · omega
theorem search_pos {B : Int} {l : List S88} {x : S88} (hc : Cnt B l) (hx : kIn x) : searchAt l x.f0 x.f1 x.f2 = posE l x := by
 unfold searchAt
 refine bsE_at _ _ _ _ _ (by omega) (Nat.zero_le _) (posE_le l x) (fun h _ hh => ?_) (fun h hh hl => ?_)
 · have hl : h < l.length := Nat.lt_of_lt_of_le hh (posE_le l x)
   refine decide_eq_true ?_
   unfold cmpAt
   rw [rd88_nat _ _ hl]
   exact (cmp_lt (hc.key _ (List.getElem_mem hl)) hx).2 (pos_below l x h hh hl)
 · refine decide_eq_false ?_
   unfold cmpAt
   rw [rd88_nat _ _ hl]
   exact fun h' => pos_above l x hc h hh hl ((cmp_lt (hc.key _ (List.getElem_mem hl)) hx).1 h')
theorem add_found : ∀ (l : List S88) (x : S88) (h : posE l x < l.length), kEq l[posE l x] x → l[posE l x].f3 + x.f3 ≠ 0 → addE l x = l.set (posE l x) ⟨l[posE l x].f0, l[posE l x].f1, l[posE l x].f2, l[posE l x].f3 + x.f3⟩
 | [], x, h, _, _ => by cases h
 | y :: l, x, h, he, hz => by
  by_cases hy : kLt y x
  · have hp : posE (y :: l) x = posE l x + 1 := by rw [posE, if_pos hy]
    simp only [hp, List.getElem_cons_succ] at he hz ⊢
    rw [addE, if_pos hy, List.set_cons_succ, add_found l x (by rw [hp] at h; simpa using h) he hz]
  · have hp : posE (y :: l) x = 0 := by rw [posE, if_neg hy]
    simp only [hp, List.getElem_cons_zero] at he hz ⊢
    rw [addE, if_neg hy, if_pos he, if_neg hz]; rfl
theorem add_new : ∀ (l : List S88) (x : S88), (∀ h : posE l x < l.length, ¬ kEq l[posE l x] x) → addE l x = l.take (posE l x) ++ x :: l.drop (posE l x)
 | [], x, _ => rfl
 | y :: l, x, hn => by
  by_cases hy : kLt y x
  · have hp : posE (y :: l) x = posE l x + 1 := by rw [posE, if_pos hy]
    rw [addE, if_pos hy, hp, List.take_succ_cons, List.drop_succ_cons, List.cons_append, add_new l x (fun h => by
     have := hn (by rw [hp]; simpa using h)
     simpa only [hp, List.getElem_cons_succ] using this)]
  · have hp : posE (y :: l) x = 0 := by rw [posE, if_neg hy]
    have := hn (by rw [hp]; simp)
    simp only [hp, List.getElem_cons_zero] at this
    rw [addE, if_neg hy, if_neg this, hp]; rfl
theorem counted_ev {B : Int} {l : List S88} {x : S88} (hc : Cnt B l) (hx : kIn x) (hB : B ≤ 1000) (hx3 : 1 ≤ x.f3 ∧ x.f3 ≤ 1000) (hl : l.length ≤ 1000) : statistic_counted.f l x.f0 x.f1 x.f2 x.f3 = some (addE l x) := by
 unfold statistic_counted.f
 rw [if_pos (by omega)]
 unfold foundAt
 rw [search_pos hc hx]
 have hple := posE_le l x
 by_cases hlt : posE l x < l.length
 · have hk := hc.key _ (List.getElem_mem hlt)
   have hn := hc.num _ (List.getElem_mem hlt)
   have hcm : cmpAt l x.f0 x.f1 x.f2 (posE l x) = 0 ↔ kEq l[posE l x] x := by
    unfold cmpAt
    rw [rd88_nat _ _ hlt]
    exact cmp_eq hk hx
   rw [rd88_nat _ _ hlt, w64 _ (by omega) (by omega)]
   by_cases he : kEq l[posE l x] x
   · rw [decide_eq_true hlt, decide_eq_true (hcm.2 he), if_pos (by rfl), if_neg (by omega), add_found l x hlt he (by omega)]
   · rw [decide_eq_true hlt, decide_eq_false (fun h => he (hcm.1 h)), if_neg (by simp), add_new l x (fun _ => he)]
 · rw [decide_eq_false hlt, if_neg (by simp), add_new l x (fun h => absurd h hlt)]
theorem add_mem : ∀ {l : List S88} {x y : S88}, y ∈ addE l x → (kEq y x ∨ y ∈ l)
 | [], x, y, h => by
  obtain rfl : y = x := by simpa [addE] using h
  exact Or.inl ⟨rfl, rfl, rfl⟩
 | w :: l, x, y, h => by
  unfold addE at h
  split at h
  · rcases List.mem_cons.1 h with rfl | h
    · exact Or.inr List.mem_cons_self
    · rcases add_mem h with h | h
      · exact Or.inl h
      · exact Or.inr (List.mem_cons_of_mem _ h)
  · split at h
    · next he =>
      split at h
      · exact Or.inr (List.mem_cons_of_mem _ h)
      · rcases List.mem_cons.1 h with rfl | h
        · exact Or.inl he
        · exact Or.inr (List.mem_cons_of_mem _ h)
    · rcases List.mem_cons.1 h with rfl | h
      · exact Or.inl ⟨rfl, rfl, rfl⟩
      · exact Or.inr h
theorem add_Cnt {B : Int} : ∀ {l : List S88} {x : S88}, Cnt B l → kIn x → 1 ≤ x.f3 → 0 ≤ B → Cnt (B + x.f3) (addE l x)
 | [], x, hc, hx, h1, hB => by
  refine { srt := List.pairwise_singleton _ _, key := fun y hy => ?_, num := fun y hy => ?_ }
  · obtain rfl : y = x := by simpa [addE] using hy
    exact hx
  · obtain rfl : y = x := by simpa [addE] using hy
    omega
 | w :: l, x, hc, hx, h1, hB => by
  have hw := hc.num w List.mem_cons_self
  have hkw := hc.key w List.mem_cons_self
  have hs := List.pairwise_cons.1 hc.srt
  unfold addE
  split
  · next hlt =>
    have ih := add_Cnt hc.tail hx h1 hB
    refine { srt := List.pairwise_cons.2 ⟨fun z hz => ?_, ih.srt⟩, key := fun y hy => ?_, num := fun y hy => ?_ }
    · rcases add_mem hz with h | h
      · unfold kLt kEq at *; omega
      · exact hs.1 z h
    · rcases List.mem_cons.1 hy with rfl | hy
      · exact hkw
      · exact ih.key y hy
    · rcases List.mem_cons.1 hy with rfl | hy
      · omega
      · exact ih.num y hy
  · next hlt =>
    split
    · next he =>
      rw [if_neg (by omega)]
      refine { srt := List.pairwise_cons.2 ⟨fun z hz => hs.1 z hz, hs.2⟩, key := fun y hy => ?_, num := fun y hy => ?_ }
      · rcases List.mem_cons.1 hy with rfl | hy
        · exact hkw
        · exact hc.key y (List.mem_cons_of_mem _ hy)
      · rcases List.mem_cons.1 hy with rfl | hy
        · show 1 ≤ w.f3 + x.f3 ∧ w.f3 + x.f3 ≤ _; omega
        · have := hc.num y (List.mem_cons_of_mem _ hy); omega
    · next he =>
      have hgt : kLt x w := by
       rcases k_tri w x with h | h | h
       · exact absurd h hlt
       · exact absurd h he
       · exact h
      refine { srt := List.pairwise_cons.2 ⟨fun z hz => ?_, hc.srt⟩, key := fun y hy => ?_, num := fun y hy => ?_ }
      · rcases List.mem_cons.1 hz with rfl | hz
        · exact hgt
        · exact k_trans hgt (hs.1 z hz)
      · rcases List.mem_cons.1 hy with rfl | hy
        · exact hx
        · exact hc.key y hy
      · rcases List.mem_cons.1 hy with rfl | hy
        · omega
        · have := hc.num y hy; omega
def sumE : List S88 → Int
 | [] => 0
 | y :: l => y.f3 + sumE l
theorem add_sum : ∀ (l : List S88) (x : S88), sumE (addE l x) = sumE l + x.f3
 | [], x => by simp [addE, sumE]
 | w :: l, x => by
  unfold addE
  split
  · rw [sumE, add_sum l x, sumE]; omega
  · split
    · split
      · next hz => rw [sumE]; omega
      · rw [sumE, sumE]; show w.f3 + x.f3 + _ = _; omega
    · rw [sumE]; omega
theorem add_len (l : List S88) (x : S88) : (addE l x).length ≤ l.length + 1 := by
 induction l with
 | nil => simp [addE]
 | cons w l ih =>
  unfold addE
  split
  · simpa using ih
  · split
    · split <;> simp <;> omega
    · simp
theorem add_has : ∀ {l : List S88} {x : S88}, 1 ≤ x.f3 → (∀ y ∈ l, 1 ≤ y.f3) → ∃ y ∈ addE l x, kEq y x
 | [], x, _, _ => ⟨x, by simp [addE], rfl, rfl, rfl⟩
 | w :: l, x, h1, hn => by
  unfold addE
  split
  · obtain ⟨y, hy, he⟩ := add_has (l := l) h1 (fun y hy => hn y (List.mem_cons_of_mem _ hy))
    exact ⟨y, List.mem_cons_of_mem _ hy, he⟩
  · split
    · next he =>
      have := hn w List.mem_cons_self
      rw [if_neg (by omega)]
      exact ⟨_, List.mem_cons_self, he⟩
    · exact ⟨x, List.mem_cons_self, rfl, rfl, rfl⟩
theorem add_keep : ∀ {l : List S88} {x z : S88}, 1 ≤ x.f3 → (∀ y ∈ l, 1 ≤ y.f3) → z ∈ l → ∃ y ∈ addE l x, kEq y z
 | [], x, z, _, _, h => by cases h
 | w :: l, x, z, h1, hn, h => by
  unfold addE
  split
  · rcases List.mem_cons.1 h with rfl | h
    · exact ⟨_, List.mem_cons_self, rfl, rfl, rfl⟩
    · obtain ⟨y, hy, he⟩ := add_keep h1 (fun y hy => hn y (List.mem_cons_of_mem _ hy)) h
      exact ⟨y, List.mem_cons_of_mem _ hy, he⟩
  · split
    · have := hn w List.mem_cons_self
      rw [if_neg (by omega)]
      rcases List.mem_cons.1 h with rfl | h
      · exact ⟨_, List.mem_cons_self, rfl, rfl, rfl⟩
      · exact ⟨z, List.mem_cons_of_mem _ h, rfl, rfl, rfl⟩
    · exact ⟨z, List.mem_cons_of_mem _ h, rfl, rfl, rfl⟩
theorem sum_ge : ∀ {l : List S88}, (∀ y ∈ l, 1 ≤ y.f3) → ∀ y ∈ l, y.f3 ≤ sumE l
 | [], _, y, h => by cases h
 | w :: l, hn, y, h => by
  have hw := hn w List.mem_cons_self
  have ih := fun z hz => sum_ge (l := l) (fun y hy => hn y (List.mem_cons_of_mem _ hy)) z hz
  have h0 : 0 ≤ sumE l := by
   clear h ih
   have : ∀ l : List S88, (∀ y ∈ l, 1 ≤ y.f3) → 0 ≤ sumE l := fun l => by
    induction l with
    | nil => intro _; exact Int.le_refl _
    | cons a l ih => intro h; have := h a List.mem_cons_self; have := ih (fun y hy => h y (List.mem_cons_of_mem _ hy)); rw [sumE]; omega
   exact this l (fun y hy => hn y (List.mem_cons_of_mem _ hy))
  rw [sumE]
  rcases List.mem_cons.1 h with rfl | h
  · omega
  · have := ih y h; omega
def graphE (g : List Int) (es : List S39) : Int := if (g.length : Int) > 40 ∨ (es.length : Int) > 80 then 3 else if g.any (fun t => !withinB t 99) = true then 6 else if es.any (fun e => !fitsB e.f0 e.f1 e.f2 (g.length : Int)) = true then 6 else 0
theorem graph_ev (g : List Int) (es : List S39) : Ev (fun k => graph_Valid.f k g es) (graphE g es) := by
 have fin : Ev (fun k => graph_Valid.j0 k false g es) (if g.any (fun t => !withinB t 99) = true then 6 else if es.any (fun e => !fitsB e.f0 e.f1 e.f2 (g.length : Int)) = true then 6 else 0) := by
  refine Ev.step (fun k => by rw [graph_Valid.j0]) ?_
  simp only [Bool.false_eq_true, ↓reduceIte, any_graph1.f, any_graph2.f, Option.bind_some]
  cases g.any (fun t => !withinB t 99)
  · cases es.any (fun e => !fitsB e.f0 e.f1 e.f2 (g.length : Int)) <;> exact Ev.now _
  · exact Ev.now _
 have big : Ev (fun k => graph_Valid.j0 k true g es) 3 := by
  refine Ev.step (fun k => by rw [graph_Valid.j0]) ?_
  simp only [↓reduceIte]; exact Ev.now _
 unfold graph_Valid.f graphE
 by_cases h1 : (g.length : Int) > 40
 · simp only [h1, true_or, ↓reduceIte]; exact big
 · by_cases h2 : (es.length : Int) > 80
   · simp only [h1, h2, or_true, ↓reduceIte, decide_true]; exact big
   · simp only [h1, h2, or_self, ↓reduceIte, decide_false]; exact fin
theorem rd39_nat (l : List S39) (i : Nat) (h : i < l.length) : rd_T39 l (i : Int) = l[i] := by unfold rd_T39; simp [h]
theorem graph_facts {g : List Int} {es : List S39} (h : graphE g es = 0) : g.length ≤ 40 ∧ es.length ≤ 80 ∧ (∀ i : Nat, i < g.length → 0 ≤ rd g (i : Int) ∧ rd g (i : Int) ≤ 99) ∧
 ∀ j : Nat, j < es.length → (0 ≤ (rd_T39 es (j : Int)).f0 ∧ (rd_T39 es (j : Int)).f0 ≤ 99) ∧ (0 ≤ (rd_T39 es (j : Int)).f1 ∧ (rd_T39 es (j : Int)).f1 < (g.length : Int)) ∧ (0 ≤ (rd_T39 es (j : Int)).f2 ∧ (rd_T39 es (j : Int)).f2 < (g.length : Int)) := by
 unfold graphE at h
 split at h
 · exact absurd h (by decide)
 · next h1 =>
   split at h
   · exact absurd h (by decide)
   · next h2 =>
     split at h
     · exact absurd h (by decide)
     · next h3 =>
       rw [Bool.not_eq_true, List.any_eq_false] at h2 h3
       refine ⟨by omega, by omega, fun i hi => ?_, fun j hj => ?_⟩
       · have := h2 _ (List.getElem_mem hi)
         rw [rd_nat _ _ hi]
         simp [withinB] at this
         omega
       · have := h3 _ (List.getElem_mem hj)
         rw [rd39_nat _ _ hj]
         simp only [fitsB, withinB] at this
         rw [w64 _ (by omega) (by omega)] at this
         simp at this
         omega
theorem scan_succ (F : Nat → Int) (m i : Nat) : scan F (m + 1) i = if F i = 0 then scan F m (i + 1) else F i := rfl
def nodeF (l : List S68) (g : List Int) (i : Nat) : Int := if rd g (i : Int) ≥ (l.length : Int) then 6 else 0
def edgeF (l : List S68) (l1 : List S71) (g : List Int) (es : List S39) (j : Nat) : Int := if (rd_T39 es (j : Int)).f0 ≥ (l1.length : Int) then 6 else if fitsE l l1 (rd_T39 es (j : Int)).f0 (rd g (rd_T39 es (j : Int)).f1) (rd g (rd_T39 es (j : Int)).f2) = true then 0 else 13
def typedE (l : List S68) (l1 : List S71) (g : List Int) (es : List S39) : Int := if (validE l l1).2 = 0 then (if graphE g es = 0 then (if scan (nodeF l g) g.length 0 = 0 then scan (edgeF l l1 g es) es.length 0 else scan (nodeF l g) g.length 0) else graphE g es) else (validE l l1).2
theorem scan_zero {F : Nat → Int} : ∀ (m i : Nat), scan F m i = 0 → ∀ j, i ≤ j → j < i + m → F j = 0
 | 0, i, h, j, h1, h2 => by omega
 | m + 1, i, h, j, h1, h2 => by
  unfold scan at h
  split at h
  · next h0 =>
    rcases Nat.lt_or_eq_of_le h1 with h3 | rfl
    · exact scan_zero m (i + 1) h j h3 (by omega)
    · exact h0
  · next h0 => exact absurd h h0
theorem scan_all {F : Nat → Int} : ∀ (m i : Nat), (∀ j, i ≤ j → j < i + m → F j = 0) → scan F m i = 0
 | 0, i, _ => rfl
 | m + 1, i, h => by
  unfold scan
  rw [if_pos (h i (Nat.le_refl _) (by omega))]
  exact scan_all m (i + 1) (fun j h1 h2 => h j (by omega) (by omega))
section typed
variable (l : List S68) (l1 : List S71) (hg : Good l) (h : Small l) (h1g : ∀ x ∈ l1, good71 x) (h1l : l1.length ≤ 30) (g : List Int) (es : List S39)
include hg h h1g h1l
theorem typed_edges (hG : graphE g es = 0) : ∀ (m i : Nat), i + m = es.length → Ev (fun k => statistic_typed.l1 k es (es.length : Int) (i : Int) l l1 g es) (scan (edgeF l l1 g es) m i)
 | 0, i, hi => by
  refine Ev.step (fun k => by rw [statistic_typed.l1]) ?_
  simp only [show ¬ ((i : Int) < (es.length : Int)) by omega, ↓reduceIte]; exact Ev.now _
 | m + 1, i, hi => by
  obtain ⟨f1, f2, f3, f4⟩ := graph_facts hG
  obtain ⟨e0, e1, e2⟩ := f4 i (by omega)
  refine Ev.step (fun k => by rw [statistic_typed.l1]) ?_
  simp only [show ((i : Int) < (es.length : Int)) by omega, show (0 : Int) ≤ (i : Int) by omega, e1.1, e1.2, e2.1, e2.2, ↓reduceIte]
  unfold scan
  by_cases hr : (rd_T39 es (i : Int)).f0 ≥ (l1.length : Int)
  · have : edgeF l l1 g es i = 6 := by unfold edgeF; rw [if_pos hr]
    simp only [hr, ↓reduceIte, this, show ¬ ((6 : Int) = 0) by omega]; exact Ev.now _
  · simp only [hr, ↓reduceIte]
    refine Ev.bind (Fits_ev l l1 hg h h1g h1l _ _ _) ?_
    cases hf : fitsE l l1 (rd_T39 es (i : Int)).f0 (rd g (rd_T39 es (i : Int)).f1) (rd g (rd_T39 es (i : Int)).f2)
    · have : edgeF l l1 g es i = 13 := by unfold edgeF; rw [if_neg hr, hf]; rfl
      simp only [Bool.false_eq_true, ↓reduceIte, this, show ¬ ((13 : Int) = 0) by omega]; exact Ev.now _
    · have : edgeF l l1 g es i = 0 := by unfold edgeF; rw [if_neg hr, hf]; rfl
      simp only [↓reduceIte, this]
      rw [w64 _ (by omega) (by omega)]
      exact typed_edges hG m (i + 1) (by omega)
theorem typed_nodes (hG : graphE g es = 0) : ∀ (m i : Nat), i + m = g.length → Ev (fun k => statistic_typed.l0 k g (g.length : Int) (i : Int) l l1 g es) (if scan (nodeF l g) m i = 0 then scan (edgeF l l1 g es) es.length 0 else scan (nodeF l g) m i)
 | 0, i, hi => by
  refine Ev.step (fun k => by rw [statistic_typed.l0]) ?_
  simp only [show ¬ ((i : Int) < (g.length : Int)) by omega, ↓reduceIte, scan]; exact typed_edges l l1 hg h h1g h1l g es hG es.length 0 (by omega)
 | m + 1, i, hi => by
  have f1 := (graph_facts hG).1
  refine Ev.step (fun k => by rw [statistic_typed.l0]) ?_
  simp only [show ((i : Int) < (g.length : Int)) by omega, show (0 : Int) ≤ (i : Int) by omega, ↓reduceIte]
  rw [scan_succ]
  by_cases hr : rd g (i : Int) ≥ (l.length : Int)
  · have : nodeF l g i = 6 := by unfold nodeF; rw [if_pos hr]
    simp only [hr, ↓reduceIte, this, show ¬ ((6 : Int) = 0) by omega]; exact Ev.now _
  · have : nodeF l g i = 0 := by unfold nodeF; rw [if_neg hr]
    simp only [hr, ↓reduceIte, this]
    rw [w64 _ (by omega) (by omega)]
    exact typed_nodes hG m (i + 1) (by omega)
theorem typed_ev : Ev (fun k => statistic_typed.f k l l1 g es) (typedE l l1 g es) := by
 unfold statistic_typed.f typedE
 refine Ev.bind (valid_ev l l1 hg h h1g h1l) ?_
 by_cases hv : (validE l l1).2 = 0
 · simp only [hv, ↓reduceIte]
   refine Ev.bind (graph_ev g es) ?_
   by_cases hG : graphE g es = 0
   · simp only [hG, ↓reduceIte]; exact typed_nodes l l1 hg h h1g h1l g es hG g.length 0 (by omega)
   · simp only [hG, ↓reduceIte]; exact Ev.now _
 · simp only [hv, ↓reduceIte]; exact Ev.now _
end typed
theorem typed_facts {l : List S68} {l1 : List S71} {g : List Int} {es : List S39} (h : typedE l l1 g es = 0) : (validE l l1).2 = 0 ∧ graphE g es = 0 ∧ (∀ i : Nat, i < g.length → rd g (i : Int) < (l.length : Int)) ∧
 ∀ j : Nat, j < es.length → (rd_T39 es (j : Int)).f0 < (l1.length : Int) ∧ fitsE l l1 (rd_T39 es (j : Int)).f0 (rd g (rd_T39 es (j : Int)).f1) (rd g (rd_T39 es (j : Int)).f2) = true := by
 unfold typedE at h
 split at h
 · next hv =>
   split at h
   · next hG =>
     split at h
     · next hn =>
       refine ⟨hv, hG, fun i hi => ?_, fun j hj => ?_⟩
       · have := scan_zero _ _ hn i (Nat.zero_le _) (by omega)
         unfold nodeF at this
         split at this
         · exact absurd this (by decide)
         · omega
       · have := scan_zero _ _ h j (Nat.zero_le _) (by omega)
         unfold edgeF at this
         split at this
         · exact absurd this (by decide)
         · split at this
           · next hf => exact ⟨by omega, hf⟩
           · exact absurd this (by decide)
     · next hn => exact absurd h hn
   · next hG => exact absurd h hG
 · next hv => exact absurd h hv
def nkey (g : List Int) (i : Nat) : S88 := ⟨rd g (i : Int), 0, 0, 1⟩
def ekey (g : List Int) (es : List S39) (j : Nat) : S88 := ⟨(rd_T39 es (j : Int)).f0, rd g (rd_T39 es (j : Int)).f1, rd g (rd_T39 es (j : Int)).f2, 1⟩
def accE (K : Nat → S88) : Nat → Nat → List S88 → List S88
 | 0, _, acc => acc
 | m + 1, i, acc => accE K m (i + 1) (addE acc (K i))
theorem acc_succ (K : Nat → S88) (m i : Nat) (acc : List S88) : accE K (m + 1) i acc = accE K m (i + 1) (addE acc (K i)) := rfl
structure Acc (K : Nat → S88) (i : Nat) (acc : List S88) : Prop where
 cnt : Cnt (i : Int) acc
 len : acc.length ≤ i
 sum : sumE acc = (i : Int)
 of : ∀ y ∈ acc, ∃ j, j < i ∧ kEq y (K j)
 has : ∀ j, j < i → ∃ y ∈ acc, kEq y (K j)
theorem Acc.zero (K : Nat → S88) : Acc K 0 [] := { cnt := Cnt.nil _, len := Nat.le_refl _, sum := rfl, of := fun y h => (List.not_mem_nil h).elim, has := fun j h => absurd h (Nat.not_lt_zero _) }
theorem k_eq_tr {a b c : S88} (h : kEq a b) (h' : kEq b c) : kEq a c := by unfold kEq at *; omega
theorem Acc.step {K : Nat → S88} {i : Nat} {acc : List S88} (h : Acc K i acc) (hk : kIn (K i)) (h1 : (K i).f3 = 1) : Acc K (i + 1) (addE acc (K i)) := by
 have hn : ∀ y ∈ acc, 1 ≤ y.f3 := fun y hy => (h.cnt.num y hy).1
 have c := add_Cnt h.cnt hk (by omega) (by omega)
 rw [h1] at c
 refine { cnt := ?_, len := Nat.le_trans (add_len _ _) (Nat.succ_le_succ h.len), sum := by rw [add_sum, h.sum, h1]; omega, of := fun y hy => ?_, has := fun j hj => ?_ }
 · rw [show ((i + 1 : Nat) : Int) = (i : Int) + 1 by omega]; exact c
 · rcases add_mem hy with he | hm
   · exact ⟨i, by omega, he⟩
   · obtain ⟨j, hj, he⟩ := h.of y hm
     exact ⟨j, by omega, he⟩
 · rcases Nat.lt_or_eq_of_le (Nat.le_of_lt_succ hj) with hlt | rfl
   · obtain ⟨y, hy, he⟩ := h.has j hlt
     obtain ⟨z, hz, hze⟩ := add_keep (x := K i) (by omega) hn hy
     exact ⟨z, hz, k_eq_tr hze he⟩
   · exact add_has (by omega) hn
theorem Acc.all {K : Nat → S88} (hk : ∀ n : Nat, n < n + 1 → True) : ∀ (m i : Nat) (acc : List S88), Acc K i acc → (∀ j, i ≤ j → j < i + m → kIn (K j) ∧ (K j).f3 = 1) → Acc K (i + m) (accE K m i acc)
 | 0, i, acc, h, _ => h
 | m + 1, i, acc, h, hj => by
  have h0 := hj i (Nat.le_refl _) (by omega)
  have := Acc.all hk m (i + 1) _ (h.step h0.1 h0.2) (fun j h1 h2 => hj j (by omega) (by omega))
  rw [acc_succ, show i + (m + 1) = i + 1 + m by omega]; exact this
section of
variable (l : List S68) (l1 : List S71) (hg : Good l) (h : Small l) (h1g : ∀ x ∈ l1, good71 x) (h1l : l1.length ≤ 30) (g : List Int) (es : List S39)
def nsE (g : List Int) : List S88 := accE (nkey g) g.length 0 []
def esE (g : List Int) (es : List S39) : List S88 := accE (ekey g es) es.length 0 []
theorem nkey_in {g : List Int} {es : List S39} (hG : graphE g es = 0) (i : Nat) (hi : i < g.length) : kIn (nkey g i) := by
 have := (graph_facts hG).2.2.1 i hi
 unfold kIn nkey
 exact ⟨⟨this.1, by show rd g (i : Int) ≤ 1000; omega⟩, ⟨(by decide : (0 : Int) ≤ 0), (by decide : (0 : Int) ≤ 1000)⟩, ⟨(by decide : (0 : Int) ≤ 0), (by decide : (0 : Int) ≤ 1000)⟩⟩
theorem rd_at {g : List Int} {es : List S39} (hG : graphE g es = 0) (x : Int) (h0 : 0 ≤ x) (h1 : x < (g.length : Int)) : 0 ≤ rd g x ∧ rd g x ≤ 99 := by
 have := (graph_facts hG).2.2.1 x.toNat (by omega)
 rwa [Int.toNat_of_nonneg h0] at this
theorem ekey_in {g : List Int} {es : List S39} (hG : graphE g es = 0) (j : Nat) (hj : j < es.length) : kIn (ekey g es j) := by
 obtain ⟨e0, e1, e2⟩ := (graph_facts hG).2.2.2 j hj
 have h1 := rd_at hG _ e1.1 e1.2
 have h2 := rd_at hG _ e2.1 e2.2
 unfold kIn ekey
 exact ⟨⟨e0.1, by show (rd_T39 es (j : Int)).f0 ≤ 1000; omega⟩, ⟨h1.1, by show rd g (rd_T39 es (j : Int)).f1 ≤ 1000; omega⟩, ⟨h2.1, by show rd g (rd_T39 es (j : Int)).f2 ≤ 1000; omega⟩⟩
theorem of_edges (hG : graphE g es = 0) (ns : List S88) : ∀ (m j : Nat) (acc : List S88), j + m = es.length → Acc (ekey g es) j acc →
 Ev (fun k => statistic_Of.l1 k es (es.length : Int) (j : Int) g es ns acc) (ns, accE (ekey g es) m j acc, 0)
 | 0, j, acc, hj, _ => by
  refine Ev.step (fun k => by rw [statistic_Of.l1]) ?_
  simp only [show ¬ ((j : Int) < (es.length : Int)) by omega, ↓reduceIte]; exact Ev.now _
 | m + 1, j, acc, hj, ha => by
  obtain ⟨f1, f2, f3, f4⟩ := graph_facts hG
  obtain ⟨e0, e1, e2⟩ := f4 j (by omega)
  have hl := ha.len
  have hk := ekey_in hG j (by omega)
  have hc := counted_ev (x := ekey g es j) ha.cnt hk (by omega) (by show (1 : Int) ≤ 1 ∧ (1 : Int) ≤ 1000; decide) (by omega)
  refine Ev.step (fun k => by rw [statistic_Of.l1]) ?_
  simp only [show ((j : Int) < (es.length : Int)) by omega, show (0 : Int) ≤ (j : Int) by omega, e1.1, e1.2, e2.1, e2.2, ↓reduceIte]
  unfold ekey at hc
  simp only at hc
  rw [hc, w64 _ (by omega) (by omega), acc_succ]
  simp only [Option.bind_some]
  exact of_edges hG ns m (j + 1) _ (by omega) (ha.step hk rfl)
theorem of_nodes (hG : graphE g es = 0) : ∀ (m i : Nat) (acc : List S88), i + m = g.length → Acc (nkey g) i acc →
 Ev (fun k => statistic_Of.l0 k g (g.length : Int) (i : Int) g es acc) (accE (nkey g) m i acc, esE g es, 0)
 | 0, i, acc, hi, _ => by
  refine Ev.step (fun k => by rw [statistic_Of.l0]) ?_
  simp only [show ¬ ((i : Int) < (g.length : Int)) by omega, ↓reduceIte]
  exact of_edges g es hG acc es.length 0 [] (by omega) (Acc.zero _)
 | m + 1, i, acc, hi, ha => by
  have f1 := (graph_facts hG).1
  have hl := ha.len
  have hk := nkey_in hG i (by omega)
  have hc := counted_ev (x := nkey g i) ha.cnt hk (by omega) (by show (1 : Int) ≤ 1 ∧ (1 : Int) ≤ 1000; decide) (by omega)
  refine Ev.step (fun k => by rw [statistic_Of.l0]) ?_
  simp only [show ((i : Int) < (g.length : Int)) by omega, show (0 : Int) ≤ (i : Int) by omega, ↓reduceIte]
  unfold nkey at hc
  simp only at hc
  rw [hc, w64 _ (by omega) (by omega), acc_succ]
  simp only [Option.bind_some]
  exact of_nodes hG m (i + 1) _ (by omega) (ha.step hk rfl)
def ofE (l : List S68) (l1 : List S71) (g : List Int) (es : List S39) : List S88 × List S88 × Int := if typedE l l1 g es = 0 then (nsE g, esE g es, 0) else ([], [], typedE l l1 g es)
include hg h h1g h1l
theorem of_ev : Ev (fun k => statistic_Of.f k l l1 g es) (ofE l l1 g es) := by
 unfold statistic_Of.f ofE
 refine Ev.bind (typed_ev l l1 hg h h1g h1l g es) ?_
 by_cases h0 : typedE l l1 g es = 0
 · simp only [h0, ↓reduceIte]
   exact of_nodes g es (typed_facts h0).2.1 g.length 0 [] (by omega) (Acc.zero _)
 · simp only [h0, ↓reduceIte]; exact Ev.now _
end of
theorem ns_acc {g : List Int} {es : List S39} (hG : graphE g es = 0) : Acc (nkey g) g.length (nsE g) := by
 have := Acc.all (K := nkey g) (fun _ _ => trivial) g.length 0 [] (Acc.zero _) (fun j _ hj => ⟨nkey_in hG j (by omega), rfl⟩)
 rwa [Nat.zero_add] at this
theorem es_acc {g : List Int} {es : List S39} (hG : graphE g es = 0) : Acc (ekey g es) es.length (esE g es) := by
 have := Acc.all (K := ekey g es) (fun _ _ => trivial) es.length 0 [] (Acc.zero _) (fun j _ hj => ⟨ekey_in hG j (by omega), rfl⟩)
 rwa [Nat.zero_add] at this
def isIn (a n : Int) : Bool := decide (0 ≤ a) && decide (a < n)
theorem is_f (a n : Int) : statistic_is.f a n = some (isIn a n) := by
 unfold statistic_is.f isIn
 by_cases h : 0 ≤ a
 · rw [if_pos h]; simp [h]
 · rw [if_neg h]; simp [h]
def cmpAtE (l : List S88) (i : Nat) : Int := cmpE (rd_T88 l ((i : Int) - 1)).f0 (rd_T88 l ((i : Int) - 1)).f1 (rd_T88 l ((i : Int) - 1)).f2 (rd_T88 l (i : Int)).f0 (rd_T88 l (i : Int)).f1 (rd_T88 l (i : Int)).f2
def ordE (l : List S88) (i : Nat) : Int := if 0 < i then (if cmpAtE l i ≥ 0 then 12 else 0) else 0
def nBad (l : List S68) (c : S88) : Bool := !(isIn c.f0 (l.length : Int) && (decide (c.f1 = 0) && (decide (c.f2 = 0) && (decide (1 ≤ c.f3) && decide (c.f3 ≤ 40)))))
def sN (l : List S68) (ns : List S88) (i : Nat) : Int := if nBad l (rd_T88 ns (i : Int)) = true then 6 else ordE ns i
def eBad (l : List S68) (l1 : List S71) (c : S88) : Bool := !(isIn c.f0 (l1.length : Int) && (isIn c.f1 (l.length : Int) && (isIn c.f2 (l.length : Int) && (decide (1 ≤ c.f3) && decide (c.f3 ≤ 80)))))
def hasE (ns : List S88) (a : Int) : Bool := ns.any fun c => c.f0 == a
def sE (l : List S68) (l1 : List S71) (ns es : List S88) (i : Nat) : Int := if eBad l l1 (rd_T88 es (i : Int)) = true then 6 else if fitsE l l1 (rd_T88 es (i : Int)).f0 (rd_T88 es (i : Int)).f1 (rd_T88 es (i : Int)).f2 = true then (if (hasE ns (rd_T88 es (i : Int)).f1 && hasE ns (rd_T88 es (i : Int)).f2) = true then ordE es i else 10) else 13
def sumV (es : List S88) : Int := if sumE es > 80 then 3 else 0
def sEdgesV (l : List S68) (l1 : List S71) (ns es : List S88) : Int := if scan (sE l l1 ns es) es.length 0 = 0 then sumV es else scan (sE l l1 ns es) es.length 0
def sNodesV (l : List S68) (l1 : List S71) (ns es : List S88) : Int := if sumE ns > 40 then 3 else sEdgesV l l1 ns es
def sValidE (l : List S68) (l1 : List S71) (ns es : List S88) : Int := if (validE l l1).2 = 0 then (if scan (sN l ns) ns.length 0 = 0 then sNodesV l l1 ns es else scan (sN l ns) ns.length 0) else (validE l l1).2
theorem total_loop (l : List S88) (hl : l.length ≤ 1000) (hn : ∀ y ∈ l, 1 ≤ y.f3 ∧ y.f3 ≤ 80) : ∀ (m i : Nat) (a : Int), i + m = l.length → 0 ≤ a ∧ a ≤ 80 * (i : Int) → Ev (fun k => statistic_total.l0 k a l (l.length : Int) (i : Int)) (a + sumE (l.drop i))
 | 0, i, a, hi, ha => by
  refine Ev.step (fun k => by rw [statistic_total.l0]) ?_
  rw [List.drop_eq_nil_of_le (by omega)]
  simp only [show ¬ ((i : Int) < (l.length : Int)) by omega, ↓reduceIte, sumE, Int.add_zero]; exact Ev.now _
 | m + 1, i, a, hi, ha => by
  have hil : i < l.length := by omega
  have hy := hn _ (List.getElem_mem hil)
  refine Ev.step (fun k => by rw [statistic_total.l0]) ?_
  simp only [show ((i : Int) < (l.length : Int)) by omega, show (0 : Int) ≤ (i : Int) by omega, ↓reduceIte, rd88_nat l i hil]
  rw [w64 _ (by omega) (by omega), w64 _ (by omega) (by omega), List.drop_eq_getElem_cons hil, sumE, ← Int.add_assoc]
  exact total_loop l hl hn m (i + 1) _ (by omega) (by omega)
theorem total_ev (l : List S88) (hl : l.length ≤ 1000) (hn : ∀ y ∈ l, 1 ≤ y.f3 ∧ y.f3 ≤ 80) : Ev (fun k => statistic_total.f k l) (sumE l) := by
 have := total_loop l hl hn l.length 0 0 (by omega) (by omega)
 rw [Int.zero_add, List.drop_zero] at this
 exact this
theorem compare_ev (a0 a1 a2 a3 b0 b1 b2 b3 : Int) : Ev (fun k => statistic_compare.f k a0 a1 a2 a3 b0 b1 b2 b3) (cmpE a0 a1 a2 b0 b1 b2) := Ev.of (fun k => statistic_compare.mono _ _ _ _ _ _ _ _ k) (k := 5) (compare_f a0 a1 a2 a3 b0 b1 b2 b3)
section sval
variable (l : List S68) (l1 : List S71) (hg : Good l) (h : Small l) (h1g : ∀ x ∈ l1, good71 x) (h1l : l1.length ≤ 30) (ns es : List S88) (hn : ns.length ≤ 1000) (he : es.length ≤ 1000)
include hg h h1g h1l hn he
theorem sval_edges : ∀ (m i : Nat), i + m = es.length → (∀ j, j < i → sE l l1 ns es j = 0) → Ev (fun k => statistic_Valid.l1 k es (es.length : Int) (i : Int) l l1 ns es) (if scan (sE l l1 ns es) m i = 0 then sumV es else scan (sE l l1 ns es) m i)
 | 0, i, hi, hp => by
  refine Ev.step (fun k => by rw [statistic_Valid.l1]) ?_
  simp only [show ¬ ((i : Int) < (es.length : Int)) by omega, ↓reduceIte, scan]
  refine Ev.bind (total_ev es he (fun y hy => ?_)) ?_
  · obtain ⟨j, hj, rfl⟩ := List.getElem_of_mem hy
    have := hp j (by omega)
    unfold sE at this
    split at this
    · exact absurd this (by decide)
    · next hb =>
      rw [rd88_nat _ _ hj] at hb
      simp [eBad] at hb
      omega
  · unfold sumV
    by_cases hs : sumE es > 80
    · simp only [hs, ↓reduceIte]; exact Ev.now _
    · simp only [hs, ↓reduceIte]; exact Ev.now _
 | m + 1, i, hi, hp => by
  have next_ : sE l l1 ns es i = 0 → Ev (fun k => statistic_Valid.l1 k es (es.length : Int) (wrap64 ((i : Int) + 1)) l l1 ns es) (if scan (sE l l1 ns es) (m + 1) i = 0 then sumV es else scan (sE l l1 ns es) (m + 1) i) := fun h0 => by
   rw [scan_succ, if_pos h0, w64 _ (by omega) (by omega)]
   exact sval_edges m (i + 1) (by omega) (fun j hj => by
    rcases Nat.lt_or_eq_of_le (Nat.le_of_lt_succ hj) with h1 | rfl
    · exact hp j h1
    · exact h0)
  have stop_ : ∀ e : Int, sE l l1 ns es i = e → e ≠ 0 → (if scan (sE l l1 ns es) (m + 1) i = 0 then sumV es else scan (sE l l1 ns es) (m + 1) i) = e := fun e h1 h2 => by
   rw [scan_succ, h1, if_neg h2, if_neg h2]
  refine Ev.step (fun k => by rw [statistic_Valid.l1]) ?_
  simp only [show ((i : Int) < (es.length : Int)) by omega, show (0 : Int) ≤ (i : Int) by omega, ↓reduceIte, is_f, Option.bind_some]
  generalize hc : rd_T88 es (i : Int) = c
  have bad : eBad l l1 c = true → Ev (fun k => statistic_Valid.j3 k (i : Int) es (es.length : Int) (i : Int) true l l1 ns es c.f0 c.f1 c.f2 c.f3) (if scan (sE l l1 ns es) (m + 1) i = 0 then sumV es else scan (sE l l1 ns es) (m + 1) i) := fun hb => by
   rw [stop_ 6 (by unfold sE; rw [hc, if_pos hb]) (by decide)]
   refine Ev.step (fun k => by rw [statistic_Valid.j3]) ?_
   simp only [↓reduceIte]; exact Ev.now _
  have j4 : eBad l l1 c = false → fitsE l l1 c.f0 c.f1 c.f2 = true → ∀ b : Bool, b = !(hasE ns c.f1 && hasE ns c.f2) → Ev (fun k => statistic_Valid.j4 k (i : Int) es (es.length : Int) (i : Int) b l l1 ns es c.f0 c.f1 c.f2 c.f3) (if scan (sE l l1 ns es) (m + 1) i = 0 then sumV es else scan (sE l l1 ns es) (m + 1) i) := fun hb hf b hbb => by
   refine Ev.step (fun k => by rw [statistic_Valid.j4]) ?_
   cases hh : (hasE ns c.f1 && hasE ns c.f2)
   · rw [hh] at hbb
     rw [stop_ 10 (by unfold sE; rw [hc, if_neg (by simp [hb]), if_pos hf, if_neg (by simp [hh])]) (by decide), hbb]
     simp only [Bool.not_false, ↓reduceIte]; exact Ev.now _
   · rw [hh] at hbb
     have e0 : sE l l1 ns es i = ordE es i := by unfold sE; rw [hc, if_neg (by simp [hb]), if_pos hf, if_pos hh]
     rw [hbb]
     simp only [Bool.not_true, Bool.false_eq_true, ↓reduceIte]
     by_cases hi0 : 0 < i
     · rw [w64 ((i : Int) - 1) (by omega) (by omega)]
       simp only [show (i : Int) > 0 by omega, show (0 : Int) ≤ (i : Int) - 1 by omega, show (i : Int) - 1 < (es.length : Int) by omega, ↓reduceIte]
       refine Ev.bind (compare_ev _ _ _ _ _ _ _ _) ?_
       have e1 : ordE es i = if cmpE (rd_T88 es ((i : Int) - 1)).f0 (rd_T88 es ((i : Int) - 1)).f1 (rd_T88 es ((i : Int) - 1)).f2 c.f0 c.f1 c.f2 ≥ 0 then 12 else 0 := by
        unfold ordE cmpAtE; rw [if_pos hi0, hc]
       by_cases ho : cmpE (rd_T88 es ((i : Int) - 1)).f0 (rd_T88 es ((i : Int) - 1)).f1 (rd_T88 es ((i : Int) - 1)).f2 c.f0 c.f1 c.f2 ≥ 0
       · rw [if_pos ho] at e1
         rw [stop_ 12 (by rw [e0, e1]) (by decide)]
         simp only [ho, ↓reduceIte]; exact Ev.now _
       · rw [if_neg ho] at e1
         simp only [ho, ↓reduceIte]
         exact next_ (by rw [e0, e1])
     · simp only [show ¬ ((i : Int) > 0) by omega, ↓reduceIte]
       exact next_ (by rw [e0]; unfold ordE; rw [if_neg hi0])
  have good : eBad l l1 c = false → Ev (fun k => statistic_Valid.j3 k (i : Int) es (es.length : Int) (i : Int) false l l1 ns es c.f0 c.f1 c.f2 c.f3) (if scan (sE l l1 ns es) (m + 1) i = 0 then sumV es else scan (sE l l1 ns es) (m + 1) i) := fun hb => by
   refine Ev.step (fun k => by rw [statistic_Valid.j3]) ?_
   simp only [Bool.false_eq_true, ↓reduceIte]
   refine Ev.bind (Fits_ev l l1 hg h h1g h1l _ _ _) ?_
   cases hf : fitsE l l1 c.f0 c.f1 c.f2
   · rw [stop_ 13 (by unfold sE; rw [hc, if_neg (by simp [hb]), if_neg (by simp [hf])]) (by decide)]
     simp only [Bool.false_eq_true, ↓reduceIte]; exact Ev.now _
   · simp only [↓reduceIte, statistic_has.f, any_has.f, Option.bind_some]
     have j := j4 hb hf
     unfold hasE at j
     cases h1 : ns.any (fun m => m.f0 == c.f1)
     · simp only [Bool.false_eq_true, ↓reduceIte]; exact j true (by rw [h1]; rfl)
     · simp only [↓reduceIte]; exact j _ (by rw [h1]; rfl)
  cases h0 : isIn c.f0 (l1.length : Int)
  · simp only [Bool.false_eq_true, ↓reduceIte]; exact bad (by simp [eBad, h0])
  · simp only [↓reduceIte]
    cases h1 : isIn c.f1 (l.length : Int)
    · simp only [Bool.false_eq_true, ↓reduceIte]; exact bad (by simp [eBad, h1])
    · simp only [↓reduceIte]
      cases h2 : isIn c.f2 (l.length : Int)
      · simp only [Bool.false_eq_true, ↓reduceIte]; exact bad (by simp [eBad, h2])
      · simp only [↓reduceIte]
        by_cases h3 : c.f3 < 1
        · simp only [h3, ↓reduceIte]; exact bad (by simp [eBad]; omega)
        · simp only [h3, ↓reduceIte]
          by_cases h4 : c.f3 > 80
          · rw [decide_eq_true h4]; exact bad (by simp [eBad]; omega)
          · rw [decide_eq_false h4]; exact good (by simp [eBad, h0, h1, h2]; omega)
theorem sval_nodes : ∀ (m i : Nat), i + m = ns.length → (∀ j, j < i → sN l ns j = 0) → Ev (fun k => statistic_Valid.l0 k ns (ns.length : Int) (i : Int) l l1 ns es) (if scan (sN l ns) m i = 0 then sNodesV l l1 ns es else scan (sN l ns) m i)
 | 0, i, hi, hp => by
  refine Ev.step (fun k => by rw [statistic_Valid.l0]) ?_
  simp only [show ¬ ((i : Int) < (ns.length : Int)) by omega, ↓reduceIte, scan]
  refine Ev.bind (total_ev ns hn (fun y hy => ?_)) ?_
  · obtain ⟨j, hj, rfl⟩ := List.getElem_of_mem hy
    have := hp j (by omega)
    unfold sN at this
    split at this
    · exact absurd this (by decide)
    · next hb =>
      rw [rd88_nat _ _ hj] at hb
      simp [nBad] at hb
      omega
  · unfold sNodesV
    by_cases hs : sumE ns > 40
    · simp only [hs, ↓reduceIte]; exact Ev.now _
    · simp only [hs, ↓reduceIte]
      exact sval_edges l l1 hg h h1g h1l ns es hn he es.length 0 (by omega) (fun j hj => absurd hj (Nat.not_lt_zero _))
 | m + 1, i, hi, hp => by
  have next_ : sN l ns i = 0 → Ev (fun k => statistic_Valid.l0 k ns (ns.length : Int) (wrap64 ((i : Int) + 1)) l l1 ns es) (if scan (sN l ns) (m + 1) i = 0 then sNodesV l l1 ns es else scan (sN l ns) (m + 1) i) := fun h0 => by
   rw [scan_succ, if_pos h0, w64 _ (by omega) (by omega)]
   exact sval_nodes m (i + 1) (by omega) (fun j hj => by
    rcases Nat.lt_or_eq_of_le (Nat.le_of_lt_succ hj) with h1 | rfl
    · exact hp j h1
    · exact h0)
  have stop_ : ∀ e : Int, sN l ns i = e → e ≠ 0 → (if scan (sN l ns) (m + 1) i = 0 then sNodesV l l1 ns es else scan (sN l ns) (m + 1) i) = e := fun e h1 h2 => by
   rw [scan_succ, h1, if_neg h2, if_neg h2]
  refine Ev.step (fun k => by rw [statistic_Valid.l0]) ?_
  simp only [show ((i : Int) < (ns.length : Int)) by omega, show (0 : Int) ≤ (i : Int) by omega, ↓reduceIte, is_f, Option.bind_some]
  generalize hc : rd_T88 ns (i : Int) = c
  have bad : nBad l c = true → Ev (fun k => statistic_Valid.j1 k (i : Int) ns (ns.length : Int) (i : Int) true l l1 ns es c.f0 c.f1 c.f2 c.f3) (if scan (sN l ns) (m + 1) i = 0 then sNodesV l l1 ns es else scan (sN l ns) (m + 1) i) := fun hb => by
   rw [stop_ 6 (by unfold sN; rw [hc, if_pos hb]) (by decide)]
   refine Ev.step (fun k => by rw [statistic_Valid.j1]) ?_
   simp only [↓reduceIte]; exact Ev.now _
  have good : nBad l c = false → Ev (fun k => statistic_Valid.j1 k (i : Int) ns (ns.length : Int) (i : Int) false l l1 ns es c.f0 c.f1 c.f2 c.f3) (if scan (sN l ns) (m + 1) i = 0 then sNodesV l l1 ns es else scan (sN l ns) (m + 1) i) := fun hb => by
   have e0 : sN l ns i = ordE ns i := by unfold sN; rw [hc, if_neg (by simp [hb])]
   refine Ev.step (fun k => by rw [statistic_Valid.j1]) ?_
   simp only [Bool.false_eq_true, ↓reduceIte]
   by_cases hi0 : 0 < i
   · rw [w64 ((i : Int) - 1) (by omega) (by omega)]
     simp only [show (i : Int) > 0 by omega, show (0 : Int) ≤ (i : Int) - 1 by omega, show (i : Int) - 1 < (ns.length : Int) by omega, ↓reduceIte]
     refine Ev.bind (compare_ev _ _ _ _ _ _ _ _) ?_
     have e1 : ordE ns i = if cmpE (rd_T88 ns ((i : Int) - 1)).f0 (rd_T88 ns ((i : Int) - 1)).f1 (rd_T88 ns ((i : Int) - 1)).f2 c.f0 c.f1 c.f2 ≥ 0 then 12 else 0 := by
      unfold ordE cmpAtE; rw [if_pos hi0, hc]
     by_cases ho : cmpE (rd_T88 ns ((i : Int) - 1)).f0 (rd_T88 ns ((i : Int) - 1)).f1 (rd_T88 ns ((i : Int) - 1)).f2 c.f0 c.f1 c.f2 ≥ 0
     · rw [if_pos ho] at e1
       rw [stop_ 12 (by rw [e0, e1]) (by decide)]
       simp only [ho, ↓reduceIte]; exact Ev.now _
     · rw [if_neg ho] at e1
       simp only [ho, ↓reduceIte]
       exact next_ (by rw [e0, e1])
   · simp only [show ¬ ((i : Int) > 0) by omega, ↓reduceIte]
     exact next_ (by rw [e0]; unfold ordE; rw [if_neg hi0])
  cases h0 : isIn c.f0 (l.length : Int)
  · simp only [Bool.false_eq_true, ↓reduceIte]; exact bad (by simp [nBad, h0])
  · simp only [↓reduceIte]
    by_cases h1 : c.f1 = 0
    · simp only [h1, ↓reduceIte]
      rw [h1] at bad good
      by_cases h2 : c.f2 = 0
      · simp only [h2, ↓reduceIte]
        rw [h2] at bad good
        by_cases h3 : c.f3 < 1
        · simp only [h3, ↓reduceIte]; exact bad (by simp [nBad]; omega)
        · simp only [h3, ↓reduceIte]
          by_cases h4 : c.f3 > 40
          · rw [decide_eq_true h4]; exact bad (by simp [nBad]; omega)
          · rw [decide_eq_false h4]; exact good (by simp [nBad, h0, h1, h2]; omega)
      · simp only [h2, ↓reduceIte]; exact bad (by simp [nBad, h2])
    · simp only [h1, ↓reduceIte]; exact bad (by simp [nBad, h1])
theorem sval_ev : Ev (fun k => statistic_Valid.f k l l1 ns es) (sValidE l l1 ns es) := by
 unfold statistic_Valid.f sValidE
 refine Ev.bind (valid_ev l l1 hg h h1g h1l) ?_
 by_cases hv : (validE l l1).2 = 0
 · simp only [hv, ↓reduceIte]; exact sval_nodes l l1 hg h h1g h1l ns es hn he ns.length 0 (by omega) (fun j hj => absurd hj (Nat.not_lt_zero _))
 · simp only [hv, ↓reduceIte]; exact Ev.now _
end sval
theorem ord_ok {B : Int} {l : List S88} (hc : Cnt B l) (i : Nat) (hi : i < l.length) : ordE l i = 0 := by
 unfold ordE
 by_cases h0 : 0 < i
 · have hk : kLt l[i - 1] l[i] := List.pairwise_iff_getElem.1 hc.srt (i - 1) i (by omega) hi (by omega)
   have := (cmp_lt (hc.key _ (List.getElem_mem (by omega : i - 1 < l.length))) (hc.key _ (List.getElem_mem hi))).2 hk
   rw [if_pos h0, if_neg]
   unfold cmpAtE
   rw [show ((i : Int) - 1) = ((i - 1 : Nat) : Int) by omega, rd88_nat _ _ (by omega), rd88_nat _ _ hi]
   omega
 · rw [if_neg h0]
theorem of_valid {l : List S68} {l1 : List S71} {g : List Int} {es : List S39} (h : typedE l l1 g es = 0) : sValidE l l1 (nsE g) (esE g es) = 0 := by
 obtain ⟨hv, hG, hr, he⟩ := typed_facts h
 obtain ⟨f1, f2, f3, f4⟩ := graph_facts hG
 have an := ns_acc hG
 have ae := es_acc hG
 have sn := sum_ge (fun y hy => (an.cnt.num y hy).1)
 have se := sum_ge (fun y hy => (ae.cnt.num y hy).1)
 rw [an.sum] at sn
 rw [ae.sum] at se
 have inn : ∀ a : Int, 0 ≤ a → a < (l.length : Int) → isIn a (l.length : Int) = true := fun a h0 h1 => by simp [isIn, h0, h1]
 have at_ : ∀ x : Int, 0 ≤ x → x < (g.length : Int) → 0 ≤ rd g x ∧ rd g x < (l.length : Int) ∧ hasE (nsE g) (rd g x) = true := fun x h0 h1 => by
  have hx : ((x.toNat : Nat) : Int) = x := Int.toNat_of_nonneg h0
  have a1 := rd_at hG x h0 h1
  have a2 := hr x.toNat (by omega)
  rw [hx] at a2
  refine ⟨a1.1, a2, ?_⟩
  obtain ⟨y, hy, hk⟩ := an.has x.toNat (by omega)
  unfold hasE
  rw [List.any_eq_true]
  refine ⟨y, hy, ?_⟩
  have := hk.1
  unfold nkey at this
  rw [hx] at this
  simpa using this
 unfold sValidE
 rw [if_pos hv, if_pos]
 · unfold sNodesV
   rw [if_neg (by rw [an.sum]; omega)]
   unfold sEdgesV
   rw [if_pos]
   · unfold sumV; rw [if_neg (by rw [ae.sum]; omega)]
   · refine scan_all _ _ (fun j _ hj => ?_)
     have hjl : j < (esE g es).length := by omega
     have hm := List.getElem_mem hjl
     obtain ⟨q, hq, hk⟩ := ae.of _ hm
     have hnum := ae.cnt.num _ hm
     have hse := se _ hm
     obtain ⟨e0, e1, e2⟩ := f4 q hq
     obtain ⟨t0, t1⟩ := he q hq
     have a1 := at_ _ e1.1 e1.2
     have a2 := at_ _ e2.1 e2.2
     obtain ⟨k0, k1, k2⟩ := hk
     unfold ekey at k0 k1 k2
     simp only at k0 k1 k2
     unfold sE
     rw [rd88_nat _ _ hjl, k0, k1, k2]
     rw [if_neg, if_pos t1, if_pos (by rw [a1.2.2, a2.2.2]; rfl), ord_ok ae.cnt j hjl]
     unfold eBad
     rw [k0, k1, k2, inn _ a1.1 a1.2.1, inn _ a2.1 a2.2.1]
     simp [isIn, e0.1, t0]
     omega
 · refine scan_all _ _ (fun i _ hi => ?_)
   have hil : i < (nsE g).length := by omega
   have hm := List.getElem_mem hil
   obtain ⟨q, hq, hk⟩ := an.of _ hm
   have hnum := an.cnt.num _ hm
   have hsn := sn _ hm
   have h3 := f3 q hq
   have hrq := hr q hq
   obtain ⟨k0, k1, k2⟩ := hk
   unfold nkey at k0 k1 k2
   simp only at k0 k1 k2
   unfold sN
   rw [rd88_nat _ _ hil, if_neg, ord_ok an.cnt i hil]
   unfold nBad
   rw [k0, k1, k2, inn _ h3.1 hrq]
   simp
   omega
def nSum (l : List S68) (l1 : List S71) (ns : List S88) (a : Int) : Nat → Nat → Int → Int
 | 0, _, x => x
 | m + 1, i, x => nSum l l1 ns a m (i + 1) (if isE l l1 (rd_T88 ns (i : Int)).f0 a = true then wrap64 (x + (rd_T88 ns (i : Int)).f3) else x)
theorem nSum_succ (l : List S68) (l1 : List S71) (ns : List S88) (a : Int) (m i : Nat) (x : Int) : nSum l l1 ns a (m + 1) i x = nSum l l1 ns a m (i + 1) (if isE l l1 (rd_T88 ns (i : Int)).f0 a = true then wrap64 (x + (rd_T88 ns (i : Int)).f3) else x) := rfl
def eOk (l : List S68) (l1 : List S71) (e a b : Int) (c : S88) : Bool := decide (c.f0 = e) && (isE l l1 c.f1 a && isE l l1 c.f2 b)
def eSum (l : List S68) (l1 : List S71) (es : List S88) (e a b : Int) : Nat → Nat → Int → Int
 | 0, _, x => x
 | m + 1, i, x => eSum l l1 es e a b m (i + 1) (if eOk l l1 e a b (rd_T88 es (i : Int)) = true then wrap64 (x + (rd_T88 es (i : Int)).f3) else x)
theorem eSum_succ (l : List S68) (l1 : List S71) (es : List S88) (e a b : Int) (m i : Nat) (x : Int) : eSum l l1 es e a b (m + 1) i x = eSum l l1 es e a b m (i + 1) (if eOk l l1 e a b (rd_T88 es (i : Int)) = true then wrap64 (x + (rd_T88 es (i : Int)).f3) else x) := rfl
def nodesV (l : List S68) (l1 : List S71) (ns es : List S88) (a : Int) : Int × Int := if sValidE l l1 ns es = 0 then (if isIn a (l.length : Int) = true then (nSum l l1 ns a ns.length 0 0, 0) else (0, 6)) else (0, sValidE l l1 ns es)
def edgesV (l : List S68) (l1 : List S71) (ns es : List S88) (e a b : Int) : Int × Int := if sValidE l l1 ns es = 0 then (if (isIn e (l1.length : Int) && (isIn a (l.length : Int) && isIn b (l.length : Int))) = true then (eSum l l1 es e a b es.length 0 0, 0) else (0, 6)) else (0, sValidE l l1 ns es)
section sums
variable (l : List S68) (l1 : List S71) (hg : Good l) (h : Small l) (h1g : ∀ x ∈ l1, good71 x) (h1l : l1.length ≤ 30) (ns es : List S88) (hn : ns.length ≤ 1000) (he : es.length ≤ 1000)
include hg h h1g h1l hn he
theorem nodes_loop (a : Int) : ∀ (m i : Nat) (x : Int), i + m = ns.length → Ev (fun k => statistic_Nodes.l0 k a x ns (ns.length : Int) (i : Int) l l1) (nSum l l1 ns a m i x, 0)
 | 0, i, x, hi => by
  refine Ev.step (fun k => by rw [statistic_Nodes.l0]) ?_
  simp only [show ¬ ((i : Int) < (ns.length : Int)) by omega, ↓reduceIte]; exact Ev.now _
 | m + 1, i, x, hi => by
  refine Ev.step (fun k => by rw [statistic_Nodes.l0]) ?_
  simp only [show ((i : Int) < (ns.length : Int)) by omega, show (0 : Int) ≤ (i : Int) by omega, ↓reduceIte]
  refine Ev.bind (Is_ev l l1 hg h h1g h1l _ _) ?_
  have w : wrap64 ((i : Int) + 1) = ((i + 1 : Nat) : Int) := by rw [w64 _ (by omega) (by omega)]; omega
  rw [w, nSum_succ]
  cases isE l l1 (rd_T88 ns (i : Int)).f0 a
  · simp only [Bool.false_eq_true, ↓reduceIte]; exact nodes_loop a m (i + 1) _ (by omega)
  · simp only [↓reduceIte]; exact nodes_loop a m (i + 1) _ (by omega)
theorem Nodes_ev (a : Int) : Ev (fun k => statistic_Nodes.f k l l1 ns es a) (nodesV l l1 ns es a) := by
 unfold statistic_Nodes.f nodesV
 refine Ev.bind (sval_ev l l1 hg h h1g h1l ns es hn he) ?_
 by_cases h0 : sValidE l l1 ns es = 0
 · simp only [h0, ↓reduceIte, is_f, Option.bind_some]
   cases isIn a (l.length : Int)
   · simp only [Bool.false_eq_true, ↓reduceIte]; exact Ev.now _
   · simp only [↓reduceIte]; exact nodes_loop l l1 hg h h1g h1l ns es hn he a ns.length 0 0 (by omega)
 · simp only [h0, ↓reduceIte]; exact Ev.now _
theorem edges_loop (e a b : Int) : ∀ (m i : Nat) (x : Int), i + m = es.length → Ev (fun k => statistic_Edges.l0 k e a b x es (es.length : Int) (i : Int) l l1) (eSum l l1 es e a b m i x, 0)
 | 0, i, x, hi => by
  refine Ev.step (fun k => by rw [statistic_Edges.l0]) ?_
  simp only [show ¬ ((i : Int) < (es.length : Int)) by omega, ↓reduceIte]; exact Ev.now _
 | m + 1, i, x, hi => by
  refine Ev.step (fun k => by rw [statistic_Edges.l0]) ?_
  simp only [show ((i : Int) < (es.length : Int)) by omega, show (0 : Int) ≤ (i : Int) by omega, ↓reduceIte]
  have w : wrap64 ((i : Int) + 1) = ((i + 1 : Nat) : Int) := by rw [w64 _ (by omega) (by omega)]; omega
  rw [w, eSum_succ]
  have ok : ∀ t : Bool, eOk l l1 e a b (rd_T88 es (i : Int)) = t → Ev (fun k => statistic_Edges.l0 k e a b (if t = true then wrap64 (x + (rd_T88 es (i : Int)).f3) else x) es (es.length : Int) ((i + 1 : Nat) : Int) l l1) (eSum l l1 es e a b m (i + 1) (if eOk l l1 e a b (rd_T88 es (i : Int)) = true then wrap64 (x + (rd_T88 es (i : Int)).f3) else x), 0) := fun t ht => by
   rw [ht]; exact edges_loop e a b m (i + 1) _ (by omega)
  by_cases h0 : (rd_T88 es (i : Int)).f0 = e
  · simp only [h0, ↓reduceIte]
    refine Ev.bind (Is_ev l l1 hg h h1g h1l _ _) ?_
    cases h1 : isE l l1 (rd_T88 es (i : Int)).f1 a
    · simp only [Bool.false_eq_true, ↓reduceIte]; exact ok false (by simp [eOk, h1])
    · simp only [↓reduceIte]
      refine Ev.bind (Is_ev l l1 hg h h1g h1l _ _) ?_
      cases h2 : isE l l1 (rd_T88 es (i : Int)).f2 b
      · simp only [Bool.false_eq_true, ↓reduceIte]; exact ok false (by simp [eOk, h2])
      · simp only [↓reduceIte]; exact ok true (by simp [eOk, h0, h1, h2])
  · simp only [h0, ↓reduceIte]; exact ok false (by simp [eOk, h0])
theorem Edges_ev (e a b : Int) : Ev (fun k => statistic_Edges.f k l l1 ns es e a b) (edgesV l l1 ns es e a b) := by
 have no : Ev (fun k => statistic_Edges.j0 k e a b true l l1 ns es) (0, 6) := by
  refine Ev.step (fun k => by rw [statistic_Edges.j0]) ?_
  simp only [↓reduceIte]; exact Ev.now _
 have yes : Ev (fun k => statistic_Edges.j0 k e a b false l l1 ns es) (eSum l l1 es e a b es.length 0 0, 0) := by
  refine Ev.step (fun k => by rw [statistic_Edges.j0]) ?_
  simp only [Bool.false_eq_true, ↓reduceIte]; exact edges_loop l l1 hg h h1g h1l ns es hn he e a b es.length 0 0 (by omega)
 unfold statistic_Edges.f edgesV
 refine Ev.bind (sval_ev l l1 hg h h1g h1l ns es hn he) ?_
 by_cases h0 : sValidE l l1 ns es = 0
 · simp only [h0, ↓reduceIte, is_f, Option.bind_some]
   cases isIn e (l1.length : Int) <;> cases isIn a (l.length : Int) <;> cases isIn b (l.length : Int) <;> simp only [Bool.false_eq_true, ↓reduceIte, Bool.not_true, Bool.not_false, Bool.and_true, Bool.true_and, Bool.and_false, Bool.false_and, Bool.and_self] <;> first | exact no | exact yes
 · simp only [h0, ↓reduceIte]; exact Ev.now _
end sums
def fl (q : Int → Bool) : Nat → Nat → List Int
 | 0, _ => []
 | m + 1, i => if q (i : Int) = true then (i : Int) :: fl q m (i + 1) else fl q m (i + 1)
theorem fl_succ (q : Int → Bool) (m i : Nat) : fl q (m + 1) i = if q (i : Int) = true then (i : Int) :: fl q m (i + 1) else fl q m (i + 1) := rfl
theorem chain_le {l : List S68} (hu : AllUp l) : ∀ (n : Nat) (a : Int), At l a → ∀ x ∈ chain l n a, x ≤ a
 | 0, a, _, x, hx => by cases hx
 | n + 1, a, ha, x, hx => by
  rcases Int.lt_or_le a 0 with hc | hc
  · rw [chain_neg _ _ _ hc] at hx; cases hx
  · rw [chain_pos _ _ _ hc] at hx
    obtain ⟨h1, h2⟩ := up_at hu ha hc
    rcases List.mem_cons.1 hx with rfl | hx
    · exact Int.le_refl _
    · have := chain_le hu n _ h1 x hx; omega
section
variable (l : List S68) (l1 : List S71) (hu : AllUp l) (h20 : l.length ≤ 20)
include hu h20
end
theorem eta77 (x : S77) : (⟨x.f0, x.f1, x.f2, x.f3⟩ : S77) = x := rfl
section
variable (l : List S68) (l1 : List S71) (hg : Good l) (h : Small l) (h1g : ∀ x ∈ l1, good71 x) (h1l : l1.length ≤ 30)
include hg h h1g h1l
end
theorem chain_fuel {l : List S68} (hu : AllUp l) : ∀ (n m : Nat) (a : Int), At l a → a < (n : Int) → a < (m : Int) → chain l n a = chain l m a
 | n, m, a, ha, hn, hm => by
  rcases Int.lt_or_le a 0 with hc | hc
  · rw [chain_neg _ _ _ hc, chain_neg _ _ _ hc]
  · cases n with
    | zero => omega
    | succ n =>
     cases m with
     | zero => omega
     | succ m =>
      obtain ⟨h1, h2⟩ := up_at hu ha hc
      rw [chain_pos _ _ _ hc, chain_pos _ _ _ hc, chain_fuel hu n m _ h1 (by omega) (by omega)]
theorem chain_at {l : List S68} (hu : AllUp l) : ∀ (n : Nat) (a : Int), At l a → ∀ x ∈ chain l n a, 0 ≤ x ∧ At l x
 | 0, a, _, x, hx => by cases hx
 | n + 1, a, ha, x, hx => by
  rcases Int.lt_or_le a 0 with hc | hc
  · rw [chain_neg _ _ _ hc] at hx; cases hx
  · rw [chain_pos _ _ _ hc] at hx
    obtain ⟨h1, h2⟩ := up_at hu ha hc
    rcases List.mem_cons.1 hx with rfl | hx
    · exact ⟨hc, ha⟩
    · exact chain_at hu n _ h1 x hx
theorem chain_trans {l : List S68} (hu : AllUp l) : ∀ (n : Nat) (a b : Int), At l a → a < (n : Int) → b ∈ chain l n a → ∀ x ∈ chain l n b, x ∈ chain l n a
 | 0, a, b, _, _, hb, x, hx => by cases hb
 | n + 1, a, b, ha, hn, hb, x, hx => by
  rcases Int.lt_or_le a 0 with hc | hc
  · rw [chain_neg _ _ _ hc] at hb; cases hb
  · obtain ⟨h1, h2⟩ := up_at hu ha hc
    have hb' := hb
    rw [chain_pos _ _ _ hc] at hb
    rcases List.mem_cons.1 hb with rfl | hb
    · exact hx
    · have hbl := chain_le hu n _ h1 b hb
      have hba := chain_at hu n _ h1 b hb
      rw [chain_fuel hu (n + 1) n b hba.2 (by omega) (by omega)] at hx
      rw [chain_pos _ _ _ hc]
      exact List.mem_cons_of_mem _ (chain_trans hu n _ b h1 (by omega) hb x hx)
theorem isB_iff (l : List S68) (a b : Int) : isB l a b = true ↔ b ∈ chain l 20 a := by
 unfold isB
 rw [List.any_eq_true]
 constructor
 · rintro ⟨x, hx, he⟩
   obtain rfl : x = b := by simpa using he
   exact hx
 · intro h; exact ⟨b, h, by simp⟩
theorem isB_refl (l : List S68) (a : Int) (ha : 0 ≤ a) : isB l a a = true := by
 rw [isB_iff, chain_pos _ _ _ ha]; exact List.mem_cons_self
theorem isB_le {l : List S68} (hu : AllUp l) {a b : Int} (ha : At l a) (h : isB l a b = true) : b ≤ a := chain_le hu 20 a ha b ((isB_iff l a b).1 h)
theorem isB_trans {l : List S68} (hu : AllUp l) (h20 : l.length ≤ 20) {a b c : Int} (ha : At l a) (h : isB l a b = true) (h' : isB l b c = true) : isB l a c = true := by
 have := ha.2
 rw [isB_iff] at h h' ⊢
 exact chain_trans hu 20 a b ha (by omega) h c h'
theorem isE_isB {l : List S68} {l1 : List S71} (hv : (validE l l1).2 = 0) {a b : Int} (ha : 0 ≤ a ∧ a < (l.length : Int)) (hb : 0 ≤ b ∧ b < (l.length : Int)) : isE l l1 a b = isB l a b := by
 have : givenE l l1 [a, b] = 0 := by
  unfold givenE
  rw [if_pos hv]
  simp only [List.all_cons, List.all_nil, Bool.and_true, insideB, ha.1, ha.2, hb.1, hb.2, decide_true, Bool.and_self, if_true]
 unfold isE
 rw [if_pos this]
def nmB (i : Nat) : ByteArray := (⟨#[65, 66, 67, 68, 69, 70]⟩ : ByteArray).extract i (i + 1)
def anB (i : Nat) : ByteArray := (⟨#[117, 118, 119, 120, 121, 122]⟩ : ByteArray).extract i (i + 1)
def enB (i : Nat) : ByteArray := (⟨#[101, 102, 103, 104, 105]⟩ : ByteArray).extract i (i + 1)
def offon : List ByteArray := [(⟨#[111, 102, 102]⟩ : ByteArray), (⟨#[111, 110]⟩ : ByteArray)]
theorem six {P : Nat → Prop} (h0 : P 0) (h1 : P 1) (h2 : P 2) (h3 : P 3) (h4 : P 4) (h5 : P 5) : ∀ i, i < 6 → P i := by
 intro i hi
 have : i = 0 ∨ i = 1 ∨ i = 2 ∨ i = 3 ∨ i = 4 ∨ i = 5 := by omega
 rcases this with rfl | rfl | rfl | rfl | rfl | rfl <;> assumption
theorem nm_name : ∀ i, i < 6 → nameB (nmB i) = true := six (by kernel_rfl) (by kernel_rfl) (by kernel_rfl) (by kernel_rfl) (by kernel_rfl) (by kernel_rfl)
theorem an_name : ∀ i, i < 6 → nameB (anB i) = true := six (by kernel_rfl) (by kernel_rfl) (by kernel_rfl) (by kernel_rfl) (by kernel_rfl) (by kernel_rfl)
theorem five {P : Nat → Prop} (h0 : P 0) (h1 : P 1) (h2 : P 2) (h3 : P 3) (h4 : P 4) : ∀ i, i < 5 → P i := by
 intro i hi
 have : i = 0 ∨ i = 1 ∨ i = 2 ∨ i = 3 ∨ i = 4 := by omega
 rcases this with rfl | rfl | rfl | rfl | rfl <;> assumption
theorem en_name : ∀ i, i < 5 → nameB (enB i) = true := five (by kernel_rfl) (by kernel_rfl) (by kernel_rfl) (by kernel_rfl) (by kernel_rfl)
theorem nm_size : ∀ i, i < 6 → (nmB i).size = 1 := six rfl rfl rfl rfl rfl rfl
theorem an_size : ∀ i, i < 6 → (anB i).size = 1 := six rfl rfl rfl rfl rfl rfl
theorem en_size : ∀ i, i < 5 → (enB i).size = 1 := by
 intro i hi
 have : i = 0 ∨ i = 1 ∨ i = 2 ∨ i = 3 ∨ i = 4 := by omega
 rcases this with rfl | rfl | rfl | rfl | rfl <;> rfl
theorem nm_byte : ∀ i, i < 6 → (nmB i).data.toList = [UInt8.ofNat (65 + i)] := six rfl rfl rfl rfl rfl rfl
theorem an_byte : ∀ i, i < 6 → (anB i).data.toList = [UInt8.ofNat (117 + i)] := six rfl rfl rfl rfl rfl rfl
theorem en_byte : ∀ i, i < 5 → (enB i).data.toList = [UInt8.ofNat (101 + i)] := by
 intro i hi
 have : i = 0 ∨ i = 1 ∨ i = 2 ∨ i = 3 ∨ i = 4 := by omega
 rcases this with rfl | rfl | rfl | rfl | rfl <;> rfl
theorem byte_ne (c i j : Nat) (hc : c < 200) (hi : i < 6) (hj : j < i) : ([UInt8.ofNat (c + j)] == [UInt8.ofNat (c + i)]) = false := by
 have : UInt8.ofNat (c + j) ≠ UInt8.ofNat (c + i) := by
  intro h
  have := congrArg UInt8.toNat h
  simp only [UInt8.toNat_ofNat'] at this
  omega
 simp only [beq_eq_false_iff_ne, ne_eq, List.cons.injEq, and_true]
 exact this
theorem nm_ne (i j : Nat) (hi : i < 6) (hj : j < i) : ((nmB j).toList == (nmB i).toList) = false := by
 rw [toList_data, toList_data, nm_byte i hi, nm_byte j (by omega)]; exact byte_ne 65 i j (by omega) hi hj
theorem an_ne (i j : Nat) (hi : i < 6) (hj : j < i) : ((anB j).toList == (anB i).toList) = false := by
 rw [toList_data, toList_data, an_byte i hi, an_byte j (by omega)]; exact byte_ne 117 i j (by omega) hi hj
theorem en_ne (i j : Nat) (hi : i < 5) (hj : j < i) : ((enB j).toList == (enB i).toList) = false := by
 rw [toList_data, toList_data, en_byte i hi, en_byte j (by omega)]; exact byte_ne 101 i j (by omega) (by omega) hj
theorem offon_names : namesE offon = 0 := by kernel_rfl
theorem offon_good : goodN offon := by
 have hn := reach_num
 refine ⟨by show 2 ≤ reachBytes; omega, ?_⟩
 intro x hx
 rcases List.mem_cons.1 hx with rfl | hx
 · show 3 ≤ reachBytes; omega
 · rcases List.mem_cons.1 hx with rfl | hx
   · show 2 ≤ reachBytes; omega
   · cases hx
theorem i64_wf {x : Int} (h0 : -9223372036854775808 ≤ x) (h1 : x ≤ 9223372036854775807) : (Lit.int .i64 x).wf = true := by
 simp only [Lit.wf, IntKind.min, IntKind.max, IntKind.signed, IntKind.bits, Bool.and_eq_true, decide_eq_true_eq, ite_true]
 omega
def MadeA (i : Nat) (s : List S77) : Prop := s = [] ∨ ∃ a : S77, s = [a] ∧ a.f0 = anB i ∧ ((a.f1 = -3 ∧ 3 ≤ a.f2 ∧ a.f2 ≤ 11 ∧ a.f3 = []) ∨ (a.f1 = 0 ∧ a.f2 = 1 ∧ a.f3 = offon))
def MadeT (i : Nat) (x : S68) : Prop := x.f0 = nmB i ∧ -1 ≤ x.f1 ∧ x.f1 < (i : Int) ∧ MadeA i x.f3
def MadeN (l : List S68) : Prop := 1 ≤ l.length ∧ l.length ≤ 6 ∧ ∀ i : Nat, i < l.length → MadeT i (rd_T68 l (i : Int))
def MadeG (n : Nat) (i : Nat) (x : S71) : Prop := x.f0 = enB i ∧ (0 ≤ x.f1 ∧ x.f1 < (n : Int)) ∧ (0 ≤ x.f2 ∧ x.f2 < (n : Int)) ∧ x.f3 = 0 ∧ x.f4 = -1 ∧ x.f5 = 0 ∧ x.f6 = -1
def MadeE (n : Nat) (l1 : List S71) : Prop := l1.length ≤ 5 ∧ ∀ i : Nat, i < l1.length → MadeG n i (rd_T71 l1 (i : Int))
theorem firstE_all {F : Nat → Int} {nm : Nat → ByteArray} {r : ByteArray × Int} : ∀ (m i : Nat), (∀ j, i ≤ j → j < i + m → F j = 0) → firstE F nm r m i = r
 | 0, i, _ => rfl
 | m + 1, i, h => by
  unfold firstE
  rw [if_pos (h i (Nat.le_refl _) (by omega))]
  exact firstE_all m (i + 1) (fun j h1 h2 => h j (by omega) (by omega))
section made
variable {l : List S68} (h : MadeN l)
include h
theorem made_up : AllUp l := fun j hj => ⟨(h.2.2 j hj).2.1, (h.2.2 j hj).2.2.1⟩
theorem made_attrs_mem : ∀ (n : Nat) (i : Int), At l i → ∀ x ∈ attrsE l n i, ∃ j : Nat, (j : Int) ≤ i ∧ j < l.length ∧ x ∈ (rd_T68 l (j : Int)).f3
 | 0, i, hi, x, hx => by cases hx
 | n + 1, i, hi, x, hx => by
  rcases Int.lt_or_le i 0 with hc | hc
  · rw [attrsE_neg _ _ _ hc] at hx; cases hx
  · rw [attrsE_pos _ _ _ hc] at hx
    obtain ⟨h1, h2⟩ := up_at (made_up h) hi hc
    rcases List.mem_append.1 hx with hx | hx
    · obtain ⟨j, hj, hl, hm⟩ := made_attrs_mem n _ h1 x hx
      exact ⟨j, by omega, hl, hm⟩
    · have := hi.2
      exact ⟨i.toNat, by omega, by omega, by rw [Int.toNat_of_nonneg hc]; exact hx⟩
theorem made_own (i : Nat) (hi : i < l.length) : (rd_T68 l (i : Int)).f3.length ≤ 1 := by
 rcases (h.2.2 i hi).2.2.2 with e | ⟨a, e, _⟩ <;> rw [e] <;> simp
theorem made_attrs_len : ∀ (n : Nat) (i : Int), At l i → ((attrsE l n i).length : Int) ≤ i + 1
 | 0, i, hi => by have := hi.1; simp [attrsE]; omega
 | n + 1, i, hi => by
  rcases Int.lt_or_le i 0 with hc | hc
  · have := hi.1
    rw [attrsE_neg _ _ _ hc]; simp; omega
  · obtain ⟨h1, h2⟩ := up_at (made_up h) hi hc
    have h3 := made_attrs_len n _ h1
    have := hi.2
    have h4 := made_own h i.toNat (by omega)
    rw [Int.toNat_of_nonneg hc] at h4
    rw [attrsE_pos _ _ _ hc, List.length_append]; omega
theorem made_bounds (i : Nat) (hi : i < l.length) (a : S77) (ha : (rd_T68 l (i : Int)).f3 = [a]) : a.f0 = anB i ∧ boundsE a.f1 a.f2 a.f3 = 0 := by
 rcases (h.2.2 i hi).2.2.2 with e | ⟨b, e, h0, h1⟩
 · rw [e] at ha; cases ha
 · rw [ha] at e
   obtain rfl : a = b := by simpa using e
   refine ⟨h0, ?_⟩
   rcases h1 with ⟨e1, e2, e3, e4⟩ | ⟨e1, e2, e3⟩
   · unfold boundsE
     rw [e4, namesE_nil, if_pos rfl, if_neg (by simp), if_pos (by omega)]
   · unfold boundsE
     rw [e3, offon_names, if_pos rfl, if_pos (by decide), if_pos ⟨e1, e2⟩]
theorem made_nodeE (i : Nat) (hi : i < l.length) : nodeE l i = 0 := by
 have h6 := h.2.1
 obtain ⟨h0, h1, h2, h3⟩ := h.2.2 i hi
 have hA : At l (i : Int) := ⟨by omega, by omega⟩
 have hlen := made_attrs_len h 20 (i : Int) hA
 have hown := made_own h i hi
 unfold nodeE
 rw [h0, nm_name i (by omega), if_pos rfl]
 rw [if_neg (by
  rw [Bool.not_eq_true, List.any_eq_false]
  intro m hm
  obtain ⟨j, hj, rfl⟩ := List.getElem_of_mem hm
  rw [List.length_take] at hj
  rw [List.getElem_take]
  have e := (h.2.2 j (by omega)).1
  rw [rd68_nat _ _ (by omega)] at e
  rw [e, nm_ne i j (by omega) (by omega)]; simp)]
 rw [if_neg (by omega), if_neg (by omega), if_neg (by omega)]
 rcases h3 with e | ⟨a, e, _⟩
 · rw [e]; rfl
 · rw [e]
   obtain ⟨b0, b1⟩ := made_bounds h i hi a e
   have ht : attrsE l 20 (i : Int) = attrsE l 19 (rd_T68 l (i : Int)).f1 ++ [a] := by rw [attrsE_pos _ _ _ (by omega), e]
   rw [ht]
   generalize hp : attrsE l 19 (rd_T68 l (i : Int)).f1 = p
   have hF : attrF (p ++ [a]) p.length = 0 := by
    unfold attrF
    rw [List.take_left, rd77_nat _ _ (by simp)]
    simp only [List.getElem_append_right (Nat.le_refl _), Nat.sub_self, List.getElem_cons_zero]
    unfold attrE
    rw [b0, an_name i (by omega), if_pos rfl, if_neg, b1]
    rw [Bool.not_eq_true, List.any_eq_false]
    intro m hm
    rw [← hp] at hm
    obtain ⟨h1', h2'⟩ := up_at (made_up h) hA (by omega)
    obtain ⟨j, hj, hl, hmj⟩ := made_attrs_mem h 19 _ h1' m hm
    rcases (h.2.2 j hl).2.2.2 with e' | ⟨b, e', hb0, _⟩
    · rw [e'] at hmj; cases hmj
    · rw [e'] at hmj
      obtain rfl : m = b := by simpa using hmj
      rw [hb0, an_ne i j (by omega) (by omega)]; simp
   show scan (attrF (p ++ [a])) 1 ((p ++ [a]).length - 1) = 0
   have : (p ++ [a]).length - 1 = p.length := by simp
   rw [this]
   unfold scan
   rw [if_pos hF]; rfl
theorem made_good : Good l := by
 have hn := reach_num
 intro x hx
 obtain ⟨i, hi, rfl⟩ := List.getElem_of_mem hx
 have h6 := h.2.1
 obtain ⟨h0, h1, h2, h3⟩ := h.2.2 i hi
 rw [rd68_nat _ _ hi] at h0 h1 h2 h3
 refine ⟨?_, i64_wf (by omega) (by omega), trivial, ?_⟩
 · rw [h0, nm_size i (by omega)]; omega
 · rcases h3 with e | ⟨a, e, ha, hb⟩
   · rw [e]; exact ⟨Nat.zero_le _, fun x hx => by cases hx⟩
   · rw [e]
     refine ⟨by show 1 ≤ reachBytes; omega, fun y hy => ?_⟩
     obtain rfl : y = a := by simpa using hy
     rcases hb with ⟨b1, b2, b3, b4⟩ | ⟨b1, b2, b3⟩
     · refine ⟨by rw [ha, an_size i (by omega)]; omega, i64_wf (by omega) (by omega), i64_wf (by omega) (by omega), ?_⟩
       rw [b4]; exact ⟨Nat.zero_le _, fun x hx => by cases hx⟩
     · refine ⟨by rw [ha, an_size i (by omega)]; omega, i64_wf (by omega) (by omega), i64_wf (by omega) (by omega), ?_⟩
       rw [b3]; exact offon_good
theorem made_good1 {l1 : List S71} (h1 : MadeE l.length l1) : ∀ x ∈ l1, good71 x := by
 have hn := reach_num
 have h6 := h.2.1
 have h5 := h1.1
 intro x hx
 obtain ⟨i, hi, rfl⟩ := List.getElem_of_mem hx
 obtain ⟨e0, e1, e2, e3, e4, e5, e6⟩ := h1.2 i hi
 rw [rd71_nat _ _ hi] at e0 e1 e2 e3 e4 e5 e6
 exact ⟨by rw [e0, en_size i (by omega)]; omega, i64_wf (by omega) (by omega), i64_wf (by omega) (by omega), i64_wf (by omega) (by omega), i64_wf (by omega) (by omega), i64_wf (by omega) (by omega), i64_wf (by omega) (by omega)⟩
theorem made_small : Small l := by
 have h6 := h.2.1
 refine ⟨by omega, ?_⟩
 intro x hx
 obtain ⟨i, hi, rfl⟩ := List.getElem_of_mem hx
 have := made_own h i hi
 rw [rd68_nat _ _ hi] at this
 omega
theorem made_edgeE {l1 : List S71} (h1 : MadeE l.length l1) (i : Nat) (hi : i < l1.length) : edgeE l l1 i = 0 := by
 have h5 := h1.1
 obtain ⟨e0, e1, e2, e3, e4, e5, e6⟩ := h1.2 i hi
 unfold edgeE
 rw [e0, en_name i (by omega), if_pos rfl]
 rw [if_neg (by
  rw [Bool.not_eq_true, List.any_eq_false]
  intro m hm
  obtain ⟨j, hj, rfl⟩ := List.getElem_of_mem hm
  rw [List.length_take] at hj
  rw [List.getElem_take]
  have e := (h1.2 j (by omega)).1
  rw [rd71_nat _ _ (by omega)] at e
  rw [e, en_ne i j (by omega) (by omega)]; simp)]
 rw [e3, e4, e5, e6, if_pos]
 simp only [insideB, boundB, e1.1, e1.2, e2.1, e2.2, decide_true, Bool.and_true, Bool.true_and]
 decide
theorem made_valid {l1 : List S71} (h1 : MadeE l.length l1) : (validE l l1).2 = 0 := by
 have h6 := h.2.1
 have h0 := h.1
 have h5 := h1.1
 unfold validE
 rw [if_neg (by omega), if_neg (by omega), if_neg (by omega)]
 rw [firstE_all _ _ (fun j _ hj => made_nodeE h j (by omega)), firstE_all _ _ (fun j _ hj => made_edgeE h h1 j (by omega))]
end made
theorem u8_wf {x : Int} (h : (Lit.int .u8 x).wf = true) : 0 ≤ x ∧ x ≤ 255 := by
 simp only [Lit.wf, IntKind.min, IntKind.max, IntKind.signed, IntKind.bits, Bool.and_eq_true, decide_eq_true_eq, Bool.false_eq_true, ite_false] at h
 omega
theorem rd81_nat (l : List S81) (i : Nat) (h : i < l.length) : rd_T81 l (i : Int) = l[i] := by
 rw [show rd_T81 l (i : Int) = rdOf z81 l (i : Int) from rfl, rdOf_nat _ _ _ h]
theorem good81_rd {l : List S81} (h : ∀ x ∈ l, good81 x) (i : Nat) (hi : i < l.length) : good81 (rd_T81 l (i : Int)) := by
 rw [rd81_nat _ _ hi]; exact h _ (List.getElem_mem hi)
theorem tmod_lt (x : Int) (h0 : 0 ≤ x) (n : Nat) (hn : 0 < n) : 0 ≤ Int.tmod x (n : Int) ∧ Int.tmod x (n : Int) < (n : Int) := by
 rw [Int.tmod_eq_emod_of_nonneg h0]
 exact ⟨Int.emod_nonneg _ (by omega), Int.emod_lt_of_pos _ (by omega)⟩
theorem rd68_push {l : List S68} {x : S68} (j : Nat) (hj : j < (l ++ [x]).length) : rd_T68 (l ++ [x]) (j : Int) = if h : j < l.length then rd_T68 l (j : Int) else x := by
 rw [rd68_nat _ _ hj]
 split
 · next h => rw [rd68_nat _ _ h, List.getElem_append_left h]
 · next h =>
   have : j = l.length := by rw [List.length_append] at hj; simp at hj; omega
   subst this
   simp
theorem rd71_push {l : List S71} {x : S71} (j : Nat) (hj : j < (l ++ [x]).length) : rd_T71 (l ++ [x]) (j : Int) = if h : j < l.length then rd_T71 l (j : Int) else x := by
 rw [rd71_nat _ _ hj]
 split
 · next h => rw [rd71_nat _ _ h, List.getElem_append_left h]
 · next h =>
   have : j = l.length := by rw [List.length_append] at hj; simp at hj; omega
   subst this
   simp
section made
variable (x0 x1 : List S81) (hg0 : ∀ x ∈ x0, good81 x) (hg1 : ∀ x ∈ x1, good81 x) (hl0 : x0.length ≤ reachBytes) (hl1 : x1.length ≤ reachBytes)
include hg0 hg1 hl0 hl1
theorem made_edges (l : List S68) (hl : 1 ≤ l.length ∧ l.length ≤ 6) : ∀ (m i : Nat) (acc : List S71), i + m = 5 → acc.length = i → (∀ j : Nat, j < acc.length → MadeG l.length j (rd_T71 acc (j : Int))) →
 ∃ l1, Ev (fun k => q4_Made.l1 k x1 (i : Int) l acc) (l, l1) ∧ MadeE l.length l1
 | 0, i, acc, hi, ha, hm => ⟨acc, by
  refine Ev.step (fun k => by rw [q4_Made.l1]) ?_
  simp only [show ¬ ((i : Int) < 5) by omega, ↓reduceIte, ite_self]; exact Ev.now _, by omega, hm⟩
 | m + 1, i, acc, hi, ha, hm => by
  have hn := reach_num
  by_cases hlt : i < x1.length
  · have hx := good81_rd hg1 i hlt
    have hp := u8_wf hx.1
    have hq := u8_wf hx.2
    have t1 := tmod_lt (rd_T81 x1 (i : Int)).f0 hp.1 l.length (by omega)
    have t2 := tmod_lt (rd_T81 x1 (i : Int)).f1 hq.1 l.length (by omega)
    obtain ⟨l1, h1, h2⟩ := made_edges l hl m (i + 1) (acc ++ [⟨enB i, Int.tmod (rd_T81 x1 (i : Int)).f0 (l.length : Int), Int.tmod (rd_T81 x1 (i : Int)).f1 (l.length : Int), 0, -1, 0, -1⟩]) (by omega) (by simp [ha]) (by
     intro j hj
     rw [rd71_push j hj]
     split
     · next h => exact hm j h
     · next h =>
       have : j = i := by rw [List.length_append] at hj; simp at hj; omega
       subst this
       exact ⟨rfl, t1, t2, rfl, rfl, rfl, rfl⟩)
    refine ⟨l1, Ev.step (fun k => by rw [q4_Made.l1]) ?_, h2⟩
    rw [w64 ((i : Int) + 1) (by omega) (by omega), w64 _ (by omega) (by omega), w64 _ (by omega) (by omega)]
    simp only [show ((i : Int) < (x1.length : Int)) by omega, show ((i : Int) < 5) by omega, show (0 : Int) ≤ (i : Int) by omega, show ((i : Int) ≤ (i : Int) + 1) by omega, show ((i : Int) + 1 ≤ 5) by omega, show ¬ ((l.length : Int) = 0) by omega, show acc.length < 2199023255552 by omega, ↓reduceIte]
    exact h1
  · refine ⟨acc, Ev.step (fun k => by rw [q4_Made.l1]) ?_, by omega, hm⟩
    simp only [show ¬ ((i : Int) < (x1.length : Int)) by omega, ↓reduceIte]; exact Ev.now _
theorem made_node (acc : List S68) (i : Nat) (hi : i < 6) (ha : acc.length = i) (p q : Int) (hp : 0 ≤ p ∧ p ≤ 255) (hq : 0 ≤ q ∧ q ≤ 255)
 (hm : ∀ x : S68, MadeT i x → ∃ r, Ev (fun k => q4_Made.l0 k x0 x1 ((i : Int) + 1) (acc ++ [x])) r ∧ MadeN r.1 ∧ MadeE r.1.length r.2) :
 ∃ r, Ev (fun k => q4_Made.j2 k x0 x1 (i : Int) acc p q) r ∧ MadeN r.1 ∧ MadeE r.1.length r.2 := by
 have t1 := tmod_lt p hp.1 (i + 1) (by omega)
 rw [show ((i + 1 : Nat) : Int) = (i : Int) + 1 by omega] at t1
 have hd : 0 ≤ Int.tdiv q 4 % 256 % 9 ∧ Int.tdiv q 4 % 256 % 9 ≤ 8 := by omega
 by_cases c1 : Int.tmod q 4 = 1
 · obtain ⟨r, h1, h2⟩ := hm ⟨nmB i, Int.tmod p ((i : Int) + 1) - 1, (Int.tdiv p 16 % 4) == 3, [⟨anB i, -3, 3 + Int.tdiv q 4 % 256 % 9, []⟩]⟩ ⟨rfl, by show -1 ≤ Int.tmod p ((i : Int) + 1) - 1; omega, by show Int.tmod p ((i : Int) + 1) - 1 < (i : Int); omega, Or.inr ⟨_, rfl, rfl, Or.inl ⟨rfl, by show 3 ≤ 3 + Int.tdiv q 4 % 256 % 9; omega, by show 3 + Int.tdiv q 4 % 256 % 9 ≤ 11; omega, rfl⟩⟩⟩
   refine ⟨r, Ev.step (fun k => by rw [q4_Made.j2]) ?_, h2⟩
   rw [w64 ((i : Int) + 1) (by omega) (by omega), w64 p (by omega) (by omega), w64 (Int.tmod p ((i : Int) + 1) - 1) (by omega) (by omega)]
   simp only [c1, show (0 : Int) ≤ (i : Int) by omega, show ((i : Int) ≤ (i : Int) + 1) by omega, show ((i : Int) + 1 ≤ 6) by omega, show ¬ ((i : Int) + 1 = 0) by omega, show acc.length < 2513169434916 by omega, ↓reduceIte]
   exact h1
 · by_cases c2 : Int.tmod q 4 = 2
   · obtain ⟨r, h1, h2⟩ := hm ⟨nmB i, Int.tmod p ((i : Int) + 1) - 1, (Int.tdiv p 16 % 4) == 3, [⟨anB i, 0, 1, offon⟩]⟩ ⟨rfl, by show -1 ≤ Int.tmod p ((i : Int) + 1) - 1; omega, by show Int.tmod p ((i : Int) + 1) - 1 < (i : Int); omega, Or.inr ⟨_, rfl, rfl, Or.inr ⟨rfl, rfl, rfl⟩⟩⟩
     refine ⟨r, Ev.step (fun k => by rw [q4_Made.j2]) ?_, h2⟩
     rw [w64 ((i : Int) + 1) (by omega) (by omega), w64 p (by omega) (by omega), w64 (Int.tmod p ((i : Int) + 1) - 1) (by omega) (by omega)]
     simp only [c2, show ¬ ((2 : Int) = 1) by omega, show (0 : Int) ≤ (i : Int) by omega, show ((i : Int) ≤ (i : Int) + 1) by omega, show ((i : Int) + 1 ≤ 6) by omega, show ¬ ((i : Int) + 1 = 0) by omega, show acc.length < 2513169434916 by omega, ↓reduceIte]
     exact h1
   · obtain ⟨r, h1, h2⟩ := hm ⟨nmB i, Int.tmod p ((i : Int) + 1) - 1, (Int.tdiv p 16 % 4) == 3, []⟩ ⟨rfl, by show -1 ≤ Int.tmod p ((i : Int) + 1) - 1; omega, by show Int.tmod p ((i : Int) + 1) - 1 < (i : Int); omega, Or.inl rfl⟩
     refine ⟨r, Ev.step (fun k => by rw [q4_Made.j2]) ?_, h2⟩
     rw [w64 ((i : Int) + 1) (by omega) (by omega), w64 p (by omega) (by omega), w64 (Int.tmod p ((i : Int) + 1) - 1) (by omega) (by omega)]
     simp only [c1, c2, show (0 : Int) ≤ (i : Int) by omega, show ((i : Int) ≤ (i : Int) + 1) by omega, show ((i : Int) + 1 ≤ 6) by omega, show ¬ ((i : Int) + 1 = 0) by omega, show acc.length < 2513169434916 by omega, ↓reduceIte]
     exact h1
theorem made_nodes : ∀ (m i : Nat) (acc : List S68), i + m = 6 → acc.length = i → (∀ j : Nat, j < acc.length → MadeT j (rd_T68 acc (j : Int))) →
 ∃ r, Ev (fun k => q4_Made.l0 k x0 x1 (i : Int) acc) r ∧ MadeN r.1 ∧ MadeE r.1.length r.2
 | m, i, acc, hi, ha, hm => by
  have hn := reach_num
  have stop : 1 ≤ i → ∃ r, Ev (fun k => q4_Made.j1 k x0 x1 (i : Int) false acc) r ∧ MadeN r.1 ∧ MadeE r.1.length r.2 := by
   intro h1
   obtain ⟨l1, e1, e2⟩ := made_edges x0 x1 hg0 hg1 hl0 hl1 acc (by omega) 5 0 [] (by omega) rfl (fun j hj => absurd hj (Nat.not_lt_zero _))
   refine ⟨(acc, l1), Ev.step (fun k => by rw [q4_Made.j1]) ?_, ⟨by show 1 ≤ acc.length; omega, by show acc.length ≤ 6; omega, hm⟩, e2⟩
   simp only [Bool.false_eq_true, ↓reduceIte]; exact e1
  have go : i < 6 → (∀ x : S68, MadeT i x → ∃ r, Ev (fun k => q4_Made.l0 k x0 x1 ((i : Int) + 1) (acc ++ [x])) r ∧ MadeN r.1 ∧ MadeE r.1.length r.2) → ∃ r, Ev (fun k => q4_Made.j1 k x0 x1 (i : Int) true acc) r ∧ MadeN r.1 ∧ MadeE r.1.length r.2 := by
   intro h6 hr
   by_cases hlt : i < x0.length
   · have hx := good81_rd hg0 i hlt
     obtain ⟨r, e1, e2⟩ := made_node x0 x1 hg0 hg1 hl0 hl1 acc i h6 ha _ _ (u8_wf hx.1) (u8_wf hx.2) hr
     refine ⟨r, Ev.step (fun k => by rw [q4_Made.j1]) ?_, e2⟩
     simp only [show ((i : Int) < (x0.length : Int)) by omega, show (0 : Int) ≤ (i : Int) by omega, ↓reduceIte]; exact e1
   · obtain ⟨r, e1, e2⟩ := made_node x0 x1 hg0 hg1 hl0 hl1 acc i h6 ha 0 0 (by omega) (by omega) hr
     refine ⟨r, Ev.step (fun k => by rw [q4_Made.j1]) ?_, e2⟩
     simp only [show ¬ ((i : Int) < (x0.length : Int)) by omega, ↓reduceIte]; exact e1
  cases m with
  | zero =>
   obtain ⟨r, e1, e2⟩ := stop (by omega)
   refine ⟨r, Ev.step (fun k => by rw [q4_Made.l0]) ?_, e2⟩
   simp only [show ¬ ((i : Int) = 0) by omega, show decide ((i : Int) < 6) = false by exact decide_eq_false (by omega), ↓reduceIte, ite_self]; exact e1
  | succ m =>
   have rec_ := go (by omega) (fun x hx => by
    have := made_nodes m (i + 1) (acc ++ [x]) (by omega) (by simp [ha]) (fun j hj => by
     rw [rd68_push j hj]
     split
     · next h => exact hm j h
     · next h =>
       have : j = i := by rw [List.length_append] at hj; simp at hj; omega
       subst this; exact hx)
    exact this)
   by_cases h0 : i = 0
   · obtain ⟨r, e1, e2⟩ := rec_
     refine ⟨r, Ev.step (fun k => by rw [q4_Made.l0]) ?_, e2⟩
     simp only [show ((i : Int) = 0) by omega, ↓reduceIte]
     rw [show ((i : Int)) = 0 by omega] at e1
     exact e1
   · by_cases hlt : i < x0.length
     · obtain ⟨r, e1, e2⟩ := rec_
       refine ⟨r, Ev.step (fun k => by rw [q4_Made.l0]) ?_, e2⟩
       simp only [show ¬ ((i : Int) = 0) by omega, show ((i : Int) < (x0.length : Int)) by omega, show decide ((i : Int) < 6) = true by exact decide_eq_true (by omega), ↓reduceIte]; exact e1
     · obtain ⟨r, e1, e2⟩ := stop (by omega)
       refine ⟨r, Ev.step (fun k => by rw [q4_Made.l0]) ?_, e2⟩
       simp only [show ¬ ((i : Int) = 0) by omega, show ¬ ((i : Int) < (x0.length : Int)) by omega, ↓reduceIte]; exact e1
theorem Made_ev : ∃ r, Ev (fun k => q4_Made.f k x0 x1) r ∧ MadeN r.1 ∧ MadeE r.1.length r.2 := by
 have := made_nodes x0 x1 hg0 hg1 hl0 hl1 6 0 [] (by omega) rfl (fun j hj => absurd hj (Nat.not_lt_zero _))
 exact this
end made
theorem ix (a : Int) (ha : (Lit.int .u8 a).wf = true) (n : Nat) (hn : 0 < n) : 0 ≤ Int.tmod (wrap64 a) (n : Int) ∧ Int.tmod (wrap64 a) (n : Int) < (n : Int) := by
 have := u8_wf ha
 rw [w64 _ (by omega) (by omega)]
 exact tmod_lt a this.1 n hn
section facts
variable (l : List S68) (l1 : List S71) (hg : Good l) (h : Small l) (h1g : ∀ x ∈ l1, good71 x) (h1l : l1.length ≤ 5) (hv : (validE l l1).2 = 0)
include hg h h1g h1l hv
end facts
structure Typd (l : List S68) (l1 : List S71) (g : List Int) (es : List S39) : Prop where
 n : ∀ x ∈ g, 0 ≤ x ∧ x < (l.length : Int)
 e : ∀ e ∈ es, (0 ≤ e.f0 ∧ e.f0 < (l1.length : Int)) ∧ (0 ≤ e.f1 ∧ e.f1 < (g.length : Int)) ∧ (0 ≤ e.f2 ∧ e.f2 < (g.length : Int)) ∧ fitsE l l1 e.f0 (rd g e.f1) (rd g e.f2) = true
theorem typd_graph {l : List S68} {l1 : List S71} {g : List Int} {es : List S39} (h6 : l.length ≤ 20) (h5 : l1.length ≤ 30) (hg : g.length ≤ 40) (he : es.length ≤ 80) (t : Typd l l1 g es) : graphE g es = 0 := by
 unfold graphE
 rw [if_neg (by omega), if_neg, if_neg]
 · rw [Bool.not_eq_true, List.any_eq_false]
   intro e hm
   obtain ⟨h0, h1, h2, _⟩ := t.e e hm
   simp only [fitsB, withinB]
   rw [w64 _ (by omega) (by omega)]
   simp
   omega
 · rw [Bool.not_eq_true, List.any_eq_false]
   intro x hm
   have := t.n x hm
   simp [withinB]
   omega
theorem typd_zero {l : List S68} {l1 : List S71} {g : List Int} {es : List S39} (hv : (validE l l1).2 = 0) (h6 : l.length ≤ 20) (h5 : l1.length ≤ 30) (hg : g.length ≤ 40) (he : es.length ≤ 80) (t : Typd l l1 g es) : typedE l l1 g es = 0 := by
 have hG := typd_graph h6 h5 hg he t
 unfold typedE
 rw [if_pos hv, if_pos hG, if_pos]
 · refine scan_all _ _ (fun j _ hj => ?_)
   have hjl : j < es.length := by omega
   obtain ⟨h0, h1, h2, h3⟩ := t.e _ (List.getElem_mem hjl)
   unfold edgeF
   rw [rd39_nat _ _ hjl, if_neg (by omega), if_pos h3]
 · refine scan_all _ _ (fun i _ hi => ?_)
   have hil : i < g.length := by omega
   have := t.n _ (List.getElem_mem hil)
   unfold nodeF
   rw [rd_nat _ _ hil, if_neg (by omega)]
theorem rd35_nat (l : List S35) (i : Nat) (h : i < l.length) : rd_T35 l (i : Int) = l[i] := by unfold rd_T35; simp [h]
theorem rd_in {g : List Int} {P : Int → Prop} (h : ∀ x ∈ g, P x) (i : Int) (h0 : 0 ≤ i) (h1 : i < (g.length : Int)) : P (rd g i) := by
 have hi : ((i.toNat : Nat) : Int) = i := Int.toNat_of_nonneg h0
 have := rd_nat g i.toNat (by omega)
 rw [hi] at this
 rw [this]
 exact h _ (List.getElem_mem _)
section gmade
variable (l : List S68) (l1 : List S71) (hg : Good l) (h : Small l) (h1g : ∀ x ∈ l1, good71 x) (h1l : l1.length ≤ 30) (hn0 : 0 < l.length) (x1 : List Int) (x2 : List S35) (hx1 : ∀ x ∈ x1, (Lit.int .u8 x).wf = true) (hx2 : ∀ x ∈ x2, good35 x) (hl1 : x1.length ≤ reachBytes) (hl2 : x2.length ≤ reachBytes)
include hg h h1g h1l hn0 hx1 hx2 hl1 hl2
theorem gmade_edges (g : List Int) (hgn : ∀ x ∈ g, 0 ≤ x ∧ x < (l.length : Int)) (hg8 : g.length ≤ 8) : ∀ (m i : Nat) (acc : List S39), i + m = 12 → acc.length ≤ i → Typd l l1 g acc →
 ∃ es, Ev (fun k => scarfjointref18_Made.l1 k x2 (i : Int) l l1 g acc) (g, es) ∧ es.length ≤ 12 ∧ Typd l l1 g es := by
 have stop : ∀ (i : Int) (acc : List S39), Ev (fun k => scarfjointref18_Made.j3 k x2 i false l l1 g acc) (g, acc) := fun i acc => by
  refine Ev.step (fun k => by rw [scarfjointref18_Made.j3]) ?_
  simp only [Bool.false_eq_true, ↓reduceIte]; exact Ev.now _
 intro m
 induction m with
 | zero =>
  intro i acc hi ha hT
  refine ⟨acc, Ev.step (fun k => by rw [scarfjointref18_Made.l1]) ?_, by omega, hT⟩
  simp only [show ¬ ((i : Int) < 12) by omega, ↓reduceIte]
  by_cases c : (i : Int) < (x2.length : Int)
  · simp only [c, ↓reduceIte]; exact stop _ _
  · simp only [c, ↓reduceIte]; exact stop _ _
 | succ m ih =>
  intro i acc hi ha hT
  by_cases c : (i : Int) < (x2.length : Int)
  · by_cases c1 : (g.length : Int) > 0
    · by_cases c2 : (l1.length : Int) > 0
      · have hil : i < x2.length := by omega
        have hb := hx2 _ (List.getElem_mem hil)
        have a0 := ix _ hb.1 l1.length (by omega)
        have a1 := ix _ hb.2.1 g.length (by omega)
        have a2 := ix _ hb.2.2 g.length (by omega)
        have hr := rd35_nat x2 i hil
        generalize hA : Int.tmod (wrap64 x2[i].f0) (l1.length : Int) = A at a0
        generalize hB : Int.tmod (wrap64 x2[i].f1) (g.length : Int) = B at a1
        generalize hC : Int.tmod (wrap64 x2[i].f2) (g.length : Int) = C at a2
        have run : ∀ r, (∃ acc', (acc'.length ≤ i + 1 ∧ Typd l l1 g acc' ∧ ((fitsE l l1 A (rd g B) (rd g C) = true ∧ acc' = acc ++ [⟨A, B, C⟩]) ∨ (fitsE l l1 A (rd g B) (rd g C) = false ∧ acc' = acc))) ∧ Ev (fun k => scarfjointref18_Made.l1 k x2 ((i + 1 : Nat) : Int) l l1 g acc') r) → Ev (fun k => scarfjointref18_Made.l1 k x2 (i : Int) l l1 g acc) r := by
         rintro r ⟨acc', ⟨_, _, hor⟩, hev⟩
         refine Ev.step (fun k => by rw [scarfjointref18_Made.l1]) ?_
         simp only [c, show (i : Int) < 12 by omega, c1, c2, decide_true, ↓reduceIte]
         refine Ev.step (fun k => by rw [scarfjointref18_Made.j3]) ?_
         simp only [c, show (0 : Int) ≤ (i : Int) by omega, show ¬ ((l1.length : Int) = 0) by omega, show ¬ ((g.length : Int) = 0) by omega, hr, hA, hB, hC, a1.1, a1.2, a2.1, a2.2, ↓reduceIte]
         refine Ev.bind (rFits_ev l l1 hg h h1g h1l A (rd g B) (rd g C)) ?_
         rw [w64 _ (by omega) (by omega)]
         rcases hor with ⟨e, rfl⟩ | ⟨e, rfl⟩
         · simp only [e, show acc.length < 5864062014805 by omega, ↓reduceIte]
           exact hev
         · simp only [e, Bool.false_eq_true, ↓reduceIte]
           exact hev
        by_cases hf : fitsE l l1 A (rd g B) (rd g C) = true
        · have hT' : Typd l l1 g (acc ++ [⟨A, B, C⟩]) := ⟨hT.n, fun e he => by
           rcases List.mem_append.1 he with he | he
           · exact hT.e e he
           · rw [List.mem_singleton] at he; subst he; exact ⟨a0, a1, a2, hf⟩⟩
          obtain ⟨es, hE, hl, hTe⟩ := ih (i + 1) (acc ++ [⟨A, B, C⟩]) (by omega) (by simp; omega) hT'
          exact ⟨es, run _ ⟨_, ⟨by simp; omega, hT', Or.inl ⟨hf, rfl⟩⟩, hE⟩, hl, hTe⟩
        · obtain ⟨es, hE, hl, hTe⟩ := ih (i + 1) acc (by omega) (by omega) hT
          exact ⟨es, run _ ⟨_, ⟨by omega, hT, Or.inr ⟨by simpa using hf, rfl⟩⟩, hE⟩, hl, hTe⟩
      · refine ⟨acc, Ev.step (fun k => by rw [scarfjointref18_Made.l1]) ?_, by omega, hT⟩
        simp only [c, show (i : Int) < 12 by omega, c1, c2, decide_false, ↓reduceIte]; exact stop _ _
    · refine ⟨acc, Ev.step (fun k => by rw [scarfjointref18_Made.l1]) ?_, by omega, hT⟩
      simp only [c, show (i : Int) < 12 by omega, c1, ↓reduceIte]; exact stop _ _
  · refine ⟨acc, Ev.step (fun k => by rw [scarfjointref18_Made.l1]) ?_, by omega, hT⟩
    simp only [c, ↓reduceIte]; exact stop _ _
theorem gmade_nodes : ∀ (m i : Nat) (acc : List Int), i + m = 8 → acc.length = i → (∀ x ∈ acc, 0 ≤ x ∧ x < (l.length : Int)) →
 ∃ g es, Ev (fun k => scarfjointref18_Made.l0 k x1 x2 8 (i : Int) l l1 acc) (g, es) ∧ g.length ≤ 8 ∧ es.length ≤ 12 ∧ Typd l l1 g es := by
 have stop : ∀ (acc : List Int), (∀ x ∈ acc, 0 ≤ x ∧ x < (l.length : Int)) → acc.length ≤ 8 → ∃ g es, Ev (fun k => scarfjointref18_Made.j1 k x2 l l1 acc) (g, es) ∧ g.length ≤ 8 ∧ es.length ≤ 12 ∧ Typd l l1 g es := fun acc hn h8 => by
  obtain ⟨es, hE, hl, hT⟩ := gmade_edges l l1 hg h h1g h1l hn0 x1 x2 hx1 hx2 hl1 hl2 acc hn h8 12 0 [] (by omega) (Nat.le_refl _) ⟨hn, fun e he => (List.not_mem_nil he).elim⟩
  refine ⟨acc, es, Ev.step (fun k => by rw [scarfjointref18_Made.j1]) ?_, h8, hl, hT⟩
  exact hE
 intro m
 induction m with
 | zero =>
  intro i acc hi ha hn
  obtain ⟨g, es, hE, r⟩ := stop acc hn (by omega)
  refine ⟨g, es, Ev.step (fun k => by rw [scarfjointref18_Made.l0]) ?_, r⟩
  simp only [show ¬ ((i : Int) < 8) by omega, ↓reduceIte]
  by_cases c : (i : Int) < (x1.length : Int)
  · simp only [c, ↓reduceIte]; exact hE
  · simp only [c, ↓reduceIte]; exact hE
 | succ m ih =>
  intro i acc hi ha hn
  by_cases c : (i : Int) < (x1.length : Int)
  · have hil : i < x1.length := by omega
    have hb := ix _ (hx1 _ (List.getElem_mem hil)) l.length hn0
    have hr := rd_nat x1 i hil
    obtain ⟨g, es, hE, r⟩ := ih (i + 1) (acc ++ [Int.tmod (wrap64 x1[i]) (l.length : Int)]) (by omega) (by simp; omega) (fun x hx => by
     rcases List.mem_append.1 hx with hx | hx
     · exact hn x hx
     · rw [List.mem_singleton] at hx; subst hx; exact hb)
    refine ⟨g, es, Ev.step (fun k => by rw [scarfjointref18_Made.l0]) ?_, r⟩
    simp only [c, show (i : Int) < 8 by omega, show (0 : Int) ≤ (i : Int) by omega, show ¬ ((l.length : Int) = 0) by omega, show acc.length < 17592186044416 by omega, hr, ↓reduceIte]
    rw [w64 _ (by omega) (by omega)]
    exact hE
  · obtain ⟨g, es, hE, r⟩ := stop acc hn (by omega)
    refine ⟨g, es, Ev.step (fun k => by rw [scarfjointref18_Made.l0]) ?_, r⟩
    simp only [c, ↓reduceIte]; exact hE
end gmade
structure Mde (l : List S68) (l1 : List S71) (g : List Int) (es : List S39) : Prop where
 n0 : 0 < l.length
 n6 : l.length ≤ 6
 n5 : l1.length ≤ 5
 good : Good l
 small : Small l
 good1 : ∀ x ∈ l1, good71 x
 v : (validE l l1).2 = 0
 up : AllUp l
 g8 : g.length ≤ 8
 e12 : es.length ≤ 12
 t : Typd l l1 g es
theorem awake_ev7 : Ev (fun k => scarfjointlaw18_awake.f k) true := Ev.of (fun k => scarfjointlaw18_awake.mono k) (k := 60) (by kernel_rfl)
def ctE (P : Int → Bool) : List Int → Int
 | [] => 0
 | x :: g => (if P x = true then 1 else 0) + ctE P g
def totE (P : S88 → Bool) : List S88 → Int
 | [] => 0
 | y :: l => (if P y = true then y.f3 else 0) + totE P l
theorem ct_bound (P : Int → Bool) : ∀ g : List Int, 0 ≤ ctE P g ∧ ctE P g ≤ (g.length : Int)
 | [] => ⟨Int.le_refl _, Int.le_refl _⟩
 | x :: g => by
  have := ct_bound P g
  rw [ctE, List.length_cons]
  split <;> omega
theorem ct_congr {P Q : Int → Bool} : ∀ {g : List Int}, (∀ x ∈ g, P x = Q x) → ctE P g = ctE Q g
 | [], _ => rfl
 | x :: g, h => by rw [ctE, ctE, h x List.mem_cons_self, ct_congr (fun y hy => h y (List.mem_cons_of_mem _ hy))]
theorem tot_le {P Q : S88 → Bool} : ∀ {l : List S88}, (∀ y ∈ l, 1 ≤ y.f3) → (∀ y ∈ l, P y = true → Q y = true) → totE P l ≤ totE Q l
 | [], _, _ => Int.le_refl _
 | x :: l, hn, h => by
  have h1 := hn x List.mem_cons_self
  have h2 := h x List.mem_cons_self
  have ih := tot_le (l := l) (fun y hy => hn y (List.mem_cons_of_mem _ hy)) (fun y hy => h y (List.mem_cons_of_mem _ hy))
  rw [totE, totE]
  by_cases hp : P x = true
  · rw [if_pos hp, if_pos (h2 hp)]; omega
  · rw [if_neg hp]; split <;> omega
theorem sum_nn : ∀ (l : List S88), (∀ y ∈ l, 1 ≤ y.f3) → 0 ≤ sumE l
 | [], _ => Int.le_refl _
 | x :: l, h => by
  have := h x List.mem_cons_self
  have := sum_nn l (fun y hy => h y (List.mem_cons_of_mem _ hy))
  rw [sumE]; omega
theorem tot_add (P : Int → Bool) : ∀ (l : List S88) (x : S88), totE (fun y => P y.f0) (addE l x) = totE (fun y => P y.f0) l + (if P x.f0 = true then x.f3 else 0)
 | [], x => by simp [addE, totE]
 | y :: l, x => by
  unfold addE
  split
  · rw [totE, tot_add P l x, totE]; omega
  · split
    · next he =>
      have e0 := he.1
      split
      · next hz => rw [totE, e0]; split <;> omega
      · next hz =>
        rw [totE, totE]
        simp only [e0]
        split <;> omega
    · rw [totE]; omega
theorem tot_ns (P : Int → Bool) (g : List Int) : totE (fun y => P y.f0) (nsE g) = ctE P g := by
 have : ∀ (m i : Nat) (acc : List S88), i + m = g.length → totE (fun y => P y.f0) (accE (nkey g) m i acc) = totE (fun y => P y.f0) acc + ctE P (g.drop i) := by
  intro m
  induction m with
  | zero => intro i acc hi; rw [List.drop_eq_nil_of_le (by omega)]; show totE _ acc = _; rw [ctE]; omega
  | succ m ih =>
   intro i acc hi
   have hil : i < g.length := by omega
   rw [acc_succ, ih (i + 1) _ (by omega), tot_add, List.drop_eq_getElem_cons hil, ctE]
   unfold nkey
   rw [rd_nat _ _ hil]
   simp only
   omega
 have h := this g.length 0 [] (by omega)
 rw [List.drop_zero] at h
 unfold nsE
 rw [h, totE]; omega
section vals
variable (l : List S68) (l1 : List S71)
theorem nsum_tot (ns : List S88) (a : Int) (hn : ∀ y ∈ ns, 1 ≤ y.f3) : ∀ (m i : Nat) (x : Int), i + m = ns.length → 0 ≤ x → x + sumE (ns.drop i) ≤ 1000 → nSum l l1 ns a m i x = x + totE (fun y => isE l l1 y.f0 a) (ns.drop i)
 | 0, i, x, hi, _, _ => by rw [List.drop_eq_nil_of_le (by omega)]; show x = _; rw [totE]; omega
 | m + 1, i, x, hi, h0, hs => by
  have hil : i < ns.length := by omega
  have h1 := hn _ (List.getElem_mem hil)
  have hnn := sum_nn (ns.drop (i + 1)) (fun y hy => hn y (List.mem_of_mem_drop hy))
  rw [List.drop_eq_getElem_cons hil, sumE] at hs
  rw [nSum_succ, rd88_nat _ _ hil, List.drop_eq_getElem_cons hil, totE]
  split
  · rw [w64 _ (by omega) (by omega), nsum_tot ns a hn m (i + 1) _ (by omega) (by omega) (by omega)]; omega
  · rw [nsum_tot ns a hn m (i + 1) _ (by omega) h0 (by omega)]; omega
theorem esum_tot (es : List S88) (e a b : Int) (hn : ∀ y ∈ es, 1 ≤ y.f3) : ∀ (m i : Nat) (x : Int), i + m = es.length → 0 ≤ x → x + sumE (es.drop i) ≤ 1000 → eSum l l1 es e a b m i x = x + totE (eOk l l1 e a b) (es.drop i)
 | 0, i, x, hi, _, _ => by rw [List.drop_eq_nil_of_le (by omega)]; show x = _; rw [totE]; omega
 | m + 1, i, x, hi, h0, hs => by
  have hil : i < es.length := by omega
  have h1 := hn _ (List.getElem_mem hil)
  have hnn := sum_nn (es.drop (i + 1)) (fun y hy => hn y (List.mem_of_mem_drop hy))
  rw [List.drop_eq_getElem_cons hil, sumE] at hs
  rw [eSum_succ, rd88_nat _ _ hil, List.drop_eq_getElem_cons hil, totE]
  split
  · rw [w64 _ (by omega) (by omega), esum_tot es e a b hn m (i + 1) _ (by omega) (by omega) (by omega)]; omega
  · rw [esum_tot es e a b hn m (i + 1) _ (by omega) h0 (by omega)]; omega
end vals
def par (l : List S68) (x : Int) : Int := (rd_T68 l x).f1
section forest
variable {l : List S68} (hu : AllUp l) (h6 : l.length ≤ 6)
theorem isB_neg (l : List S68) (x i : Int) (h : x < 0) : isB l x i = false := by unfold isB; rw [chain_neg _ _ _ h]; rfl
include hu h6
theorem par_at {x : Int} (h0 : 0 ≤ x) (h1 : x < (l.length : Int)) : At l (par l x) ∧ par l x < x := up_at hu ⟨by omega, h1⟩ h0
theorem isB_step {x i : Int} (h0 : 0 ≤ x) (h1 : x < (l.length : Int)) : isB l x i = (x == i || isB l (par l x) i) := by
 obtain ⟨ha, hb⟩ := par_at hu h6 h0 h1
 unfold isB
 rw [chain_pos _ _ _ h0, List.any_cons]
 congr 1
 have : chain l 19 (par l x) = chain l 20 (par l x) := chain_fuel hu 19 20 _ ha (by omega) (by omega)
 unfold par at this
 rw [this]; rfl
theorem isB_par_le {x i : Int} (h0 : 0 ≤ x) (h1 : x < (l.length : Int)) (h : isB l (par l x) i = true) : i < x := by
 obtain ⟨ha, hb⟩ := par_at hu h6 h0 h1
 have := isB_le hu ha h
 omega
def chE (l : List S68) (q : Int → Bool) (x : Int) : Nat → Nat → Int
 | 0, _ => 0
 | m + 1, k => (if q (par l (k : Int)) = true then (if isB l x (k : Int) = true then 1 else 0) else 0) + chE l q x m (k + 1)
omit hu h6 in
theorem ch_neg (q : Int → Bool) (x : Int) (h : x < 0) : ∀ m k, chE l q x m k = 0
 | 0, _ => rfl
 | m + 1, k => by rw [chE, ch_neg q x h m, isB_neg _ _ _ h]; simp
theorem ch_step (q : Int → Bool) {x : Int} (h0 : 0 ≤ x) (h1 : x < (l.length : Int)) : ∀ (m k : Nat), chE l q x m k = chE l q (par l x) m k + (if (k : Int) ≤ x ∧ x < ((k + m : Nat) : Int) ∧ q (par l x) = true then 1 else 0)
 | 0, k => by
  rw [chE, chE, if_neg (by omega)]; rfl
 | m + 1, k => by
  rw [chE, chE, ch_step q h0 h1 m (k + 1), isB_step hu h6 h0 h1]
  by_cases hk : x = (k : Int)
  · have hb : isB l (par l x) (k : Int) = false := by
     rw [Bool.eq_false_iff]
     intro hh
     have := isB_par_le hu h6 h0 h1 hh
     omega
    have hx : (x == (k : Int)) = true := by rw [hk]; exact beq_self_eq_true _
    rw [hb, hx]
    simp only [Bool.or_false, ↓reduceIte, Bool.false_eq_true]
    rw [if_neg (show ¬ (((k + 1 : Nat) : Int) ≤ x ∧ x < ((k + 1 + m : Nat) : Int) ∧ q (par l x) = true) by omega)]
    rw [← hk]
    by_cases hq : q (par l x) = true
    · rw [if_pos hq, if_pos hq, if_pos ⟨by omega, by omega, hq⟩]; omega
    · rw [if_neg hq, if_neg hq, if_neg (fun hh => hq hh.2.2)]; omega
  · have hx : (x == (k : Int)) = false := beq_eq_false_iff_ne.2 hk
    rw [hx, Bool.false_or]
    by_cases hq : q (par l x) = true
    · by_cases hr : ((k + 1 : Nat) : Int) ≤ x ∧ x < ((k + 1 + m : Nat) : Int)
      · rw [if_pos (show ((k + 1 : Nat) : Int) ≤ x ∧ x < ((k + 1 + m : Nat) : Int) ∧ q (par l x) = true from ⟨hr.1, hr.2, hq⟩), if_pos (show (k : Int) ≤ x ∧ x < ((k + (m + 1) : Nat) : Int) ∧ q (par l x) = true from ⟨by omega, by omega, hq⟩)]; omega
      · rw [if_neg (show ¬ (((k + 1 : Nat) : Int) ≤ x ∧ x < ((k + 1 + m : Nat) : Int) ∧ q (par l x) = true) from fun hh => hr ⟨hh.1, hh.2.1⟩), if_neg (show ¬ ((k : Int) ≤ x ∧ x < ((k + (m + 1) : Nat) : Int) ∧ q (par l x) = true) from fun hh => hr ⟨by omega, by omega⟩)]; omega
    · rw [if_neg (show ¬ (((k + 1 : Nat) : Int) ≤ x ∧ x < ((k + 1 + m : Nat) : Int) ∧ q (par l x) = true) from fun hh => hq hh.2.2), if_neg (show ¬ ((k : Int) ≤ x ∧ x < ((k + (m + 1) : Nat) : Int) ∧ q (par l x) = true) from fun hh => hq hh.2.2)]; omega
theorem kids {i : Int} (hi : 0 ≤ i) : ∀ (n : Nat) (x : Int), x < (n : Int) → At l x → (if isB l x i = true then (1 : Int) else 0) = (if x = i then 1 else 0) + chE l (fun p => p == i) x l.length 0
 | n, x, hx, ha => by
  rcases Int.lt_or_le x 0 with hc | hc
  · rw [isB_neg _ _ _ hc, ch_neg _ _ hc, if_neg (by omega : ¬ x = i)]; simp
  · cases n with
    | zero => omega
    | succ n =>
     obtain ⟨hp, hl⟩ := par_at hu h6 hc ha.2
     have ih := kids hi n (par l x) (by omega) hp
     have hs := ch_step hu h6 (fun p => p == i) hc ha.2 l.length 0
     rw [hs, isB_step hu h6 hc ha.2]
     have h2 := ha.2
     by_cases hxi : x = i
     · have hb : isB l (par l x) i = false := by
        rw [Bool.eq_false_iff]
        intro hh
        have := isB_par_le hu h6 hc ha.2 hh
        omega
       have hpi : ¬ (par l x = i) := by omega
       rw [hb] at ih ⊢
       simp only [hpi, Bool.false_eq_true, ↓reduceIte] at ih
       have hx1 : (x == i) = true := by rw [hxi]; exact beq_self_eq_true _
       have hx2 : (par l x == i) = false := beq_eq_false_iff_ne.2 hpi
       simp only [hx1, hx2, Bool.true_or, ↓reduceIte, Bool.false_eq_true, and_false, if_pos hxi]
       omega
     · have hx1 : (x == i) = false := beq_eq_false_iff_ne.2 hxi
       rw [hx1, Bool.false_or, if_neg hxi, ih]
       by_cases hpi : par l x = i
       · have hx2 : (par l x == i) = true := by rw [hpi]; exact beq_self_eq_true _
         rw [if_pos hpi, if_pos ⟨by omega, by omega, hx2⟩]; omega
       · have hx2 : (par l x == i) = false := beq_eq_false_iff_ne.2 hpi
         rw [if_neg hpi, if_neg (fun hh => by rw [hx2] at hh; exact absurd hh.2.2 (by decide))]; omega
theorem roots : ∀ (n : Nat) (x : Int), x < (n : Int) → At l x → 0 ≤ x → chE l (fun p => decide (p < 0)) x l.length 0 = 1
 | 0, x, hx, ha, h0 => by omega
 | n + 1, x, hx, ha, h0 => by
  obtain ⟨hp, hl⟩ := par_at hu h6 h0 ha.2
  have h2 := ha.2
  rw [ch_step hu h6 _ h0 ha.2]
  by_cases hn : par l x < 0
  · rw [ch_neg _ _ hn, if_pos ⟨by omega, by omega, decide_eq_true hn⟩]; rfl
  · rw [roots n (par l x) (by omega) hp (by omega), if_neg (fun hh => hn (of_decide_eq_true hh.2.2))]; rfl
def sE2 (l : List S68) (g : List Int) (q : Int → Bool) : Nat → Nat → Int
 | 0, _ => 0
 | m + 1, k => (if q (par l (k : Int)) = true then ctE (fun t => isB l t (k : Int)) g else 0) + sE2 l g q m (k + 1)
omit hu h6 in
theorem s2_nil (q : Int → Bool) : ∀ m k, sE2 l [] q m k = 0
 | 0, _ => rfl
 | m + 1, k => by rw [sE2, s2_nil q m]; simp [ctE]
omit hu h6 in
theorem s2_cons (q : Int → Bool) (x : Int) (g : List Int) : ∀ m k, sE2 l (x :: g) q m k = chE l q x m k + sE2 l g q m k
 | 0, _ => rfl
 | m + 1, k => by
  rw [sE2, sE2, chE, s2_cons q x g m]
  split
  · rw [ctE]; omega
  · omega
omit hu h6 in
theorem s2_nn (q : Int → Bool) (g : List Int) : ∀ m k, 0 ≤ sE2 l g q m k
 | 0, _ => Int.le_refl _
 | m + 1, k => by
  have := s2_nn q g m (k + 1)
  have := (ct_bound (fun t => isB l t (k : Int)) g).1
  rw [sE2]
  split <;> omega
theorem sums_kids {i : Int} (hi : 0 ≤ i) : ∀ (g : List Int), (∀ x ∈ g, 0 ≤ x ∧ x < (l.length : Int)) → ctE (fun t => isB l t i) g = ctE (fun t => t == i) g + sE2 l g (fun p => p == i) l.length 0
 | [], _ => by rw [s2_nil]; rfl
 | x :: g, h => by
  have hx := h x List.mem_cons_self
  have k := kids hu h6 hi l.length x hx.2 ⟨by omega, hx.2⟩
  rw [ctE, ctE, s2_cons, sums_kids hi g (fun y hy => h y (List.mem_cons_of_mem _ hy)), k]
  have e : (if (x == i) = true then (1 : Int) else 0) = (if x = i then 1 else 0) := by
   by_cases hxi : x = i
   · rw [if_pos hxi, if_pos (by rw [hxi]; exact beq_self_eq_true _)]
   · rw [if_neg hxi, if_neg (by simpa using hxi)]
  rw [e]; omega
theorem sums_roots : ∀ (g : List Int), (∀ x ∈ g, 0 ≤ x ∧ x < (l.length : Int)) → sE2 l g (fun p => decide (p < 0)) l.length 0 = (g.length : Int)
 | [], _ => by rw [s2_nil]; rfl
 | x :: g, h => by
  have hx := h x List.mem_cons_self
  rw [s2_cons, sums_roots g (fun y hy => h y (List.mem_cons_of_mem _ hy)), roots hu h6 l.length x hx.2 ⟨by omega, hx.2⟩ hx.1, List.length_cons]; omega
end forest
section law
variable {l : List S68} {l1 : List S71} {g : List Int} {es : List S39} (M : Mde l l1 g es) (hE : MadeE l.length l1) (hN : MadeN l)
include M hE hN
theorem nodes_at (i : Int) (h0 : 0 ≤ i) (h1 : i < (l.length : Int)) : Ev (fun k => statistic_Nodes.f k l l1 (nsE g) (esE g es) i) (ctE (fun t => isB l t i) g, 0) := by
 have n6 := M.n6
 have n5 := M.n5
 have g8 := M.g8
 have e12 := M.e12
 have t0 := typd_zero M.v (by omega) (by omega) (by omega) (by omega) M.t
 have G0 := typd_graph (by omega) (by omega) (by omega) (by omega) M.t
 have an := ns_acc G0
 have ae := es_acc G0
 have v0 := of_valid t0
 have hn := Nodes_ev l l1 M.good M.small M.good1 (by omega) (nsE g) (esE g es) (by have := an.len; omega) (by have := ae.len; omega) i
 unfold nodesV at hn
 rw [if_pos v0, if_pos (by simp [isIn, h0, h1])] at hn
 have hs := nsum_tot l l1 (nsE g) i (fun y hy => (an.cnt.num y hy).1) (nsE g).length 0 0 (by omega) (Int.le_refl _) (by rw [List.drop_zero, an.sum]; omega)
 rw [List.drop_zero, tot_ns (fun t => isE l l1 t i) g, ct_congr (fun x hx => isE_isB M.v (M.t.n x hx) ⟨h0, h1⟩)] at hs
 rw [hs] at hn
 simpa using hn
theorem edges_at (e a b : Int) (he : 0 ≤ e ∧ e < (l1.length : Int)) (ha : 0 ≤ a ∧ a < (l.length : Int)) (hb : 0 ≤ b ∧ b < (l.length : Int)) : Ev (fun k => statistic_Edges.f k l l1 (nsE g) (esE g es) e a b) (totE (eOk l l1 e a b) (esE g es), 0) := by
 have n6 := M.n6
 have n5 := M.n5
 have g8 := M.g8
 have e12 := M.e12
 have t0 := typd_zero M.v (by omega) (by omega) (by omega) (by omega) M.t
 have G0 := typd_graph (by omega) (by omega) (by omega) (by omega) M.t
 have an := ns_acc G0
 have ae := es_acc G0
 have v0 := of_valid t0
 have hn := Edges_ev l l1 M.good M.small M.good1 (by omega) (nsE g) (esE g es) (by have := an.len; omega) (by have := ae.len; omega) e a b
 unfold edgesV at hn
 rw [if_pos v0, if_pos (by simp [isIn, he.1, he.2, ha.1, ha.2, hb.1, hb.2])] at hn
 have hs := esum_tot l l1 (esE g es) e a b (fun y hy => (ae.cnt.num y hy).1) (esE g es).length 0 0 (by omega) (Int.le_refl _) (by rw [List.drop_zero, ae.sum]; omega)
 rw [List.drop_zero] at hs
 rw [hs] at hn
 simpa using hn
theorem edges_mono (e a b : Int) (ha : 0 ≤ a ∧ a < (l.length : Int)) (hp : 0 ≤ par l a) : totE (eOk l l1 e a b) (esE g es) ≤ totE (eOk l l1 e (par l a) b) (esE g es) := by
 have n6 := M.n6
 have g8 := M.g8
 have e12 := M.e12
 have n5 := M.n5
 have G0 := typd_graph (by omega) (by omega) (by omega) (by omega) M.t
 have ae := es_acc G0
 have hpa := par_at M.up M.n6 ha.1 ha.2
 refine tot_le (fun y hy => (ae.cnt.num y hy).1) (fun y hy h => ?_)
 obtain ⟨j, hj, hk⟩ := ae.of y hy
 have hin := M.t.e _ (List.getElem_mem (by omega : j < es.length))
 have hr := rd_in M.t.n _ hin.2.1.1 hin.2.1.2
 have hy1 : 0 ≤ y.f1 ∧ y.f1 < (l.length : Int) := by
  have := hk.2.1
  unfold ekey at this
  simp only at this
  rw [rd39_nat _ _ (by omega)] at this
  rw [this]; exact hr
 unfold eOk at h ⊢
 rw [Bool.and_eq_true, Bool.and_eq_true] at h ⊢
 refine ⟨h.1, ?_, h.2.2⟩
 have h1 := h.2.1
 rw [isE_isB M.v hy1 ha] at h1
 rw [isE_isB M.v hy1 ⟨hp, hpa.1.2⟩]
 have hpp : isB l a (par l a) = true := by
  rw [isB_step M.up M.n6 ha.1 ha.2, isB_refl l _ hp, Bool.or_true]
 exact isB_trans M.up (by omega) ⟨by omega, hy1.2⟩ h1 hpp
theorem law_edges (i : Int) (x7 : Int) (x0 : ByteArray) (x2 : Bool) (x3 : List S77) (hi : 0 ≤ i ∧ i < (l.length : Int)) (hp : 0 ≤ par l i)
 (next : Ev (fun k => scarfjointlaw18_StatisticSums.l0 k x7 l (l.length : Int) (wrap64 (i + 1)) l l1 g es (nsE g) (esE g es)) true) : ∀ (m j : Nat), j + m = l1.length →
 Ev (fun k => scarfjointlaw18_StatisticSums.l3 k x7 i l (l.length : Int) i l1 (l1.length : Int) (j : Int) l l1 g es (nsE g) (esE g es) x0 (par l i) x2 x3) true
 | 0, j, hj => by
  refine Ev.step (fun k => by rw [scarfjointlaw18_StatisticSums.l3]) ?_
  simp only [show ¬ ((j : Int) < (l1.length : Int)) by omega, ↓reduceIte]
  exact next
 | m + 1, j, hj => by
  have hjl : j < l1.length := by omega
  have n5 := M.n5
  have ends := (hE.2 j hjl).2.2.1
  have hpa := par_at M.up M.n6 hi.1 hi.2
  refine Ev.step (fun k => by rw [scarfjointlaw18_StatisticSums.l3]) ?_
  simp only [show ((j : Int) < (l1.length : Int)) by omega, show (0 : Int) ≤ (j : Int) by omega, ↓reduceIte]
  refine Ev.bind (edges_at M hE hN (j : Int) i _ ⟨by omega, by omega⟩ hi ends) ?_
  refine Ev.bind (edges_at M hE hN (j : Int) (par l i) _ ⟨by omega, by omega⟩ ⟨hp, hpa.1.2⟩ ends) ?_
  have hle := edges_mono M hE hN (j : Int) i (rd_T71 l1 (j : Int)).f2 hi hp
  simp only [↓reduceIte, show ¬ (totE (eOk l l1 (j : Int) i (rd_T71 l1 (j : Int)).f2) (esE g es) > totE (eOk l l1 (j : Int) (par l i) (rd_T71 l1 (j : Int)).f2) (esE g es)) by omega]
  rw [w64 _ (by omega) (by omega)]
  exact law_edges i x7 x0 x2 x3 hi hp next m (j + 1) (by omega)
theorem law_kids (i : Int) (x7 n : Int) (x0 : ByteArray) (x1 : Int) (x2 : Bool) (x3 : List S77) (hi : 0 ≤ i ∧ i < (l.length : Int))
 (next : Ev (fun k => scarfjointlaw18_StatisticSums.j3 k x7 i n l (l.length : Int) i false l l1 g es (nsE g) (esE g es) x0 x1 x2 x3) true) : ∀ (m j : Nat) (s : Int), j + m = l.length → 0 ≤ s → s + sE2 l g (fun p => p == i) m j = n → n ≤ 1000 →
 Ev (fun k => scarfjointlaw18_StatisticSums.l2 k x7 i n 0 s l (l.length : Int) i l (l.length : Int) (j : Int) l l1 g es (nsE g) (esE g es) x0 x1 x2 x3) true
 | 0, j, s, hj, hs, he, hn => by
  refine Ev.step (fun k => by rw [scarfjointlaw18_StatisticSums.l2]) ?_
  have e : s = n := by rw [sE2] at he; omega
  have hb : (n != s) = false := by rw [e]; exact bne_self_eq_false _
  simp only [show ¬ ((j : Int) < (l.length : Int)) by omega, ↓reduceIte, hb]
  exact next
 | m + 1, j, s, hj, hs, he, hn => by
  have n6 := M.n6
  have nn := s2_nn (l := l) (fun p => p == i) g m (j + 1)
  have cb := ct_bound (fun t => isB l t (j : Int)) g
  rw [sE2] at he
  refine Ev.step (fun k => by rw [scarfjointlaw18_StatisticSums.l2]) ?_
  simp only [show ((j : Int) < (l.length : Int)) by omega, show (0 : Int) ≤ (j : Int) by omega, ↓reduceIte]
  by_cases hpi : (rd_T68 l (j : Int)).f1 = i
  · have hq : (par l (j : Int) == i) = true := by unfold par; rw [hpi]; exact beq_self_eq_true _
    rw [if_pos hq] at he
    simp only [hpi, ↓reduceIte]
    refine Ev.bind (nodes_at M hE hN (j : Int) (by omega) (by omega)) ?_
    simp only [↓reduceIte]
    rw [w64 ((j : Int) + 1) (by omega) (by omega), w64 _ (by omega) (by omega)]
    exact law_kids i x7 n x0 x1 x2 x3 hi next m (j + 1) _ (by omega) (by omega) (by omega) hn
  · have hq : (par l (j : Int) == i) = false := beq_eq_false_iff_ne.2 hpi
    rw [hq] at he
    simp only [Bool.false_eq_true, ↓reduceIte] at he
    simp only [hpi, ↓reduceIte]
    rw [w64 ((j : Int) + 1) (by omega) (by omega)]
    exact law_kids i x7 n x0 x1 x2 x3 hi next m (j + 1) s (by omega) hs (by omega) hn
theorem law_own (i : Int) (x7 n : Int) (x0 : ByteArray) (x1 : Int) (x2 : Bool) (x3 : List S77) (hi : 0 ≤ i ∧ i < (l.length : Int))
 (next : Ev (fun k => scarfjointlaw18_StatisticSums.j3 k x7 i n l (l.length : Int) i false l l1 g es (nsE g) (esE g es) x0 x1 x2 x3) true) (hn : n ≤ 1000) : ∀ (m j : Nat) (s : Int), j + m = g.length → 0 ≤ s → s + ctE (fun t => t == i) (g.drop j) + sE2 l g (fun p => p == i) l.length 0 = n →
 Ev (fun k => scarfjointlaw18_StatisticSums.l1 k x7 i n 0 s l (l.length : Int) i g (g.length : Int) (j : Int) l l1 g es (nsE g) (esE g es) x0 x1 x2 x3) true
 | 0, j, s, hj, hs, he => by
  refine Ev.step (fun k => by rw [scarfjointlaw18_StatisticSums.l1]) ?_
  rw [List.drop_eq_nil_of_le (by omega), ctE] at he
  simp only [show ¬ ((j : Int) < (g.length : Int)) by omega, ↓reduceIte]
  exact law_kids M hE hN i x7 n x0 x1 x2 x3 hi next l.length 0 s (by omega) hs (by omega) hn
 | m + 1, j, s, hj, hs, he => by
  have g8 := M.g8
  have hjl : j < g.length := by omega
  have nn := s2_nn (l := l) (fun p => p == i) g l.length 0
  have cb := ct_bound (fun t => t == i) (g.drop (j + 1))
  rw [List.drop_eq_getElem_cons hjl, ctE] at he
  refine Ev.step (fun k => by rw [scarfjointlaw18_StatisticSums.l1]) ?_
  simp only [show ((j : Int) < (g.length : Int)) by omega, show (0 : Int) ≤ (j : Int) by omega, ↓reduceIte, rd_nat g j hjl]
  by_cases hx : g[j] = i
  · have hq : (g[j] == i) = true := by rw [hx]; exact beq_self_eq_true _
    rw [if_pos hq] at he
    simp only [hx, ↓reduceIte]
    rw [w64 ((j : Int) + 1) (by omega) (by omega), w64 _ (by omega) (by omega)]
    exact law_own i x7 n x0 x1 x2 x3 hi next hn m (j + 1) _ (by omega) (by omega) (by omega)
  · have hq : (g[j] == i) = false := beq_eq_false_iff_ne.2 hx
    rw [hq] at he
    simp only [Bool.false_eq_true, ↓reduceIte] at he
    simp only [hx, ↓reduceIte]
    rw [w64 ((j : Int) + 1) (by omega) (by omega)]
    exact law_own i x7 n x0 x1 x2 x3 hi next hn m (j + 1) s (by omega) hs (by omega)
theorem law_types : ∀ (m i : Nat) (x7 : Int), i + m = l.length → 0 ≤ x7 → x7 + sE2 l g (fun p => decide (p < 0)) m i = (g.length : Int) →
 Ev (fun k => scarfjointlaw18_StatisticSums.l0 k x7 l (l.length : Int) (i : Int) l l1 g es (nsE g) (esE g es)) true
 | 0, i, x7, hi, h0, he => by
  refine Ev.step (fun k => by rw [scarfjointlaw18_StatisticSums.l0]) ?_
  rw [sE2] at he
  have hx : (x7 == (g.length : Int)) = true := by rw [← he]; simp
  simp only [show ¬ ((i : Int) < (l.length : Int)) by omega, ↓reduceIte, hx]
  exact Ev.now _
 | m + 1, i, x7, hi, h0, he => by
  have n6 := M.n6
  have g8 := M.g8
  have hil : (0 : Int) ≤ (i : Int) ∧ (i : Int) < (l.length : Int) := ⟨by omega, by omega⟩
  have cb := ct_bound (fun t => isB l t (i : Int)) g
  have nn := s2_nn (l := l) (fun p => decide (p < 0)) g m (i + 1)
  have sk := sums_kids M.up M.n6 hil.1 g M.t.n
  rw [sE2] at he
  refine Ev.step (fun k => by rw [scarfjointlaw18_StatisticSums.l0]) ?_
  simp only [hil.1, hil.2, ↓reduceIte]
  refine Ev.bind (nodes_at M hE hN (i : Int) hil.1 hil.2) ?_
  refine law_own M hE hN (i : Int) x7 _ _ _ _ _ hil ?_ (by omega) g.length 0 0 (by omega) (Int.le_refl _) (by rw [List.drop_zero]; omega)
  refine Ev.step (fun k => by rw [scarfjointlaw18_StatisticSums.j3]) ?_
  simp only [Bool.false_eq_true, ↓reduceIte]
  have w1 : wrap64 ((i : Int) + 1) = ((i + 1 : Nat) : Int) := by rw [w64 _ (by omega) (by omega)]; omega
  by_cases hp : par l (i : Int) < 0
  · have hp' := hp
    unfold par at hp'
    rw [if_pos (decide_eq_true hp)] at he
    simp only [hp', ↓reduceIte]
    rw [w1, w64 _ (by omega) (by omega)]
    exact law_types m (i + 1) _ (by omega) (by omega) (by omega)
  · have hp' := hp
    unfold par at hp'
    rw [if_neg (by simpa using hp)] at he
    simp only [hp', ↓reduceIte]
    refine law_edges M hE hN (i : Int) x7 _ _ _ hil (by omega) ?_ l1.length 0 (by omega)
    rw [w1]
    exact law_types m (i + 1) x7 (by omega) h0 (by omega)
end law
theorem lmade_ev2 (x0 x0' : List S81) (x1 : List Int) (x2 : List S35) (h0 : x0.length ≤ reachBytes ∧ ∀ x ∈ x0, good81 x) (h0' : x0'.length ≤ reachBytes ∧ ∀ x ∈ x0', good81 x) (h1 : x1.length ≤ reachBytes ∧ ∀ x ∈ x1, (Lit.int .u8 x).wf = true) (h2 : x2.length ≤ reachBytes ∧ ∀ x ∈ x2, good35 x) :
 ∃ l l1 g es, Ev (fun k => scarfjointlaw18_made.f k x0 x0' x1 x2) (l, l1, g, es) ∧ Mde l l1 g es ∧ MadeE l.length l1 ∧ MadeN l := by
 obtain ⟨⟨l, l1⟩, hM, hN, hE⟩ := Made_ev x0 x0' h0.2 h0'.2 h0.1 h0'.1
 have hg := made_good hN
 have hsm := made_small hN
 have h1g := made_good1 hN hE
 have h5 : l1.length ≤ 5 := hE.1
 obtain ⟨g, es, hE', h8, h12, hT⟩ := gmade_nodes l l1 hg hsm h1g (by omega) hN.1 x1 x2 h1.2 h2.2 h1.1 h2.1 8 0 [] (by omega) rfl (fun x hx => (List.not_mem_nil hx).elim)
 refine ⟨l, l1, g, es, ?_, { n0 := hN.1, n6 := hN.2.1, n5 := hE.1, good := hg, small := hsm, good1 := h1g, v := made_valid hN hE, up := made_up hN, g8 := h8, e12 := h12, t := hT }, hE, hN⟩
 unfold scarfjointlaw18_made.f
 refine Ev.bind hM ?_
 exact Ev.bind hE' (Ev.now _)
theorem StatisticSums_pure : ∀ (l0_0 : List S81) (l0_1 : List S81) (l0_2 : List Int) (l0_3 : List S35), (l0_0.length ≤ reachBytes ∧ ∀ x_ ∈ l0_0, good81 x_) → (l0_1.length ≤ reachBytes ∧ ∀ x_ ∈ l0_1, good81 x_) → (l0_2.length ≤ reachBytes ∧ ∀ x_ ∈ l0_2, (Lit.int .u8 x_).wf = true) → (l0_3.length ≤ reachBytes ∧ ∀ x_ ∈ l0_3, good35 x_) → ∃ k, scarfjointlaw18_StatisticSums.f k l0_0 l0_1 l0_2 l0_3 = some true := by
 intro x0 x1 x2 x3 h0 h1 h2 h3
 obtain ⟨l, l1, g, es, hM, M, hE, hN⟩ := lmade_ev2 x0 x1 x2 x3 h0 h1 h2 h3
 have n6 := M.n6
 have n5 := M.n5
 have g8 := M.g8
 have e12 := M.e12
 have t0 := typd_zero M.v (by omega) (by omega) (by omega) (by omega) M.t
 have o0 := of_ev l l1 M.good M.small M.good1 (by omega) g es
 unfold ofE at o0
 rw [if_pos t0] at o0
 refine Ev.rounds ?_
 unfold scarfjointlaw18_StatisticSums.f
 refine Ev.bind awake_ev7 ?_
 simp only [↓reduceIte]
 refine Ev.bind hM ?_
 refine Ev.bind o0 ?_
 simp only [↓reduceIte]
 exact law_types M hE hN l.length 0 0 (by omega) (Int.le_refl _) (by rw [sums_roots M.up M.n6 g M.t.n]; omega)
end Go.Proofs.Ytfpianecohobjaa.P
