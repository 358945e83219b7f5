/- StatisticOf: a part of its proof. No condition. -/
import Derived.Test.YtfpianecohobjaaVR0
import Derived.Test.YtfpianecohobjaaVH0
import Derived.Test.YtfpianecohobjaaVPx14
import Derived.Test.YtfpianecohobjaaVPx15
import Derived.Test.YtfpianecohobjaaVPx16
import Derived.Test.YtfpianecohobjaaVPx2
import Derived.Test.YtfpianecohobjaaVPx3
import Derived.Test.YtfpianecohobjaaVPx12
import Derived.Test.YtfpianecohobjaaVPx13
import Derived.Test.YtfpianecohobjaaVPx17
import Derived.Test.YtfpianecohobjaaVPx18
import Derived.Test.YtfpianecohobjaaVPx4
import Derived.Test.YtfpianecohobjaaVPx5
import Derived.Test.YtfpianecohobjaaVPx6
import Derived.Test.YtfpianecohobjaaVPx10
import Derived.Test.YtfpianecohobjaaVPx19
import Derived.Test.YtfpianecohobjaaVPx7
import Derived.Test.YtfpianecohobjaaVPx20
import Derived.Test.YtfpianecohobjaaVPx21
import Derived.Test.YtfpianecohobjaaVPx22
import Derived.Test.YtfpianecohobjaaVPx8
import Derived.Test.YtfpianecohobjaaVPx9
import Derived.Test.YtfpianecohobjaaVPx27
import Derived.Test.YtfpianecohobjaaVPx28
namespace Go.Proofs.Ytfpianecohobjaa.P
open Go.RowKit Go.Proofs.YtfpianecohobjaaW.PrintWords Go.Proofs.YtfpianecohobjaaW.PrintLast
set_option maxRecDepth 100000
set_option linter.unusedVariables false
set_option linter.unusedSimpArgs false
theorem w64 (n : Int) (h0 : -9223372036854775808 ≤ n) (h1 : n ≤ 9223372036854775807) : wrap64 n = n := by unfold wrap64; omega
theorem toList_loop (s : ByteArray) : ∀ (m i : Nat) (r : List UInt8), i + m = s.size → ByteArray.toList.loop s i r = r.reverse ++ s.data.toList.drop i
 | 0, i, r, h => by
  rw [ByteArray.toList.loop]
  rw [if_neg (by omega)]
  have : s.data.toList.drop i = [] := List.drop_eq_nil_of_le (by have : s.size = s.data.size := rfl; simp; omega)
  rw [this]; simp
 | m + 1, i, r, h => by
  rw [ByteArray.toList.loop]
  have hs : s.size = s.data.size := rfl
  rw [if_pos (by omega), toList_loop s m (i + 1) _ (by omega)]
  have hi : i < s.data.toList.length := by simp; omega
  rw [List.drop_eq_getElem_cons hi]
  simp [ByteArray.get!]
  rw [getElem!_pos s.data i (by omega)]
theorem toList_data (s : ByteArray) : s.toList = s.data.toList := by
 have := toList_loop s s.size 0 [] (by omega)
 simpa [ByteArray.toList] using this
theorem toList_nil (s : ByteArray) : s.toList = [] ↔ s.size = 0 := by
 rw [toList_data]
 have hs : s.size = s.data.toList.length := by simp
 rw [hs, List.length_eq_zero_iff]
theorem bt_data (s : ByteArray) (i : Nat) (hi : i < s.data.toList.length) : bt s (i : Int) = ((s.data.toList[i]).toNat : Int) := by
 have hs : i < s.size := by simpa using hi
 unfold bt
 rw [dif_pos (show ((i : Int)).toNat < s.size by simpa using hs)]
 rfl
def nameB (s : ByteArray) : Bool := decide (0 < s.size) && (letterB (bt s 0) && (decide (runOf partB s.data.toList = s.size) && decide (s.size ≤ 20)))
theorem letter_f (x : Int) : token_letter.f x = some (letterB x) := by
 unfold token_letter.f letterB
 by_cases h1 : x ≥ 97 <;> by_cases h2 : x ≤ 122 <;> by_cases h3 : x ≥ 65 <;> by_cases h4 : x ≤ 90 <;> simp only [h1, h2, h3, h4, ↓reduceIte, ge_iff_le, decide_true, decide_false, Bool.true_and, Bool.false_and, Bool.or_true, Bool.true_or, Bool.or_false, Bool.and_true, Bool.and_false] <;> simp [show 97 ≤ x ↔ x ≥ 97 from Iff.rfl, show 65 ≤ x ↔ x ≥ 65 from Iff.rfl, h1, h3] <;> omega
theorem letter_r (x : Int) : q1_letter.f x = some (letterB x) := letter_f x
theorem digit_f (x : Int) : token_digit.f x = some (digitB x) := by
 unfold token_digit.f digitB
 split <;> simp <;> omega
theorem digit_r (x : Int) : q1_digit.f x = some (digitB x) := digit_f x
theorem Index_ev (l : List ByteArray) (a : ByteArray) (hl : l.length ≤ 9223372036854775807) : ∀ (m i : Nat), i + m = l.length →
 ∃ r, Ev (fun k => slices_Index_string_string.l0 k l a (l.length : Int) (i : Int)) r ∧ decide (r ≥ 0) = (l.drop i).any (fun x => x.toList == a.toList)
 | 0, i, h => ⟨-1, Ev.step (fun k => by rw [slices_Index_string_string.l0]) (by simp only [show ¬ ((i : Int) < (l.length : Int)) by omega, ↓reduceIte]; exact Ev.now _), by
  rw [List.drop_eq_nil_of_le (by omega)]; rfl⟩
 | m + 1, i, h => by
  have hi : i < l.length := by omega
  have hd := List.drop_eq_getElem_cons hi
  have hr : rdOf ByteArray.empty l (i : Int) = l[i] := by unfold rdOf; simp [hi]
  by_cases he : a.toList = (l[i]).toList
  · refine ⟨(i : Int), Ev.step (fun k => by rw [slices_Index_string_string.l0]) ?_, ?_⟩
    · simp only [hr, show ((i : Int) < (l.length : Int)) by omega, show (0 : Int) ≤ (i : Int) by omega, he, if_true, ↓reduceIte]; exact Ev.now _
    · rw [hd, List.any_cons, he]; simp
  · obtain ⟨r, hr', hp⟩ := Index_ev l a hl m (i + 1) (by omega)
    refine ⟨r, Ev.step (fun k => by rw [slices_Index_string_string.l0]) ?_, ?_⟩
    · simp only [hr, show ((i : Int) < (l.length : Int)) by omega, show (0 : Int) ≤ (i : Int) by omega, he, if_true, if_false, ↓reduceIte]
      rw [w64 _ (by omega) (by omega)]; exact hr'
    · rw [hd, hp, List.any_cons]
      have : ((l[i]).toList == a.toList) = false := by simpa using fun h => he h.symm
      rw [this]; rfl
theorem Contains_ev (l : List ByteArray) (a : ByteArray) (hl : l.length ≤ 9223372036854775807) : Ev (fun k => slices_Contains_string_string.f k l a) (l.any (fun x => x.toList == a.toList)) := by
 obtain ⟨r, hr, hp⟩ := Index_ev l a hl l.length 0 (by omega)
 unfold slices_Contains_string_string.f slices_Index_string_string.f
 refine Ev.bind hr ?_
 rw [hp]; exact Ev.now _
theorem quoted_j (n : Int) (b : Bool) : ∃ r, Ev (fun k => token_quoted.j0 k n b) r := by
 cases b
 · by_cases h : n > 60
   · refine ⟨(0, 3), Ev.step (fun k => by rw [token_quoted.j0]) ?_⟩
     simp only [Bool.false_eq_true, ↓reduceIte, h]; exact Ev.now _
   · refine ⟨(wrap64 (n + 2), 0), Ev.step (fun k => by rw [token_quoted.j0]) ?_⟩
     simp only [Bool.false_eq_true, ↓reduceIte, h]; exact Ev.now _
 · refine ⟨(0, 2), Ev.step (fun k => by rw [token_quoted.j0]) ?_⟩
   simp only [↓reduceIte]; exact Ev.now _
theorem quoted_run (s : ByteArray) (h0 : 0 < s.size) (hs : s.size ≤ 9223372036854775807) : ∃ n : Nat, token_run_quoted.f (s.extract 1 s.size) = some (n : Int) ∧ n ≤ s.size - 1 := by
 have he : (s.extract 1 s.size).size = s.size - 1 := by simp
 have h2 : (s.extract 1 s.size).data.toList.length = (s.extract 1 s.size).size := by simp
 have hle := runOf_le quoteB (s.extract 1 s.size).data.toList
 generalize s.extract 1 s.size = u at he h2 hle
 refine ⟨runOf quoteB u.data.toList, ?_, by omega⟩
 unfold token_run_quoted.f
 rw [if_pos (by omega)]
theorem quoted_ev (s : ByteArray) (h0 : 0 < s.size) (hs : s.size ≤ 9223372036854775807) : ∃ r, Ev (fun k => token_quoted.f k s) r := by
 obtain ⟨n, hr, hle⟩ := quoted_run s h0 hs
 have hw := w64 (1 + (n : Int)) (by omega) (by omega)
 by_cases hc : 1 + (n : Int) = (s.size : Int)
 · obtain ⟨r, hj⟩ := quoted_j (n : Int) true
   refine ⟨r, Ev.congr (fun k => ?_) hj⟩
   unfold token_quoted.f
   rw [if_pos (by omega), hr, Option.bind_some, hw, if_pos hc]
 · obtain ⟨r, hj⟩ := quoted_j (n : Int) (bt s (1 + (n : Int)) != 34)
   refine ⟨r, Ev.congr (fun k => ?_) hj⟩
   unfold token_quoted.f
   rw [if_pos (by omega), hr, Option.bind_some, hw, if_neg hc, if_pos (by omega), if_pos (by omega)]
theorem IsName_ev (s : ByteArray) (hs : s.size ≤ 9223372036854775807) : Ev (fun k => token_IsName.f k s) (nameB s) := by
 unfold token_IsName.f token_whole.f
 simp only [show ¬ ((1 : Int) = 3) by decide, if_false, ↓reduceIte]
 by_cases h0 : s.toList = []
 · have h1 := (toList_nil s).mp h0
   simp only [h0, ↓reduceIte, Option.bind_some]
   have : nameB s = false := by unfold nameB; simp [h1]
   rw [this]; exact Ev.now _
 · have h1 : 0 < s.size := Nat.pos_of_ne_zero fun h => h0 ((toList_nil s).mpr h)
   simp only [h0, ↓reduceIte]
   have key : ∃ r : Int × Int × Int, Ev (fun k => token_next.f k s) r ∧ ((r.2.2 ≠ 0 ∨ r.1 ≠ 1) ∧ nameB s = false ∨ (r.2.2 = 0 ∧ r.1 = 1 ∧ nameB s = (r.2.1 == (s.size : Int)))) := by
    unfold token_next.f
    simp only [show (0 : Int) < (s.size : Int) by omega, ↓reduceIte, letter_f, digit_f, Option.bind_some]
    cases hl : letterB (bt s 0)
    · have hn : nameB s = false := by unfold nameB; simp [hl]
      simp only [Bool.false_eq_true, ↓reduceIte]
      cases hd : digitB (bt s 0)
      · simp only [Bool.false_eq_true, ↓reduceIte]
        by_cases hq : bt s 0 = 34
        · simp only [hq, ↓reduceIte]
          obtain ⟨r, hr⟩ := quoted_ev s h1 hs
          exact ⟨(3, r.1, r.2), Ev.bind hr (Ev.now _), Or.inl ⟨Or.inr (by simp), hn⟩⟩
        · simp only [hq, ↓reduceIte]
          have hp : ∃ b, Ev (fun k => token_pair.f k s) b := by
           unfold token_pair.f
           by_cases h2 : (s.size : Int) ≥ 2
           · simp only [h2, ↓reduceIte, show (0 : Int) ≤ 2 by decide]
             exact ⟨_, Ev.bind (Contains_ev _ _ (by simp)) (Ev.now _)⟩
           · simp only [h2, ↓reduceIte]; exact ⟨_, Ev.now _⟩
          obtain ⟨b, hb⟩ := hp
          cases b
          · have : ∃ r : Int × Int × Int, (if Lib.indexByte (ByteArray.data (⟨#[123, 125, 40, 41, 91, 93, 44, 59, 58, 61, 43, 45, 42, 60, 62, 33, 38, 124, 46, 63]⟩ : ByteArray)).toList (bt s 0).toNat.toUInt8 ≥ 0 then some ((4 : Int), (1 : Int), (0 : Int)) else some (0, 0, 2)) = some r ∧ r.1 ≠ 1 := by
             split
             · exact ⟨_, rfl, by simp⟩
             · exact ⟨_, rfl, by simp⟩
            obtain ⟨r, hr, hr1⟩ := this
            refine ⟨r, Ev.bind hb ?_, Or.inl ⟨Or.inr hr1, hn⟩⟩
            simp only [Bool.false_eq_true, ↓reduceIte, strings_IndexByte.f, Option.bind_some]
            simp only [hr]; exact Ev.now _
          · refine ⟨(4, 2, 0), Ev.bind hb ?_, Or.inl ⟨Or.inr (by simp), hn⟩⟩
            simp only [↓reduceIte]; exact Ev.now _
      · simp only [↓reduceIte, token_run_digit.f, hs, Option.bind_some]
        split
        · exact ⟨_, Ev.now _, Or.inl ⟨Or.inl (by simp), hn⟩⟩
        · exact ⟨_, Ev.now _, Or.inl ⟨Or.inr (by simp), hn⟩⟩
    · simp only [↓reduceIte, token_run_part.f, hs, Option.bind_some]
      split
      · next h20 => exact ⟨_, Ev.now _, Or.inl ⟨Or.inl (by simp), by
         unfold nameB; simp [hl, h1]; omega⟩⟩
      · next h20 => exact ⟨_, Ev.now _, Or.inr ⟨rfl, rfl, by
         unfold nameB; simp [hl, h1]
         have hb : ((runOf partB s.data.toList : Int) == (s.size : Int)) = decide (runOf partB s.data.toList = s.size) := by
          rw [Bool.eq_iff_iff]; simp; omega
         rw [hb]
         by_cases he : runOf partB s.data.toList = s.size
         · simp [he]; omega
         · simp [he]⟩⟩
   obtain ⟨r, hr, hc⟩ := key
   refine Ev.bind (a := (s, nameB s)) ?_ (Ev.now _)
   refine Ev.bind hr ?_
   rcases hc with ⟨h2 | h2, hn⟩ | ⟨h2, h3, hn⟩
   · simp only [h2, ↓reduceIte, hn]; exact Ev.now _
   · simp only [h2, ↓reduceIte, hn]
     split <;> exact Ev.now _
   · simp only [h2, h3, ↓reduceIte, hn]; exact Ev.now _
theorem run_letters (s : ByteArray) (hs : s.size ≤ 9223372036854775807) : ∀ (m i : Nat), i + m = s.size →
 Ev (fun k => q1_run.l0 k s 0 false (i : Int)) ((i + runOf partB (s.data.toList.drop i) : Nat) : Int)
 | 0, i, h => by
  refine Ev.step (fun k => by rw [q1_run.l0]) ?_
  rw [List.drop_eq_nil_of_le (by simp; omega)]
  rw [Int.zero_add, w64 _ (by omega) (by omega)]
  simp only [show ¬ ((i : Int) < (s.size : Int)) by omega, ↓reduceIte]; exact Ev.now _
 | m + 1, i, h => by
  refine Ev.step (fun k => by rw [q1_run.l0]) ?_
  have hi : i < s.data.toList.length := by simp; omega
  rw [List.drop_eq_getElem_cons hi, Int.zero_add, w64 _ (by omega) (by omega), w64 ((i : Int) + 1) (by omega) (by omega)]
  have hb := bt_data s i hi
  have ih := run_letters s hs m (i + 1) (by omega)
  simp only [show ((i : Int) < (s.size : Int)) by omega, show (0 : Int) ≤ (i : Int) by omega, ↓reduceIte, digit_r, letter_r, Option.bind_some]
  unfold runOf
  rw [← hb]
  have ih' : Ev (fun k => q1_run.l0 k s 0 false ((i : Int) + 1)) ((i + (runOf partB (List.drop (i + 1) s.data.toList) + 1) : Nat) : Int) := by
   rw [show i + (runOf partB (List.drop (i + 1) s.data.toList) + 1) = (i + 1) + runOf partB (List.drop (i + 1) s.data.toList) by omega]; exact ih
  unfold partB
  cases hd : digitB (bt s i)
  · cases hl : letterB (bt s i)
    · by_cases h95 : bt s i = 95
      · simp only [h95, Bool.false_eq_true, ↓reduceIte, Bool.or_false, Bool.false_or, beq_self_eq_true]; exact ih'
      · simp only [h95, Bool.false_eq_true, ↓reduceIte, Bool.or_false, Bool.false_or, beq_eq_false_iff_ne.mpr h95]; exact Ev.now _
    · simp only [Bool.false_eq_true, ↓reduceIte, Bool.true_or]; exact ih'
  · simp only [↓reduceIte, Bool.or_true, Bool.true_or]; exact ih'
theorem run_digits (s : ByteArray) (hs : s.size ≤ 9223372036854775807) : ∀ (m i : Nat), i + m = s.size →
 Ev (fun k => q1_run.l0 k s 0 true (i : Int)) ((i + runOf digitB (s.data.toList.drop i) : Nat) : Int)
 | 0, i, h => by
  refine Ev.step (fun k => by rw [q1_run.l0]) ?_
  rw [List.drop_eq_nil_of_le (by simp; omega)]
  rw [Int.zero_add, w64 _ (by omega) (by omega)]
  simp only [show ¬ ((i : Int) < (s.size : Int)) by omega, ↓reduceIte]; exact Ev.now _
 | m + 1, i, h => by
  refine Ev.step (fun k => by rw [q1_run.l0]) ?_
  have hi : i < s.data.toList.length := by simp; omega
  rw [List.drop_eq_getElem_cons hi, Int.zero_add, w64 _ (by omega) (by omega), w64 ((i : Int) + 1) (by omega) (by omega)]
  have hb := bt_data s i hi
  have ih := run_digits s hs m (i + 1) (by omega)
  simp only [show ((i : Int) < (s.size : Int)) by omega, show (0 : Int) ≤ (i : Int) by omega, ↓reduceIte, digit_r, letter_r, Option.bind_some]
  unfold runOf
  rw [← hb]
  cases hd : digitB (bt s i)
  · simp only [Bool.false_eq_true, ↓reduceIte]; exact Ev.now _
  · simp only [↓reduceIte]
    rw [show i + (runOf digitB (List.drop (i + 1) s.data.toList) + 1) = (i + 1) + runOf digitB (List.drop (i + 1) s.data.toList) by omega]; exact ih
theorem rquoted_ev (s : ByteArray) (hs : s.size ≤ 9223372036854775807) : ∀ (m i : Nat), i + m = s.size → 1 ≤ i →
 ∃ r : Int, Ev (fun k => q1_quoted.l0 k s 0 (i : Int)) r ∧ (r = 0 ∨ 2 ≤ r ∧ r ≤ (s.size : Int))
 | 0, i, h, h1 => by
  refine ⟨0, Ev.step (fun k => by rw [q1_quoted.l0]) ?_, Or.inl rfl⟩
  rw [Int.zero_add, w64 _ (by omega) (by omega)]
  simp only [show ¬ ((i : Int) < (s.size : Int)) by omega, ↓reduceIte]; exact Ev.now _
 | m + 1, i, h, h1 => by
  have ih := rquoted_ev s hs m (i + 1) (by omega) (by omega)
  by_cases hq : bt s i = 34
  · refine ⟨(i : Int) + 1, Ev.step (fun k => by rw [q1_quoted.l0]) ?_, Or.inr ⟨by omega, by omega⟩⟩
    rw [Int.zero_add, w64 _ (by omega) (by omega), w64 ((i : Int) + 1) (by omega) (by omega)]
    simp only [show ((i : Int) < (s.size : Int)) by omega, show (0 : Int) ≤ (i : Int) by omega, ↓reduceIte, hq]; exact Ev.now _
  · by_cases h32 : bt s i < 32
    · refine ⟨0, Ev.step (fun k => by rw [q1_quoted.l0]) ?_, Or.inl rfl⟩
      rw [Int.zero_add, w64 _ (by omega) (by omega), w64 ((i : Int) + 1) (by omega) (by omega)]
      simp only [show ((i : Int) < (s.size : Int)) by omega, show (0 : Int) ≤ (i : Int) by omega, ↓reduceIte, hq, h32]; exact Ev.now _
    · by_cases h126 : bt s i > 126
      · refine ⟨0, Ev.step (fun k => by rw [q1_quoted.l0]) ?_, Or.inl rfl⟩
        rw [Int.zero_add, w64 _ (by omega) (by omega), w64 ((i : Int) + 1) (by omega) (by omega)]
        simp only [show ((i : Int) < (s.size : Int)) by omega, show (0 : Int) ≤ (i : Int) by omega, ↓reduceIte, hq, h32, h126]; exact Ev.now _
      · obtain ⟨r, hr, hc⟩ := ih
        refine ⟨r, Ev.step (fun k => by rw [q1_quoted.l0]) ?_, hc⟩
        rw [Int.zero_add, w64 _ (by omega) (by omega), w64 ((i : Int) + 1) (by omega) (by omega)]
        simp only [show ((i : Int) < (s.size : Int)) by omega, show (0 : Int) ≤ (i : Int) by omega, ↓reduceIte, hq, h32, h126]; exact hr
theorem signs_ev (s : ByteArray) (hs : s.size ≤ 9223372036854775807) (l : List ByteArray) (hl : l.length ≤ 9223372036854775807) (hz : ∀ x ∈ l, x.size ≤ 5) : ∀ (m i : Nat), i + m = l.length →
 ∃ r : Int × ByteArray × Int × Int × Int, Ev (fun k => q1_one.l0 k s 0 l (i : Int)) r ∧ r.1 ≠ 1
 | 0, i, h => by
  refine ⟨((0, (⟨#[]⟩ : ByteArray), 0, 0, 2)), Ev.step (fun k => by rw [q1_one.l0]) ?_, ?_⟩
  · simp only [show ¬ ((i : Int) < (l.length : Int)) by omega, ↓reduceIte]; exact Ev.now _
  · simp
 | m + 1, i, h => by
  obtain ⟨r, hr, hc⟩ := signs_ev s hs l hl hz m (i + 1) (by omega)
  have hi : i < l.length := by omega
  have he : rdOf ByteArray.empty l (i : Int) = l[i] := by unfold rdOf; simp [hi]
  have h5 := hz _ (List.getElem_mem hi)
  by_cases hf : (l[i].size : Int) ≤ (s.size : Int)
  · by_cases hx : (s.extract (0 : Int).toNat (l[i].size : Int).toNat).toList = (l[i]).toList
    · refine ⟨(4, l[i], 0, (l[i].size : Int), 0), Ev.step (fun k => by rw [q1_one.l0]) ?_, by simp⟩
      rw [he, Int.zero_add, w64 (l[i].size : Int) (by omega) (by omega)]
      simp only [show ((i : Int) < (l.length : Int)) by omega, show (0 : Int) ≤ (i : Int) by omega, show (0 : Int) ≤ 0 by decide, show (0 : Int) ≤ (l[i].size : Int) by omega, ↓reduceIte, hf, hx]; exact Ev.now _
    · refine ⟨r, Ev.step (fun k => by rw [q1_one.l0]) ?_, hc⟩
      rw [he, Int.zero_add, w64 (l[i].size : Int) (by omega) (by omega), w64 ((i : Int) + 1) (by omega) (by omega)]
      simp only [show ((i : Int) < (l.length : Int)) by omega, show (0 : Int) ≤ (i : Int) by omega, show (0 : Int) ≤ 0 by decide, show (0 : Int) ≤ (l[i].size : Int) by omega, ↓reduceIte, hf, hx]; exact hr
  · refine ⟨r, Ev.step (fun k => by rw [q1_one.l0]) ?_, hc⟩
    rw [he, Int.zero_add, w64 (l[i].size : Int) (by omega) (by omega), w64 ((i : Int) + 1) (by omega) (by omega)]
    simp only [show ((i : Int) < (l.length : Int)) by omega, show (0 : Int) ≤ (i : Int) by omega, ↓reduceIte, hf]; exact hr
theorem one_ev (s : ByteArray) (h1 : 0 < s.size) (hs : s.size ≤ 9223372036854775807) : ∃ r : Int × ByteArray × Int × Int × Int, Ev (fun k => q1_one.f k s 0) r ∧
 ((r.2.2.2.2 ≠ 0 ∨ r.1 ≠ 1) ∧ nameB s = false ∨ (r.2.2.2.2 = 0 ∧ r.1 = 1 ∧ nameB s = (r.2.2.2.1 == (s.size : Int)))) := by
 unfold q1_one.f
 simp only [show (0 : Int) ≤ 0 by decide, show (0 : Int) < (s.size : Int) by omega, ↓reduceIte, letter_r, digit_r, Option.bind_some]
 have hp : runOf partB s.data.toList ≤ s.size := by
  have := runOf_le partB s.data.toList
  have h2 : s.data.toList.length = s.size := by simp
  omega
 have hpd : runOf digitB s.data.toList ≤ s.size := by
  have := runOf_le digitB s.data.toList
  have h2 : s.data.toList.length = s.size := by simp
  omega
 cases hl : letterB (bt s 0)
 · have hn : nameB s = false := by unfold nameB; simp [hl]
   simp only [Bool.false_eq_true, ↓reduceIte]
   cases hd : digitB (bt s 0)
   · by_cases hq : bt s 0 = 34
     · obtain ⟨r, hr, hc⟩ := rquoted_ev s hs (s.size - 1) 1 (by omega) (by omega)
       have hr' : Ev (fun k => q1_quoted.f k s 0) r := hr
       rcases hc with h0 | ⟨h2, h3⟩
       · refine ⟨((0, (⟨#[]⟩ : ByteArray), 0, 0, 2)), Ev.step (fun k => by rw [q1_one.j0]) ?_, Or.inl ⟨Or.inl ?_, hn⟩⟩
         · simp only [Bool.false_eq_true, ↓reduceIte, hq]
           refine Ev.bind hr' ?_
           simp only [h0, ↓reduceIte]; exact Ev.now _
         · simp
       · by_cases h60 : r - 2 > 60
         · refine ⟨((0, (⟨#[]⟩ : ByteArray), 0, 0, 3)), Ev.step (fun k => by rw [q1_one.j0]) ?_, Or.inl ⟨Or.inl ?_, hn⟩⟩
           · simp only [Bool.false_eq_true, ↓reduceIte, hq]
             refine Ev.bind hr' ?_
             rw [w64 (r - 2) (by omega) (by omega)]
             simp only [show ¬ (r = 0) by omega, ↓reduceIte, h60]; exact Ev.now _
           · simp
         · refine ⟨((3, s.extract ((1 : Int)).toNat ((r - 1 : Int)).toNat, 0, r, 0)), Ev.step (fun k => by rw [q1_one.j0]) ?_, Or.inl ⟨Or.inr ?_, hn⟩⟩
           · simp only [Bool.false_eq_true, ↓reduceIte, hq]
             refine Ev.bind hr' ?_
             rw [w64 (r - 2) (by omega) (by omega), Int.zero_add, Int.zero_add, w64 r (by omega) (by omega), w64 (r - 1) (by omega) (by omega), w64 1 (by omega) (by omega)]
             simp only [show ¬ (r = 0) by omega, ↓reduceIte, h60, show (0 : Int) ≤ 1 by decide, show (1 : Int) ≤ r - 1 by omega, show r - 1 ≤ (s.size : Int) by omega]; exact Ev.now _
           · simp
     · obtain ⟨L, hL, hL1, hL2⟩ : ∃ L, q1_signs.f = some L ∧ L.length = 25 ∧ ∀ x ∈ L, x.size ≤ 5 := ⟨_, rfl, rfl, by decide⟩
       obtain ⟨r, hr, hc⟩ := signs_ev s hs L (by omega) hL2 25 0 (by omega)
       refine ⟨r, Ev.step (fun k => by rw [q1_one.j0]) ?_, Or.inl ⟨Or.inr hc, hn⟩⟩
       simp only [Bool.false_eq_true, ↓reduceIte, hq, hL, Option.bind_some]
       exact hr
   · have hr := run_digits s hs s.size 0 (by omega)
     have hr' : Ev (fun k => q1_run.f k s 0 true) ((runOf digitB s.data.toList : Nat) : Int) := by unfold q1_run.f; simpa using hr
     generalize runOf digitB s.data.toList = n at hr' hpd
     by_cases h9 : (n : Int) > 9
     · refine ⟨((0, (⟨#[]⟩ : ByteArray), 0, 0, 3)), Ev.step (fun k => by rw [q1_one.j0]) ?_, Or.inl ⟨Or.inl ?_, hn⟩⟩
       · simp only [↓reduceIte, digit_r, hd, Option.bind_some]
         refine Ev.bind hr' ?_
         simp only [↓reduceIte, h9]; exact Ev.now _
       · simp
     · refine ⟨((2, s.extract ((0 : Int)).toNat ((n : Int)).toNat, 0, (n : Int), 0)), Ev.step (fun k => by rw [q1_one.j0]) ?_, Or.inl ⟨Or.inr ?_, hn⟩⟩
       · simp only [↓reduceIte, digit_r, hd, Option.bind_some]
         refine Ev.bind hr' ?_
         rw [Int.zero_add, w64 (n : Int) (by omega) (by omega)]
         simp only [↓reduceIte, h9, show (0 : Int) ≤ 0 by decide, show (0 : Int) ≤ (n : Int) by omega, show (n : Int) ≤ (s.size : Int) by omega]; exact Ev.now _
       · simp
 · have hd : digitB (bt s 0) = false := by
    unfold letterB at hl; unfold digitB
    simp at hl ⊢; omega
   have hr := run_letters s hs s.size 0 (by omega)
   have hr' : Ev (fun k => q1_run.f k s 0 false) ((runOf partB s.data.toList : Nat) : Int) := by unfold q1_run.f; simpa using hr
   have hN : nameB s = (decide (runOf partB s.data.toList = s.size) && decide (s.size ≤ 20)) := by unfold nameB; simp [hl, h1]
   rw [hN]
   generalize runOf partB s.data.toList = n at hr' hp
   simp only [↓reduceIte]
   by_cases h9 : (n : Int) > 20
   · refine ⟨((0, (⟨#[]⟩ : ByteArray), 0, 0, 3)), Ev.step (fun k => by rw [q1_one.j0]) ?_, Or.inl ⟨Or.inl ?_, ?_⟩⟩
     · simp only [↓reduceIte, digit_r, hd, Option.bind_some]
       refine Ev.bind hr' ?_
       simp only [Bool.false_eq_true, ↓reduceIte, h9]; exact Ev.now _
     · simp
     · simp; omega
   · refine ⟨((1, s.extract ((0 : Int)).toNat ((n : Int)).toNat, 0, (n : Int), 0)), Ev.step (fun k => by rw [q1_one.j0]) ?_, Or.inr ⟨?_, ?_, ?_⟩⟩
     · simp only [↓reduceIte, digit_r, hd, Option.bind_some]
       refine Ev.bind hr' ?_
       rw [Int.zero_add, w64 (n : Int) (by omega) (by omega)]
       simp only [Bool.false_eq_true, ↓reduceIte, h9, show (0 : Int) ≤ 0 by decide, show (0 : Int) ≤ (n : Int) by omega, show (n : Int) ≤ (s.size : Int) by omega]; exact Ev.now _
     · simp
     · simp
     · simp only []
       by_cases he : n = s.size
       · simp [he]; omega
       · have : ((n : Int) == (s.size : Int)) = false := by simp; omega
         simp [he, this]
theorem rIsName_ev (s : ByteArray) (hs : s.size ≤ 9223372036854775807) : Ev (fun k => q1_IsName.f k s) (nameB s) := by
 unfold q1_IsName.f q1_Right.f q1_text.f
 simp only [show ¬ ((1 : Int) = 3) by decide, ↓reduceIte, Option.bind_some]
 by_cases h0 : s.toList = []
 · have h1 := (toList_nil s).mp h0
   simp only [h0, ↓reduceIte, Option.bind_some]
   have : nameB s = false := by unfold nameB; simp [h1]
   rw [this]; exact Ev.now _
 · have h1 : 0 < s.size := Nat.pos_of_ne_zero fun h => h0 ((toList_nil s).mpr h)
   simp only [h0, ↓reduceIte]
   obtain ⟨r, hr, hc⟩ := one_ev s h1 hs
   refine Ev.bind (a := nameB s) ?_ (Ev.now _)
   refine Ev.bind hr ?_
   rcases hc with ⟨h2 | h2, hn⟩ | ⟨h2, h3, hn⟩
   · simp only [h2, ↓reduceIte, hn]; exact Ev.now _
   · have : (r.1 == 1) = false := by simpa using h2
     simp only [hn, this]
     split
     · split <;> exact Ev.now _
     · exact Ev.now _
   · simp only [h2, ↓reduceIte, hn, h3]
     by_cases he : r.2.2.2.1 = (s.size : Int)
     · simp only [he, ↓reduceIte, beq_self_eq_true]; exact Ev.now _
     · simp only [he, ↓reduceIte, beq_eq_false_iff_ne.mpr he]; exact Ev.now _
theorem reach_num : reachBytes = 140737488351232 := rfl
def scan (F : Nat → Int) : Nat → Nat → Int
 | 0, _ => 0
 | m + 1, i => if F i = 0 then scan F m (i + 1) else F i
theorem take_nat {α : Type} (l : List α) (i : Nat) : l.take ((i : Int)).toNat = l.take i := by rw [Int.toNat_natCast]
theorem rdOf_nat {α : Type} (d : α) (l : List α) (i : Nat) (h : i < l.length) : rdOf d l (i : Int) = l[i] := by unfold rdOf; simp [h]
theorem rd68_nat (l : List S68) (i : Nat) (h : i < l.length) : rd_T68 l (i : Int) = l[i] := by unfold rd_T68; simp [h]
theorem rd71_nat (l : List S71) (i : Nat) (h : i < l.length) : rd_T71 l (i : Int) = l[i] := by unfold rd_T71; simp [h]
theorem rd77_nat (l : List S77) (i : Nat) (h : i < l.length) : rd_T77 l (i : Int) = l[i] := by unfold rd_T77; simp [h]
def namesF (l : List ByteArray) (i : Nat) : Int := if nameB (rdOf ByteArray.empty l (i : Int)) = true then (if (l.take i).any (fun x => x.toList == (rdOf ByteArray.empty l (i : Int)).toList) = true then 5 else 0) else 2
def namesE (l : List ByteArray) : Int := if (l.length : Int) > 20 then 3 else scan (namesF l) l.length 0
def goodN (l : List ByteArray) : Prop := l.length ≤ reachBytes ∧ ∀ x ∈ l, x.size ≤ reachBytes
theorem names_loop (l : List ByteArray) (hl : goodN l) : ∀ (m i : Nat), i + m = l.length → Ev (fun k => types_names.l0 k l l (l.length : Int) (i : Int)) (scan (namesF l) m i)
 | 0, i, h => by
  refine Ev.step (fun k => by rw [types_names.l0]) ?_
  simp only [show ¬ ((i : Int) < (l.length : Int)) by omega, ↓reduceIte]; exact Ev.now _
 | m + 1, i, h => by
  have hn := reach_num
  have hi : i < l.length := by omega
  have hs : (rdOf ByteArray.empty l (i : Int)).size ≤ 9223372036854775807 := by
   rw [rdOf_nat _ _ _ hi]; have := hl.2 _ (List.getElem_mem hi); omega
  have hL := hl.1
  refine Ev.step (fun k => by rw [types_names.l0]) ?_
  simp only [show ((i : Int) < (l.length : Int)) by omega, show (0 : Int) ≤ (i : Int) by omega, show (i : Int) ≤ (l.length : Int) by omega, ↓reduceIte]
  refine Ev.bind (IsName_ev _ hs) ?_
  have ih := names_loop l hl m (i + 1) (by omega)
  unfold scan
  cases hb : nameB (rdOf ByteArray.empty l (i : Int))
  · have : namesF l i = 2 := by unfold namesF; simp [hb]
    simp only [this, Bool.false_eq_true, ↓reduceIte]; exact Ev.now _
  · simp only [↓reduceIte]
    refine Ev.bind (Contains_ev _ _ (by rw [take_nat, List.length_take]; omega)) ?_
    rw [take_nat]
    cases hc : (l.take i).any (fun x => x.toList == (rdOf ByteArray.empty l (i : Int)).toList)
    · have : namesF l i = 0 := by unfold namesF; simp only [hb, hc, Bool.false_eq_true, ↓reduceIte]
      simp only [this, Bool.false_eq_true, ↓reduceIte]
      rw [w64 _ (by omega) (by omega)]; exact ih
    · have : namesF l i = 5 := by unfold namesF; simp only [hb, hc, ↓reduceIte]
      simp only [this, ↓reduceIte]; exact Ev.now _
theorem names_ev (l : List ByteArray) (hl : goodN l) : Ev (fun k => types_names.f k l) (namesE l) := by
 unfold types_names.f namesE
 by_cases h : (l.length : Int) > 20
 · simp only [h, ↓reduceIte]; exact Ev.now _
 · simp only [h, ↓reduceIte]; exact names_loop l hl _ 0 (by omega)
theorem any_take_succ {α : Type} (q : α → Bool) (l : List α) (j m : Nat) (h : j < l.length) : ((l.drop j).take (m + 1)).any q = (q l[j] || ((l.drop (j + 1)).take m).any q) := by
 rw [List.drop_eq_getElem_cons h, List.take_succ_cons, List.any_cons]
theorem rnames_dup (l : List ByteArray) (hl : goodN l) (i : Nat) (hi : i < l.length) (r : Int) (hr : Ev (fun k => q4_names.l0 k l ((i : Int) + 1)) r) : ∀ (m j : Nat), j + m = i →
 Ev (fun k => q4_names.l1 k l (i : Int) (j : Int)) (if ((l.drop j).take m).any (fun x => x.toList == (rdOf ByteArray.empty l (i : Int)).toList) = true then 5 else r)
 | 0, j, h => by
  have hn := reach_num
  have hL := hl.1
  refine Ev.step (fun k => by rw [q4_names.l1]) ?_
  simp only [show ¬ ((j : Int) < (i : Int)) by omega, ↓reduceIte, List.take_zero, List.any_nil, Bool.false_eq_true]
  rw [w64 _ (by omega) (by omega)]; exact hr
 | m + 1, j, h => by
  have hn := reach_num
  have hL := hl.1
  have hj : j < l.length := by omega
  refine Ev.step (fun k => by rw [q4_names.l1]) ?_
  rw [any_take_succ _ _ _ _ hj, rdOf_nat _ _ _ hj]
  simp only [show ((j : Int) < (i : Int)) by omega, show (0 : Int) ≤ (j : Int) by omega, show ((j : Int) < (l.length : Int)) by omega, show (0 : Int) ≤ (i : Int) by omega, show ((i : Int) < (l.length : Int)) by omega, ↓reduceIte]
  by_cases he : (l[j]).toList = (rdOf ByteArray.empty l (i : Int)).toList
  · simp only [he, ↓reduceIte, beq_self_eq_true, Bool.true_or]; exact Ev.now _
  · simp only [he, ↓reduceIte, beq_eq_false_iff_ne.mpr he, Bool.false_or]
    rw [w64 _ (by omega) (by omega)]; exact rnames_dup l hl i hi r hr m (j + 1) (by omega)
theorem rnames_loop (l : List ByteArray) (hl : goodN l) : ∀ (m i : Nat), i + m = l.length → Ev (fun k => q4_names.l0 k l (i : Int)) (scan (namesF l) m i)
 | 0, i, h => by
  refine Ev.step (fun k => by rw [q4_names.l0]) ?_
  simp only [show ¬ ((i : Int) < (l.length : Int)) by omega, ↓reduceIte]; exact Ev.now _
 | m + 1, i, h => by
  have hn := reach_num
  have hi : i < l.length := by omega
  have hs : (rdOf ByteArray.empty l (i : Int)).size ≤ 9223372036854775807 := by
   rw [rdOf_nat _ _ _ hi]; have := hl.2 _ (List.getElem_mem hi); omega
  refine Ev.step (fun k => by rw [q4_names.l0]) ?_
  simp only [show ((i : Int) < (l.length : Int)) by omega, show (0 : Int) ≤ (i : Int) by omega, ↓reduceIte]
  refine Ev.bind (rIsName_ev _ hs) ?_
  have ih := rnames_loop l hl m (i + 1) (by omega)
  have hd := rnames_dup l hl i hi _ ih i 0 (by omega)
  unfold scan
  cases hb : nameB (rdOf ByteArray.empty l (i : Int))
  · have : namesF l i = 2 := by unfold namesF; simp [hb]
    simp only [this, Bool.false_eq_true, ↓reduceIte]; exact Ev.now _
  · simp only [↓reduceIte]
    rw [List.drop_zero] at hd
    cases hc : (l.take i).any (fun x => x.toList == (rdOf ByteArray.empty l (i : Int)).toList)
    · have : namesF l i = 0 := by unfold namesF; simp only [hb, hc, Bool.false_eq_true, ↓reduceIte]
      simp only [this, ↓reduceIte]
      simp only [hc, Bool.false_eq_true, ↓reduceIte] at hd; exact hd
    · have : namesF l i = 5 := by unfold namesF; simp only [hb, hc, ↓reduceIte]
      simp only [this, show ¬ ((5 : Int) = 0) by decide, ↓reduceIte]
      simp only [hc, ↓reduceIte] at hd; exact hd
theorem rnames_ev (l : List ByteArray) (hl : goodN l) : Ev (fun k => q4_names.f k l) (namesE l) := by
 unfold q4_names.f namesE
 by_cases h : (l.length : Int) > 20
 · simp only [h, ↓reduceIte]; exact Ev.now _
 · simp only [h, ↓reduceIte]; exact rnames_loop l hl _ 0 (by omega)
def boundsE (a1 a2 : Int) (l3 : List ByteArray) : Int := if namesE l3 = 0 then (if 0 < l3.length then (if a1 = 0 ∧ a2 = (l3.length : Int) - 1 then 0 else 6) else (if -1000000 ≤ a1 ∧ a1 ≤ a2 ∧ a2 ≤ 1000000 then 0 else 6)) else namesE l3
def attrE (pre : List S77) (a : S77) : Int := if nameB a.f0 = true then (if pre.any (fun m => m.f0.toList == a.f0.toList) = true then 5 else boundsE a.f1 a.f2 a.f3) else 2
theorem namesE_nil : namesE [] = 0 := rfl
theorem in_ev (a b c : Int) : q4_in.f a b c = some (decide (b ≤ a) && decide (a ≤ c)) := by
 unfold q4_in.f
 by_cases h : a ≥ b
 · simp only [h, ↓reduceIte]; simp [show b ≤ a from h]
 · simp only [h, ↓reduceIte]; simp [show ¬ b ≤ a from h]
theorem attr_j0 (b : Bool) (a0 : ByteArray) (a1 a2 : Int) (l3 : List ByteArray) (hl : goodN l3) (hb : l3.length = 0 → b = (decide (-1000000 ≤ a1 ∧ a1 ≤ a2 ∧ a2 ≤ 1000000))) (h0 : namesE l3 = 0) :
 Ev (fun k => types_attribute.j0 k b a0 a1 a2 l3) (boundsE a1 a2 l3) := by
 have hn := reach_num
 have hL := hl.1
 refine Ev.step (fun k => by rw [types_attribute.j0]) ?_
 unfold boundsE
 rw [if_pos h0]
 by_cases hz : l3.length = 0
 · have hb := hb hz
   simp only [show ¬ ((l3.length : Int) > 0) by omega, show ¬ (0 < l3.length) by omega, ↓reduceIte, hb, decide_eq_true_eq]
   by_cases hc : -1000000 ≤ a1 ∧ a1 ≤ a2 ∧ a2 ≤ 1000000
   · simp only [if_pos hc]; exact Ev.now _
   · simp only [if_neg hc]; exact Ev.now _
 · rw [w64 _ (by omega) (by omega)]
   simp only [show ((l3.length : Int) > 0) by omega, show (0 < l3.length) by omega, ↓reduceIte]
   by_cases h1 : a1 = 0
   · by_cases h2 : a2 = (l3.length : Int) - 1
     · simp only [h1, h2, ↓reduceIte, and_self]; exact Ev.now _
     · simp only [h1, h2, ↓reduceIte, and_false]; exact Ev.now _
   · simp only [h1, ↓reduceIte, false_and]; exact Ev.now _
theorem attribute_ev (pre : List S77) (a : S77) (hs : a.f0.size ≤ reachBytes) (hl : goodN a.f3) : Ev (fun k => types_attribute.f k a.f0 a.f1 a.f2 a.f3 pre) (attrE pre a) := by
 have hn := reach_num
 unfold types_attribute.f attrE any_attr.f
 refine Ev.bind (IsName_ev _ (by omega)) ?_
 cases hb : nameB a.f0
 · simp only [Bool.false_eq_true, ↓reduceIte]; exact Ev.now _
 · simp only [↓reduceIte, Option.bind_some]
   cases hp : pre.any (fun m => m.f0.toList == a.f0.toList)
   · simp only [Bool.false_eq_true, ↓reduceIte]
     refine Ev.bind (names_ev _ hl) ?_
     by_cases h0 : namesE a.f3 = 0
     · simp only [h0, ↓reduceIte]
       by_cases h1 : -1000000 ≤ a.f1
       · by_cases h2 : a.f1 ≤ a.f2
         · simp only [h1, h2, ↓reduceIte]; exact attr_j0 _ _ _ _ _ hl (fun _ => by simp [h1, h2]) h0
         · simp only [h1, h2, ↓reduceIte]; exact attr_j0 _ _ _ _ _ hl (fun _ => by simp [h1, h2]) h0
       · simp only [h1, ↓reduceIte]; exact attr_j0 _ _ _ _ _ hl (fun _ => by simp [h1]) h0
     · have : boundsE a.f1 a.f2 a.f3 = namesE a.f3 := by unfold boundsE; rw [if_neg h0]
       simp only [h0, ↓reduceIte, this]; exact Ev.now _
   · simp only [↓reduceIte]; exact Ev.now _
theorem rattribute_ev (a0 : ByteArray) (a1 a2 : Int) (l3 : List ByteArray) (hl : goodN l3) : Ev (fun k => q4_attribute.f k a0 a1 a2 l3) (boundsE a1 a2 l3) := by
 have hn := reach_num
 have hL := hl.1
 unfold q4_attribute.f
 by_cases hz : l3.length = 0
 · obtain rfl : l3 = [] := List.length_eq_zero_iff.mp hz
   unfold boundsE
   simp only [namesE_nil, List.length_nil, Nat.lt_irrefl, ↓reduceIte, in_ev, Option.bind_some, show ((0 : Nat) : Int) = 0 from rfl]
   by_cases hc : -1000000 ≤ a1 ∧ a1 ≤ a2 ∧ a2 ≤ 1000000
   · obtain ⟨h1, h2, h3⟩ := hc
     simp only [show a1 ≤ 1000000 by omega, h1, h2, h3, decide_true, Bool.and_self, ↓reduceIte, and_self]; exact Ev.now _
   · simp only [if_neg hc]
     by_cases h1 : (decide ((-1000000 : Int) ≤ a1) && decide (a1 ≤ 1000000)) = true
     · simp only [h1, ↓reduceIte]
       have h2 : (decide (a1 ≤ a2) && decide (a2 ≤ 1000000)) = false := by
        simp at h1 ⊢; omega
       simp only [h2, Bool.false_eq_true, ↓reduceIte]; exact Ev.now _
     · simp only [h1, ↓reduceIte]; exact Ev.now _
 · simp only [show ¬ ((l3.length : Int) = 0) by omega, ↓reduceIte]
   refine Ev.bind (rnames_ev _ hl) ?_
   unfold boundsE
   by_cases h0 : namesE l3 = 0
   · rw [w64 _ (by omega) (by omega)]
     simp only [h0, ↓reduceIte, show (0 < l3.length) by omega]
     by_cases h1 : a1 = 0
     · by_cases h2 : a2 = (l3.length : Int) - 1
       · simp only [h1, h2, ↓reduceIte, and_self]; exact Ev.now _
       · simp only [h1, h2, ↓reduceIte, and_false]; exact Ev.now _
     · simp only [h1, ↓reduceIte, false_and]; exact Ev.now _
   · simp only [h0, ↓reduceIte]; exact Ev.now _
def attrsE (l : List S68) : Nat → Int → List S77
 | 0, _ => []
 | n + 1, i => if i < 0 then [] else attrsE l n (rd_T68 l i).f1 ++ (rd_T68 l i).f3
def Up (l : List S68) (i : Nat) : Prop := ∀ j : Nat, j ≤ i → j < l.length → -1 ≤ (rd_T68 l (j : Int)).f1 ∧ (rd_T68 l (j : Int)).f1 < (j : Int)
def Small (l : List S68) : Prop := l.length ≤ 20 ∧ ∀ x ∈ l, x.f3.length ≤ 30
theorem small_rd {l : List S68} (h : Small l) (i : Nat) (hi : i < l.length) : (rd_T68 l (i : Int)).f3.length ≤ 30 := by
 rw [rd68_nat _ _ hi]; exact h.2 _ (List.getElem_mem hi)
theorem attrsE_len {l : List S68} (h : Small l) : ∀ (n i : Nat), i < n → i < l.length → Up l i → (attrsE l n (i : Int)).length ≤ 30 * n
 | n + 1, i, hn, hi, hu => by
  have h3 := small_rd h i hi
  obtain ⟨h4, h5⟩ := hu i (Nat.le_refl _) hi
  unfold attrsE
  rw [if_neg (by omega), List.length_append]
  rcases Int.lt_or_le (rd_T68 l (i : Int)).f1 0 with hc | hc
  · have : attrsE l n (rd_T68 l (i : Int)).f1 = [] := by
     cases n with
     | zero => rfl
     | succ n => unfold attrsE; rw [if_pos hc]
    rw [this]; simp; omega
  · obtain ⟨p, hp⟩ : ∃ p : Nat, (rd_T68 l (i : Int)).f1 = (p : Int) := ⟨(rd_T68 l (i : Int)).f1.toNat, by omega⟩
    rw [hp] at h5 ⊢
    have := attrsE_len h n p (by omega) (by omega) (fun j hj hjl => hu j (by omega) hjl)
    omega
theorem attrsE_neg (l : List S68) (n : Nat) (i : Int) (hi : i < 0) : attrsE l n i = [] := by
 cases n with
 | zero => rfl
 | succ n => unfold attrsE; rw [if_pos hi]
theorem attrsE_pos (l : List S68) (n : Nat) (i : Int) (hi : 0 ≤ i) : attrsE l (n + 1) i = attrsE l n (rd_T68 l i).f1 ++ (rd_T68 l i).f3 := if_neg (by omega)
theorem attrs_ev (l : List S68) (l1 : List S71) (h : Small l) : ∀ (n i : Nat), n ≤ 20 → i < n → i < l.length → Up l i → Ev (fun k => types_attrs.f k l l1 (i : Int)) (attrsE l n (i : Int))
 | n + 1, i, h20, hn, hi, hu => by
  have h3 := small_rd h i hi
  obtain ⟨h4, h5⟩ := hu i (Nat.le_refl _) hi
  refine Ev.step (fun k => by rw [types_attrs.f]) ?_
  simp only [show ((i : Int) < (l.length : Int)) by omega, show (0 : Int) ≤ (i : Int) by omega, ↓reduceIte]
  rw [attrsE_pos _ _ _ (by omega)]
  rcases Int.lt_or_le (rd_T68 l (i : Int)).f1 0 with hc | hc
  · rw [attrsE_neg _ _ _ hc]
    simp only [show ¬ ((rd_T68 l (i : Int)).f1 ≥ 0) by omega, ↓reduceIte, List.length_nil, show 0 + (rd_T68 l (i : Int)).f3.length < 2513169434916 by omega]
    exact Ev.now _
  · obtain ⟨p, hp⟩ : ∃ p : Nat, (rd_T68 l (i : Int)).f1 = (p : Int) := ⟨(rd_T68 l (i : Int)).f1.toNat, by omega⟩
    rw [hp] at h5 ⊢
    have hu' : Up l p := fun j hj hjl => hu j (by omega) hjl
    have ih := attrs_ev l l1 h n p (by omega) (by omega) (by omega) hu'
    have hl := attrsE_len h n p (by omega) (by omega) hu'
    simp only [show ((p : Int) ≥ 0) by omega, ↓reduceIte]
    refine Ev.bind ih ?_
    simp only [show (attrsE l n (p : Int)).length + (rd_T68 l (i : Int)).f3.length < 2513169434916 by omega, ↓reduceIte]
    exact Ev.now _
theorem rattrs_ev (l : List S68) (l1 : List S71) (h : Small l) : ∀ (n i : Nat), n ≤ 20 → i < n → i < l.length → Up l i → Ev (fun k => q4_attrs.f k l l1 (i : Int)) (attrsE l n (i : Int))
 | n + 1, i, h20, hn, hi, hu => by
  have h3 := small_rd h i hi
  obtain ⟨h4, h5⟩ := hu i (Nat.le_refl _) hi
  refine Ev.step (fun k => by rw [q4_attrs.f]) ?_
  simp only [show ((i : Int) < (l.length : Int)) by omega, show (0 : Int) ≤ (i : Int) by omega, show ¬ ((i : Int) < 0) by omega, ↓reduceIte, Option.bind_some, List.length_nil, List.nil_append, Nat.zero_add]
  rw [attrsE_pos _ _ _ (by omega)]
  rcases Int.lt_or_le (rd_T68 l (i : Int)).f1 0 with hc | hc
  · rw [attrsE_neg _ _ _ hc]
    refine Ev.bind (a := []) ?_ ?_
    · refine Ev.step (fun k => by rw [q4_attrs.f]) ?_
      simp only [hc, ↓reduceIte]; exact Ev.now _
    · simp only [List.length_nil, Nat.zero_add, show (0 : Nat) < 2513169434916 by omega, show (rd_T68 l (i : Int)).f3.length < 2513169434916 by omega, ↓reduceIte]
      exact Ev.now _
  · obtain ⟨p, hp⟩ : ∃ p : Nat, (rd_T68 l (i : Int)).f1 = (p : Int) := ⟨(rd_T68 l (i : Int)).f1.toNat, by omega⟩
    rw [hp] at h5 ⊢
    have hu' : Up l p := fun j hj hjl => hu j (by omega) hjl
    have ih := rattrs_ev l l1 h n p (by omega) (by omega) (by omega) hu'
    have hl := attrsE_len h n p (by omega) (by omega) hu'
    refine Ev.bind ih ?_
    simp only [show (attrsE l n (p : Int)).length < 2513169434916 by omega, show (attrsE l n (p : Int)).length + (rd_T68 l (i : Int)).f3.length < 2513169434916 by omega, ↓reduceIte]
    exact Ev.now _
def Good (l : List S68) : Prop := ∀ x ∈ l, good68 x
theorem good_rd {l : List S68} (h : Good l) (i : Nat) (hi : i < l.length) : good68 (rd_T68 l (i : Int)) := by
 rw [rd68_nat _ _ hi]; exact h _ (List.getElem_mem hi)
theorem attrsE_good {l : List S68} (h : Good l) : ∀ (n i : Nat), i < l.length → Up l i → ∀ x ∈ attrsE l n (i : Int), good77 x
 | 0, i, _, _ => fun x hx => by cases hx
 | n + 1, i, hi, hu => by
  intro x hx
  obtain ⟨h4, h5⟩ := hu i (Nat.le_refl _) hi
  unfold attrsE at hx
  rw [if_neg (by omega)] at hx
  rcases List.mem_append.1 hx with hx | hx
  · rcases Int.lt_or_le (rd_T68 l (i : Int)).f1 0 with hc | hc
    · rw [attrsE_neg _ _ _ hc] at hx; cases hx
    · obtain ⟨p, hp⟩ : ∃ p : Nat, (rd_T68 l (i : Int)).f1 = (p : Int) := ⟨(rd_T68 l (i : Int)).f1.toNat, by omega⟩
      rw [hp] at hx h5
      exact attrsE_good h n p (by omega) (fun j hj hjl => hu j (by omega) hjl) x hx
  · exact (good_rd h i hi).2.2.2.2 x hx
def attrF (t : List S77) (j : Nat) : Int := attrE (t.take j) (rd_T77 t (j : Int))
def nodeE (l : List S68) (i : Nat) : Int :=
 if nameB (rd_T68 l (i : Int)).f0 = true then
  if (l.take i).any (fun m => m.f0.toList == (rd_T68 l (i : Int)).f0.toList) = true then 5
  else if (rd_T68 l (i : Int)).f1 < -1 ∨ (rd_T68 l (i : Int)).f1 ≥ (i : Int) then 6
  else if ((rd_T68 l (i : Int)).f3.length : Int) > 4 then 3
  else if ((attrsE l 20 (i : Int)).length : Int) > 8 then 3
  else scan (attrF (attrsE l 20 (i : Int))) (rd_T68 l (i : Int)).f3.length ((attrsE l 20 (i : Int)).length - (rd_T68 l (i : Int)).f3.length)
 else 2
theorem node_loop (t : List S77) (ht : ∀ x ∈ t, good77 x) (h8 : t.length ≤ 9223372036854775806) : ∀ (m j : Nat), j + m = t.length → Ev (fun k => types_node.l0 k t (j : Int)) (scan (attrF t) m j)
 | 0, j, h => by
  refine Ev.step (fun k => by rw [types_node.l0]) ?_
  simp only [show ¬ ((j : Int) < (t.length : Int)) by omega, ↓reduceIte]; exact Ev.now _
 | m + 1, j, h => by
  have hj : j < t.length := by omega
  have hg : good77 (rd_T77 t (j : Int)) := by rw [rd77_nat _ _ hj]; exact ht _ (List.getElem_mem hj)
  refine Ev.step (fun k => by rw [types_node.l0]) ?_
  simp only [show ((j : Int) < (t.length : Int)) by omega, show ((j : Int) ≤ (t.length : Int)) by omega, show (0 : Int) ≤ (j : Int) by omega, ↓reduceIte, take_nat]
  refine Ev.bind (attribute_ev (t.take j) _ hg.1 hg.2.2.2) ?_
  unfold scan
  by_cases h0 : attrF t j = 0
  · have h0' : attrE (t.take j) (rd_T77 t (j : Int)) = 0 := h0
    simp only [h0, h0', ↓reduceIte]
    rw [w64 _ (by omega) (by omega)]; exact node_loop t ht h8 m (j + 1) (by omega)
  · have h0' : ¬ attrE (t.take j) (rd_T77 t (j : Int)) = 0 := h0
    simp only [h0, h0', ↓reduceIte]; exact Ev.now _
theorem attrsE_own (l : List S68) (n : Nat) (i : Int) (hi : 0 ≤ i) : ∃ u, attrsE l (n + 1) i = u ++ (rd_T68 l i).f3 := ⟨_, by unfold attrsE; rw [if_neg (by omega)]⟩
theorem node_ev (l : List S68) (l1 : List S71) (hg : Good l) (h : Small l) (i : Nat) (hi : i < l.length) (hu : ∀ j : Nat, j < i → -1 ≤ (rd_T68 l (j : Int)).f1 ∧ (rd_T68 l (j : Int)).f1 < (j : Int)) :
 Ev (fun k => types_node.f k l l1 (i : Int)) (nodeE l i) := by
 have hn := reach_num
 have hx := good_rd hg i hi
 have h20 := h.1
 have h30 := small_rd h i hi
 unfold types_node.f nodeE any_node.f
 simp only [show ((i : Int) < (l.length : Int)) by omega, show (0 : Int) ≤ (i : Int) by omega, show ((i : Int) ≤ (l.length : Int)) by omega, ↓reduceIte, take_nat, Option.bind_some]
 refine Ev.bind (IsName_ev _ (by have := hx.1; omega)) ?_
 cases hb : nameB (rd_T68 l (i : Int)).f0
 · simp only [Bool.false_eq_true, ↓reduceIte]; exact Ev.now _
 · simp only [↓reduceIte]
   cases hp : (l.take i).any (fun m => m.f0.toList == (rd_T68 l (i : Int)).f0.toList)
   · simp only [Bool.false_eq_true, ↓reduceIte]
     by_cases h1 : (rd_T68 l (i : Int)).f1 < -1
     · simp only [h1, ↓reduceIte, true_or]
       refine Ev.step (fun k => by rw [types_node.j0]) ?_
       simp only [↓reduceIte]; exact Ev.now _
     · by_cases h2 : (rd_T68 l (i : Int)).f1 ≥ (i : Int)
       · simp only [h1, h2, ↓reduceIte, or_true, decide_true]
         refine Ev.step (fun k => by rw [types_node.j0]) ?_
         simp only [↓reduceIte]; exact Ev.now _
       · simp only [h1, h2, ↓reduceIte, or_self, decide_false]
         refine Ev.step (fun k => by rw [types_node.j0]) ?_
         simp only [Bool.false_eq_true, ↓reduceIte]
         by_cases h4 : ((rd_T68 l (i : Int)).f3.length : Int) > 4
         · simp only [h4, ↓reduceIte]; exact Ev.now _
         · simp only [h4, ↓reduceIte]
           have hup : Up l i := fun j hj hjl => by
            rcases Nat.lt_or_eq_of_le hj with hj | rfl
            · exact hu j hj
            · exact ⟨by omega, by omega⟩
           refine Ev.bind (attrs_ev l l1 h 20 i (Nat.le_refl _) (by omega) hi hup) ?_
           obtain ⟨u, hu'⟩ := attrsE_own l 19 (i : Int) (by omega)
           have hgt := attrsE_good hg 20 i hi hup
           have hlen : (attrsE l 20 (i : Int)).length = u.length + (rd_T68 l (i : Int)).f3.length := by rw [hu', List.length_append]
           have hle := attrsE_len h 20 i (by omega) hi hup
           generalize attrsE l 20 (i : Int) = t at hgt hlen hle ⊢
           by_cases h8 : (t.length : Int) > 8
           · simp only [h8, ↓reduceIte]; exact Ev.now _
           · simp only [h8, ↓reduceIte]
             rw [w64 _ (by omega) (by omega), show ((t.length : Int) - ((rd_T68 l (i : Int)).f3.length : Int)) = ((t.length - (rd_T68 l (i : Int)).f3.length : Nat) : Int) by omega]
             exact node_loop t hgt (by omega) _ _ (by omega)
   · simp only [↓reduceIte]; exact Ev.now _
theorem rl2_tail (t : List S77) (ht : ∀ x ∈ t, good77 x) (h8 : t.length ≤ 9223372036854775806) (j : Nat) (hj : j < t.length) (r : Int) (hr : Ev (fun k => q4_node.l1 k t ((j : Int) + 1)) r) :
 Ev (fun k => q4_node.l2 k t (j : Int) (j : Int)) (if boundsE (rd_T77 t (j : Int)).f1 (rd_T77 t (j : Int)).f2 (rd_T77 t (j : Int)).f3 = 0 then r else boundsE (rd_T77 t (j : Int)).f1 (rd_T77 t (j : Int)).f2 (rd_T77 t (j : Int)).f3) := by
 have hg : good77 (rd_T77 t (j : Int)) := by rw [rd77_nat _ _ hj]; exact ht _ (List.getElem_mem hj)
 refine Ev.step (fun k => by rw [q4_node.l2]) ?_
 simp only [show ¬ ((j : Int) < (j : Int)) by omega, show ((j : Int) < (t.length : Int)) by omega, show (0 : Int) ≤ (j : Int) by omega, ↓reduceIte]
 refine Ev.bind (rattribute_ev _ _ _ _ hg.2.2.2) ?_
 by_cases h0 : boundsE (rd_T77 t (j : Int)).f1 (rd_T77 t (j : Int)).f2 (rd_T77 t (j : Int)).f3 = 0
 · simp only [h0, ↓reduceIte]; rw [w64 _ (by omega) (by omega)]; exact hr
 · simp only [h0, ↓reduceIte]; exact Ev.now _
theorem rl2_dup (t : List S77) (h8 : t.length ≤ 9223372036854775806) (i : Nat) (hi : i < t.length) (r : Int) (hr : Ev (fun k => q4_node.l2 k t (i : Int) (i : Int)) r) : ∀ (m j : Nat), j + m = i →
 Ev (fun k => q4_node.l2 k t (i : Int) (j : Int)) (if ((t.drop j).take m).any (fun x => x.f0.toList == (rd_T77 t (i : Int)).f0.toList) = true then 5 else r)
 | 0, j, h => by
  obtain rfl : j = i := by omega
  simp only [List.take_zero, List.any_nil, Bool.false_eq_true, ↓reduceIte]; exact hr
 | m + 1, j, h => by
  have hj : j < t.length := by omega
  refine Ev.step (fun k => by rw [q4_node.l2]) ?_
  rw [any_take_succ _ _ _ _ hj, rd77_nat _ _ hj]
  simp only [show ((j : Int) < (i : Int)) by omega, show (0 : Int) ≤ (j : Int) by omega, show ((j : Int) < (t.length : Int)) by omega, show (0 : Int) ≤ (i : Int) by omega, show ((i : Int) < (t.length : Int)) by omega, ↓reduceIte]
  by_cases he : (t[j]).f0.toList = (rd_T77 t (i : Int)).f0.toList
  · simp only [he, ↓reduceIte, beq_self_eq_true, Bool.true_or]; exact Ev.now _
  · simp only [he, ↓reduceIte, beq_eq_false_iff_ne.mpr he, Bool.false_or]
    rw [w64 _ (by omega) (by omega)]; exact rl2_dup t h8 i hi r hr m (j + 1) (by omega)
theorem rnode_loop (t : List S77) (ht : ∀ x ∈ t, good77 x) (h8 : t.length ≤ 9223372036854775806) : ∀ (m j : Nat), j + m = t.length → Ev (fun k => q4_node.l1 k t (j : Int)) (scan (attrF t) m j)
 | 0, j, h => by
  refine Ev.step (fun k => by rw [q4_node.l1]) ?_
  simp only [show ¬ ((j : Int) < (t.length : Int)) by omega, ↓reduceIte]; exact Ev.now _
 | m + 1, j, h => by
  have hn := reach_num
  have hj : j < t.length := by omega
  have hg : good77 (rd_T77 t (j : Int)) := by rw [rd77_nat _ _ hj]; exact ht _ (List.getElem_mem hj)
  have ih := rnode_loop t ht h8 m (j + 1) (by omega)
  have hd := rl2_dup t h8 j hj _ (rl2_tail t ht h8 j hj _ ih) j 0 (by omega)
  rw [List.drop_zero] at hd
  refine Ev.step (fun k => by rw [q4_node.l1]) ?_
  simp only [show ((j : Int) < (t.length : Int)) by omega, show (0 : Int) ≤ (j : Int) by omega, ↓reduceIte]
  refine Ev.bind (rIsName_ev _ (by have := hg.1; omega)) ?_
  unfold scan
  cases hb : nameB (rd_T77 t (j : Int)).f0
  · have : attrF t j = 2 := by unfold attrF attrE; simp [hb]
    simp only [this, Bool.false_eq_true, ↓reduceIte]; exact Ev.now _
  · simp only [↓reduceIte]
    cases hc : (t.take j).any (fun x => x.f0.toList == (rd_T77 t (j : Int)).f0.toList)
    · have e : attrF t j = boundsE (rd_T77 t (j : Int)).f1 (rd_T77 t (j : Int)).f2 (rd_T77 t (j : Int)).f3 := by unfold attrF attrE; simp only [hb, hc, Bool.false_eq_true, ↓reduceIte]
      simp only [hc, Bool.false_eq_true, ↓reduceIte] at hd
      rw [e]; exact hd
    · have e : attrF t j = 5 := by unfold attrF attrE; simp only [hb, hc, ↓reduceIte]
      simp only [hc, ↓reduceIte] at hd
      rw [e]; exact hd
theorem rnode_dup (l : List S68) (l1 : List S71) (h20 : l.length ≤ 9223372036854775806) (i : Nat) (hi : i < l.length) (a0 : ByteArray) (a1 : Int) (a2 : Bool) (a3 : List S77) (r : Int) (hr : Ev (fun k => q4_node.l0 k (i : Int) (i : Int) l l1 a0 a1 a2 a3) r) : ∀ (m j : Nat), j + m = i →
 Ev (fun k => q4_node.l0 k (i : Int) (j : Int) l l1 a0 a1 a2 a3) (if ((l.drop j).take m).any (fun x => x.f0.toList == a0.toList) = true then 5 else r)
 | 0, j, h => by
  obtain rfl : j = i := by omega
  simp only [List.take_zero, List.any_nil, Bool.false_eq_true, ↓reduceIte]; exact hr
 | m + 1, j, h => by
  have hj : j < l.length := by omega
  refine Ev.step (fun k => by rw [q4_node.l0]) ?_
  rw [any_take_succ _ _ _ _ hj, rd68_nat _ _ hj]
  simp only [show ((j : Int) < (i : Int)) by omega, show (0 : Int) ≤ (j : Int) by omega, show ((j : Int) < (l.length : Int)) by omega, ↓reduceIte]
  by_cases he : (l[j]).f0.toList = a0.toList
  · simp only [he, ↓reduceIte, beq_self_eq_true, Bool.true_or]; exact Ev.now _
  · simp only [he, ↓reduceIte, beq_eq_false_iff_ne.mpr he, Bool.false_or]
    rw [w64 _ (by omega) (by omega)]; exact rnode_dup l l1 h20 i hi a0 a1 a2 a3 r hr m (j + 1) (by omega)
theorem rnode_ev (l : List S68) (l1 : List S71) (hg : Good l) (h : Small l) (i : Nat) (hi : i < l.length) (hu : ∀ j : Nat, j < i → -1 ≤ (rd_T68 l (j : Int)).f1 ∧ (rd_T68 l (j : Int)).f1 < (j : Int)) :
 Ev (fun k => q4_node.f k l l1 (i : Int)) (nodeE l i) := by
 have hn := reach_num
 have hx := good_rd hg i hi
 have h20 := h.1
 have h30 := small_rd h i hi
 have tail : Ev (fun k => q4_node.l0 k (i : Int) (i : Int) l l1 (rd_T68 l (i : Int)).f0 (rd_T68 l (i : Int)).f1 (rd_T68 l (i : Int)).f2 (rd_T68 l (i : Int)).f3) (if (rd_T68 l (i : Int)).f1 < -1 ∨ (rd_T68 l (i : Int)).f1 ≥ (i : Int) then 6
  else if ((rd_T68 l (i : Int)).f3.length : Int) > 4 then 3
  else if ((attrsE l 20 (i : Int)).length : Int) > 8 then 3
  else scan (attrF (attrsE l 20 (i : Int))) (rd_T68 l (i : Int)).f3.length ((attrsE l 20 (i : Int)).length - (rd_T68 l (i : Int)).f3.length)) := by
  refine Ev.step (fun k => by rw [q4_node.l0]) ?_
  rw [w64 ((i : Int) - 1) (by omega) (by omega)]
  simp only [show ¬ ((i : Int) < (i : Int)) by omega, ↓reduceIte, in_ev, Option.bind_some]
  by_cases h1 : (rd_T68 l (i : Int)).f1 < -1 ∨ (rd_T68 l (i : Int)).f1 ≥ (i : Int)
  · have : (decide ((-1 : Int) ≤ (rd_T68 l (i : Int)).f1) && decide ((rd_T68 l (i : Int)).f1 ≤ (i : Int) - 1)) = false := by simp; omega
    simp only [this, if_pos h1, Bool.false_eq_true, ↓reduceIte]; exact Ev.now _
  · have : (decide ((-1 : Int) ≤ (rd_T68 l (i : Int)).f1) && decide ((rd_T68 l (i : Int)).f1 ≤ (i : Int) - 1)) = true := by simp; omega
    simp only [this, if_neg h1, ↓reduceIte]
    have hup : Up l i := fun j hj hjl => by
     rcases Nat.lt_or_eq_of_le hj with hj | rfl
     · exact hu j hj
     · exact ⟨by omega, by omega⟩
    refine Ev.bind (rattrs_ev l l1 h 20 i (Nat.le_refl _) (by omega) hi hup) ?_
    obtain ⟨u, hu'⟩ := attrsE_own l 19 (i : Int) (by omega)
    have hgt := attrsE_good hg 20 i hi hup
    have hlen : (attrsE l 20 (i : Int)).length = u.length + (rd_T68 l (i : Int)).f3.length := by rw [hu', List.length_append]
    have hle := attrsE_len h 20 i (by omega) hi hup
    generalize attrsE l 20 (i : Int) = t at hgt hlen hle ⊢
    by_cases h4 : ((rd_T68 l (i : Int)).f3.length : Int) > 4
    · simp only [h4, ↓reduceIte]
      refine Ev.step (fun k => by rw [q4_node.j1]) ?_
      simp only [↓reduceIte]; exact Ev.now _
    · simp only [h4, ↓reduceIte]
      refine Ev.step (fun k => by rw [q4_node.j1]) ?_
      by_cases h8 : (t.length : Int) > 8
      · simp only [h8, decide_true, ↓reduceIte]; exact Ev.now _
      · simp only [h8, decide_false, Bool.false_eq_true, ↓reduceIte]
        rw [w64 _ (by omega) (by omega), show ((t.length : Int) - ((rd_T68 l (i : Int)).f3.length : Int)) = ((t.length - (rd_T68 l (i : Int)).f3.length : Nat) : Int) by omega]
        exact rnode_loop t hgt (by omega) _ _ (by omega)
 have hd := rnode_dup l l1 (by omega) i hi _ _ _ _ _ tail i 0 (by omega)
 rw [List.drop_zero] at hd
 unfold q4_node.f nodeE
 simp only [show ((i : Int) < (l.length : Int)) by omega, show (0 : Int) ≤ (i : Int) by omega, ↓reduceIte]
 refine Ev.bind (rIsName_ev _ (by have := hx.1; omega)) ?_
 cases hb : nameB (rd_T68 l (i : Int)).f0
 · simp only [Bool.false_eq_true, ↓reduceIte]; exact Ev.now _
 · simp only [↓reduceIte]; exact hd
def insideB (x : Int) (l : List S68) : Bool := decide (0 ≤ x) && decide (x < (l.length : Int))
def boundB (a b : Int) : Bool := (decide (0 ≤ a) && decide (a ≤ 40)) && (decide (b = -1) || (decide (a ≤ b) && decide (b ≤ 40)))
def edgeE (l : List S68) (l1 : List S71) (i : Nat) : Int :=
 if nameB (rd_T71 l1 (i : Int)).f0 = true then
  if (l1.take i).any (fun m => m.f0.toList == (rd_T71 l1 (i : Int)).f0.toList) = true then 5
  else if (insideB (rd_T71 l1 (i : Int)).f1 l && insideB (rd_T71 l1 (i : Int)).f2 l && (boundB (rd_T71 l1 (i : Int)).f3 (rd_T71 l1 (i : Int)).f4 && boundB (rd_T71 l1 (i : Int)).f5 (rd_T71 l1 (i : Int)).f6)) = true then 0 else 6
 else 2
theorem bounded_ev (a b : Int) : types_bounded.f a b = some (boundB a b) := by
 unfold types_bounded.f boundB
 by_cases h1 : a ≥ 0 <;> by_cases h2 : a ≤ 40 <;> by_cases h3 : b = -1 <;> by_cases h4 : b ≥ a <;> by_cases h5 : b ≤ 40 <;>
  simp only [h1, h2, h3, h4, h5, ↓reduceIte, decide_true, decide_false, Bool.true_and, Bool.false_and, Bool.or_true, Bool.true_or, Bool.or_false, Bool.false_or, Bool.and_true, Bool.and_false, show 0 ≤ a ↔ a ≥ 0 from Iff.rfl, show a ≤ b ↔ b ≥ a from Iff.rfl] <;> simp_all
theorem rbound_ev (a b : Int) : q4_bound.f a b = some (boundB a b) := by
 unfold q4_bound.f boundB
 simp only [in_ev, Option.bind_some]
 by_cases h1 : (decide ((0 : Int) ≤ a) && decide (a ≤ 40)) = true
 · simp only [h1, ↓reduceIte, Bool.true_and]
   by_cases h3 : b = -1
   · simp only [h3, ↓reduceIte, decide_true, Bool.true_or]
   · simp only [h3, ↓reduceIte, decide_false, Bool.false_or]
 · simp only [h1, ↓reduceIte]; simp only [Bool.not_eq_true] at h1; simp only [h1, Bool.false_and, Bool.false_eq_true, ↓reduceIte]
theorem edge_ev (l : List S68) (l1 : List S71) (h1g : ∀ x ∈ l1, good71 x) (h1l : l1.length ≤ 9223372036854775806) (i : Nat) (hi : i < l1.length) : Ev (fun k => types_edge.f k l l1 (i : Int)) (edgeE l l1 i) := by
 have hn := reach_num
 have hx : good71 (rd_T71 l1 (i : Int)) := by rw [rd71_nat _ _ hi]; exact h1g _ (List.getElem_mem hi)
 unfold types_edge.f edgeE any_edge.f edge_inside.f
 simp only [show ((i : Int) < (l1.length : Int)) by omega, show (0 : Int) ≤ (i : Int) by omega, show ((i : Int) ≤ (l1.length : Int)) by omega, ↓reduceIte, take_nat, Option.bind_some]
 refine Ev.bind (IsName_ev _ (by have := hx.1; omega)) ?_
 generalize rd_T71 l1 (i : Int) = x
 cases hb : nameB x.f0
 · simp only [Bool.false_eq_true, ↓reduceIte]; exact Ev.now _
 · simp only [↓reduceIte]
   cases hp : (l1.take i).any (fun m => m.f0.toList == x.f0.toList)
   · simp only [Bool.false_eq_true, ↓reduceIte]
     have j0 : ∀ b : Bool, Ev (fun k => types_edge.j0 k b x.f0 x.f1 x.f2 x.f3 x.f4 x.f5 x.f6) (if (!b && (boundB x.f3 x.f4 && boundB x.f5 x.f6)) = true then 0 else 6) := by
      intro b
      refine Ev.step (fun k => by rw [types_edge.j0]) ?_
      simp only [bounded_ev, Option.bind_some]
      cases b <;> cases boundB x.f3 x.f4 <;> cases boundB x.f5 x.f6 <;> simp only [Bool.not_false, Bool.not_true, Bool.true_and, Bool.false_and, Bool.and_self, Bool.and_false, Bool.false_eq_true, ↓reduceIte] <;> exact Ev.now _
     change Ev (fun k => if insideB x.f1 l = true then types_edge.j0 k (!insideB x.f2 l) x.f0 x.f1 x.f2 x.f3 x.f4 x.f5 x.f6 else types_edge.j0 k true x.f0 x.f1 x.f2 x.f3 x.f4 x.f5 x.f6) _
     cases insideB x.f1 l
     · simp only [Bool.false_eq_true, ↓reduceIte, Bool.false_and]
       have := j0 true; simpa using this
     · simp only [↓reduceIte, Bool.true_and]
       have := j0 (!insideB x.f2 l); simpa using this
   · simp only [↓reduceIte]; exact Ev.now _
theorem redge_dup (l : List S68) (l1 : List S71) (h20 : l1.length ≤ 9223372036854775806) (i : Nat) (hi : i < l1.length) (a0 : ByteArray) (a1 a2 a3 a4 a5 a6 : Int) (r : Int) (hr : Ev (fun k => q4_edge.l0 k (i : Int) (i : Int) l l1 a0 a1 a2 a3 a4 a5 a6) r) : ∀ (m j : Nat), j + m = i →
 Ev (fun k => q4_edge.l0 k (i : Int) (j : Int) l l1 a0 a1 a2 a3 a4 a5 a6) (if ((l1.drop j).take m).any (fun x => x.f0.toList == a0.toList) = true then 5 else r)
 | 0, j, h => by
  obtain rfl : j = i := by omega
  simp only [List.take_zero, List.any_nil, Bool.false_eq_true, ↓reduceIte]; exact hr
 | m + 1, j, h => by
  have hj : j < l1.length := by omega
  refine Ev.step (fun k => by rw [q4_edge.l0]) ?_
  rw [any_take_succ _ _ _ _ hj, rd71_nat _ _ hj]
  simp only [show ((j : Int) < (i : Int)) by omega, show (0 : Int) ≤ (j : Int) by omega, show ((j : Int) < (l1.length : Int)) by omega, ↓reduceIte]
  by_cases he : (l1[j]).f0.toList = a0.toList
  · simp only [he, ↓reduceIte, beq_self_eq_true, Bool.true_or]; exact Ev.now _
  · simp only [he, ↓reduceIte, beq_eq_false_iff_ne.mpr he, Bool.false_or]
    rw [w64 _ (by omega) (by omega)]; exact redge_dup l l1 h20 i hi a0 a1 a2 a3 a4 a5 a6 r hr m (j + 1) (by omega)
theorem redge_ev (l : List S68) (l1 : List S71) (hl : l.length ≤ 9223372036854775806) (h1g : ∀ x ∈ l1, good71 x) (h1l : l1.length ≤ 9223372036854775806) (i : Nat) (hi : i < l1.length) : Ev (fun k => q4_edge.f k l l1 (i : Int)) (edgeE l l1 i) := by
 have hn := reach_num
 have hx : good71 (rd_T71 l1 (i : Int)) := by rw [rd71_nat _ _ hi]; exact h1g _ (List.getElem_mem hi)
 have tail : ∀ x : S71, Ev (fun k => q4_edge.l0 k (i : Int) (i : Int) l l1 x.f0 x.f1 x.f2 x.f3 x.f4 x.f5 x.f6) (if (insideB x.f1 l && insideB x.f2 l && (boundB x.f3 x.f4 && boundB x.f5 x.f6)) = true then 0 else 6) := by
  intro x
  refine Ev.step (fun k => by rw [q4_edge.l0]) ?_
  rw [w64 ((l.length : Int) - 1) (by omega) (by omega)]
  simp only [show ¬ ((i : Int) < (i : Int)) by omega, ↓reduceIte, in_ev, rbound_ev, Option.bind_some]
  have hin : ∀ y : Int, (decide ((0 : Int) ≤ y) && decide (y ≤ (l.length : Int) - 1)) = insideB y l := by
   intro y; unfold insideB; rw [Bool.eq_iff_iff]; simp only [Bool.and_eq_true, decide_eq_true_eq]; omega
  rw [hin, hin]
  cases insideB x.f1 l <;> cases insideB x.f2 l <;> cases boundB x.f3 x.f4 <;> cases boundB x.f5 x.f6 <;> simp only [Bool.true_and, Bool.false_and, Bool.and_self, Bool.and_false, Bool.false_eq_true, ↓reduceIte] <;> exact Ev.now _
 have hd := redge_dup l l1 (by omega) i hi _ _ _ _ _ _ _ _ (tail (rd_T71 l1 (i : Int))) i 0 (by omega)
 rw [List.drop_zero] at hd
 unfold q4_edge.f edgeE
 simp only [show ((i : Int) < (l1.length : Int)) by omega, show (0 : Int) ≤ (i : Int) by omega, ↓reduceIte]
 refine Ev.bind (rIsName_ev _ (by have := hx.1; omega)) ?_
 cases hb : nameB (rd_T71 l1 (i : Int)).f0
 · simp only [Bool.false_eq_true, ↓reduceIte]; exact Ev.now _
 · simp only [↓reduceIte]; exact hd
set_option linter.unusedSectionVars false
def firstE (F : Nat → Int) (nm : Nat → ByteArray) (r : ByteArray × Int) : Nat → Nat → ByteArray × Int
 | 0, _ => r
 | m + 1, i => if F i = 0 then firstE F nm r m (i + 1) else (nm i, F i)
def validE (l : List S68) (l1 : List S71) : ByteArray × Int :=
 if (l.length : Int) = 0 then ((⟨#[]⟩ : ByteArray), 7) else if (l.length : Int) > 12 then ((⟨#[]⟩ : ByteArray), 3) else if (l1.length : Int) > 20 then ((⟨#[]⟩ : ByteArray), 3)
 else firstE (nodeE l) (fun i => (rd_T68 l (i : Int)).f0) (firstE (edgeE l l1) (fun i => (rd_T71 l1 (i : Int)).f0) ((⟨#[]⟩ : ByteArray), 0) l1.length 0) l.length 0
theorem nodeE_zero {l : List S68} {i : Nat} (h : nodeE l i = 0) : -1 ≤ (rd_T68 l (i : Int)).f1 ∧ (rd_T68 l (i : Int)).f1 < (i : Int) := by
 unfold nodeE at h
 split at h
 · split at h
   · exact absurd h (by decide)
   · split at h
     · exact absurd h (by decide)
     · omega
 · exact absurd h (by decide)
section
variable (l : List S68) (l1 : List S71) (hg : Good l) (h : Small l) (h1g : ∀ x ∈ l1, good71 x) (h1l : l1.length ≤ 30)
include hg h h1g h1l
theorem valid_edges : ∀ (m i : Nat), i + m = l1.length → Ev (fun k => types_Valid.l1 k l1 (l1.length : Int) (i : Int) l l1) (firstE (edgeE l l1) (fun i => (rd_T71 l1 (i : Int)).f0) ((⟨#[]⟩ : ByteArray), 0) m i)
 | 0, i, hi => by
  refine Ev.step (fun k => by rw [types_Valid.l1]) ?_
  simp only [show ¬ ((i : Int) < (l1.length : Int)) by omega, ↓reduceIte]; exact Ev.now _
 | m + 1, i, hi => by
  refine Ev.step (fun k => by rw [types_Valid.l1]) ?_
  simp only [show ((i : Int) < (l1.length : Int)) by omega, show (0 : Int) ≤ (i : Int) by omega, ↓reduceIte]
  refine Ev.bind (edge_ev l l1 h1g (by omega) i (by omega)) ?_
  unfold firstE
  by_cases h0 : edgeE l l1 i = 0
  · simp only [h0, ↓reduceIte]; rw [w64 _ (by omega) (by omega)]; exact valid_edges m (i + 1) (by omega)
  · simp only [h0, ↓reduceIte]; exact Ev.now _
theorem valid_nodes : ∀ (m i : Nat), i + m = l.length → (∀ j : Nat, j < i → -1 ≤ (rd_T68 l (j : Int)).f1 ∧ (rd_T68 l (j : Int)).f1 < (j : Int)) →
 Ev (fun k => types_Valid.l0 k l (l.length : Int) (i : Int) l l1) (firstE (nodeE l) (fun i => (rd_T68 l (i : Int)).f0) (firstE (edgeE l l1) (fun i => (rd_T71 l1 (i : Int)).f0) ((⟨#[]⟩ : ByteArray), 0) l1.length 0) m i)
 | 0, i, hi, hu => by
  refine Ev.step (fun k => by rw [types_Valid.l0]) ?_
  simp only [show ¬ ((i : Int) < (l.length : Int)) by omega, ↓reduceIte]; exact valid_edges l l1 hg h h1g h1l _ 0 (by omega)
 | m + 1, i, hi, hu => by
  have h20 := h.1
  refine Ev.step (fun k => by rw [types_Valid.l0]) ?_
  simp only [show ((i : Int) < (l.length : Int)) by omega, show (0 : Int) ≤ (i : Int) by omega, ↓reduceIte]
  refine Ev.bind (node_ev l l1 hg h i (by omega) hu) ?_
  unfold firstE
  by_cases h0 : nodeE l i = 0
  · simp only [h0, ↓reduceIte]; rw [w64 _ (by omega) (by omega)]
    exact valid_nodes m (i + 1) (by omega) (fun j hj => by
     rcases Nat.lt_or_eq_of_le (Nat.le_of_lt_succ hj) with hj | rfl
     · exact hu j hj
     · exact nodeE_zero h0)
  · simp only [h0, ↓reduceIte]; exact Ev.now _
theorem valid_ev : Ev (fun k => types_Valid.f k l l1) (validE l l1) := by
 unfold types_Valid.f validE
 by_cases h0 : (l.length : Int) = 0
 · simp only [if_pos h0]; exact Ev.now _
 · by_cases h1 : (l.length : Int) > 12
   · simp only [if_neg h0, if_pos h1]; exact Ev.now _
   · by_cases h2 : (l1.length : Int) > 20
     · simp only [if_neg h0, if_neg h1, if_pos h2]; exact Ev.now _
     · simp only [if_neg h0, if_neg h1, if_neg h2]; exact valid_nodes l l1 hg h h1g h1l _ 0 (by omega) (fun j hj => by omega)
theorem rvalid_edges : ∀ (m i : Nat), i + m = l1.length → Ev (fun k => q4_Valid.l1 k (i : Int) l l1) (firstE (edgeE l l1) (fun i => (rd_T71 l1 (i : Int)).f0) ((⟨#[]⟩ : ByteArray), 0) m i)
 | 0, i, hi => by
  refine Ev.step (fun k => by rw [q4_Valid.l1]) ?_
  simp only [show ¬ ((i : Int) < (l1.length : Int)) by omega, ↓reduceIte]; exact Ev.now _
 | m + 1, i, hi => by
  have h20 := h.1
  refine Ev.step (fun k => by rw [q4_Valid.l1]) ?_
  simp only [show ((i : Int) < (l1.length : Int)) by omega, show (0 : Int) ≤ (i : Int) by omega, ↓reduceIte]
  refine Ev.bind (redge_ev l l1 (by omega) h1g (by omega) i (by omega)) ?_
  unfold firstE
  by_cases h0 : edgeE l l1 i = 0
  · simp only [h0, ↓reduceIte]; rw [w64 _ (by omega) (by omega)]; exact rvalid_edges m (i + 1) (by omega)
  · simp only [h0, ↓reduceIte]; exact Ev.now _
theorem rvalid_nodes : ∀ (m i : Nat), i + m = l.length → (∀ j : Nat, j < i → -1 ≤ (rd_T68 l (j : Int)).f1 ∧ (rd_T68 l (j : Int)).f1 < (j : Int)) →
 Ev (fun k => q4_Valid.l0 k (i : Int) l l1) (firstE (nodeE l) (fun i => (rd_T68 l (i : Int)).f0) (firstE (edgeE l l1) (fun i => (rd_T71 l1 (i : Int)).f0) ((⟨#[]⟩ : ByteArray), 0) l1.length 0) m i)
 | 0, i, hi, hu => by
  refine Ev.step (fun k => by rw [q4_Valid.l0]) ?_
  simp only [show ¬ ((i : Int) < (l.length : Int)) by omega, ↓reduceIte]; exact rvalid_edges l l1 hg h h1g h1l _ 0 (by omega)
 | m + 1, i, hi, hu => by
  have h20 := h.1
  refine Ev.step (fun k => by rw [q4_Valid.l0]) ?_
  simp only [show ((i : Int) < (l.length : Int)) by omega, show (0 : Int) ≤ (i : Int) by omega, ↓reduceIte]
  refine Ev.bind (rnode_ev l l1 hg h i (by omega) hu) ?_
  unfold firstE
  by_cases h0 : nodeE l i = 0
  · simp only [h0, ↓reduceIte]; rw [w64 _ (by omega) (by omega)]
    exact rvalid_nodes m (i + 1) (by omega) (fun j hj => by
     rcases Nat.lt_or_eq_of_le (Nat.le_of_lt_succ hj) with hj | rfl
     · exact hu j hj
     · exact nodeE_zero h0)
  · simp only [h0, ↓reduceIte]; exact Ev.now _
theorem rvalid_ev : Ev (fun k => q4_Valid.f k l l1) (validE l l1) := by
 unfold q4_Valid.f validE
 by_cases h0 : (l.length : Int) = 0
 · simp only [if_pos h0]; exact Ev.now _
 · by_cases h1 : (l.length : Int) > 12
   · simp only [if_neg h0, if_pos h1]
     refine Ev.step (fun k => by rw [q4_Valid.j0]) ?_
     simp only [↓reduceIte]; exact Ev.now _
   · simp only [if_neg h0, if_neg h1]
     refine Ev.step (fun k => by rw [q4_Valid.j0]) ?_
     by_cases h2 : (l1.length : Int) > 20
     · simp only [h2, decide_true, ↓reduceIte]; exact Ev.now _
     · simp only [h2, decide_false, Bool.false_eq_true, ↓reduceIte]; exact rvalid_nodes l l1 hg h h1g h1l _ 0 (by omega) (fun j hj => by omega)
end
section
variable (l : List S68) (l1 : List S71)
end
def AllUp (l : List S68) : Prop := ∀ j : Nat, j < l.length → -1 ≤ (rd_T68 l (j : Int)).f1 ∧ (rd_T68 l (j : Int)).f1 < (j : Int)
theorem firstE_zero {F : Nat → Int} {nm : Nat → ByteArray} {r : ByteArray × Int} : ∀ (m i : Nat), (firstE F nm r m i).2 = 0 → (∀ j, i ≤ j → j < i + m → F j = 0) ∧ r.2 = 0
 | 0, i, h => ⟨fun j h1 h2 => by omega, h⟩
 | m + 1, i, h => by
  unfold firstE at h
  split at h
  · next h0 =>
    obtain ⟨h1, h2⟩ := firstE_zero m (i + 1) h
    refine ⟨fun j hj hk => ?_, h2⟩
    rcases Nat.lt_or_eq_of_le hj with hj | rfl
    · exact h1 j hj (by omega)
    · exact h0
  · next h0 => exact absurd h h0
theorem validE_zero {l : List S68} {l1 : List S71} (h : (validE l l1).2 = 0) : 0 < l.length ∧ l.length ≤ 12 ∧ l1.length ≤ 20 ∧ (∀ j, j < l.length → nodeE l j = 0) ∧ (∀ j, j < l1.length → edgeE l l1 j = 0) := by
 unfold validE at h
 split at h
 · exact absurd h (by simp)
 · split at h
   · exact absurd h (by simp)
   · split at h
     · exact absurd h (by simp)
     · obtain ⟨h1, h2⟩ := firstE_zero _ _ h
       obtain ⟨h3, _⟩ := firstE_zero _ _ h2
       exact ⟨by omega, by omega, by omega, fun j hj => h1 j (by omega) (by omega), fun j hj => h3 j (by omega) (by omega)⟩
theorem validE_up {l : List S68} {l1 : List S71} (h : (validE l l1).2 = 0) : AllUp l := fun j hj => nodeE_zero ((validE_zero h).2.2.2.1 j hj)
theorem rd_nat (l : List Int) (i : Nat) (h : i < l.length) : rd l (i : Int) = l[i] := by unfold rd; simp [h]
theorem IndexI_ev (l : List Int) (a : Int) (hl : l.length ≤ 9223372036854775807) : ∀ (m i : Nat), i + m = l.length →
 ∃ r, Ev (fun k => slices_Index_int_int.l0 k l a (l.length : Int) (i : Int)) r ∧ decide (r ≥ 0) = (l.drop i).any (fun x => x == a)
 | 0, i, h => ⟨-1, Ev.step (fun k => by rw [slices_Index_int_int.l0]) (by simp only [show ¬ ((i : Int) < (l.length : Int)) by omega, ↓reduceIte]; exact Ev.now _), by
  rw [List.drop_eq_nil_of_le (by omega)]; rfl⟩
 | m + 1, i, h => by
  have hi : i < l.length := by omega
  have hd := List.drop_eq_getElem_cons hi
  have hr := rd_nat l i hi
  by_cases he : a = l[i]
  · refine ⟨(i : Int), Ev.step (fun k => by rw [slices_Index_int_int.l0]) ?_, ?_⟩
    · simp only [hr, show ((i : Int) < (l.length : Int)) by omega, show (0 : Int) ≤ (i : Int) by omega, he, if_true, ↓reduceIte]; exact Ev.now _
    · rw [hd, List.any_cons, he]; simp
  · obtain ⟨r, hr', hp⟩ := IndexI_ev l a hl m (i + 1) (by omega)
    refine ⟨r, Ev.step (fun k => by rw [slices_Index_int_int.l0]) ?_, ?_⟩
    · simp only [hr, show ((i : Int) < (l.length : Int)) by omega, show (0 : Int) ≤ (i : Int) by omega, he, if_true, if_false, ↓reduceIte]
      rw [w64 _ (by omega) (by omega)]; exact hr'
    · rw [hd, hp, List.any_cons]
      have : (l[i] == a) = false := by simpa using fun h => he h.symm
      rw [this]; rfl
theorem ContainsI_ev (l : List Int) (a : Int) (hl : l.length ≤ 9223372036854775807) : Ev (fun k => slices_Contains_int_int.f k l a) (l.any (fun x => x == a)) := by
 obtain ⟨r, hr, hp⟩ := IndexI_ev l a hl l.length 0 (by omega)
 unfold slices_Contains_int_int.f slices_Index_int_int.f
 refine Ev.bind hr ?_
 rw [hp]; exact Ev.now _
theorem Reverse_loop : ∀ (m : Nat) (x : List Int) (i j : Nat), x.length ≤ 9223372036854775807 → i + j + 1 = x.length → j ≤ i + m →
 ∃ r, Ev (fun k => slices_Reverse_int_int.l0 k x (i : Int) (j : Int)) r ∧ r.length = x.length ∧ ∀ p, p < x.length → r[p]? = if i ≤ p ∧ p ≤ j then x[x.length - 1 - p]? else x[p]?
 | m, x, i, j, hx, hij, hm => by
  by_cases hc : i < j
  · cases m with
    | zero => omega
    | succ m =>
     obtain ⟨r, hr, hl, hp⟩ := Reverse_loop m ((x.set i x[j]).set j x[i]) (i + 1) (j - 1) (by simpa using hx) (by simp; omega) (by omega)
     refine ⟨r, Ev.step (fun k => by rw [slices_Reverse_int_int.l0]) ?_, by simpa using hl, fun p hpl => ?_⟩
     · simp only [show ((i : Int) < (j : Int)) by omega, show (0 : Int) ≤ (j : Int) by omega, show ((j : Int) < (x.length : Int)) by omega, show (0 : Int) ≤ (i : Int) by omega, show ((i : Int) < (x.length : Int)) by omega, ↓reduceIte]
       rw [rd_nat _ _ (by omega), rd_nat _ _ (by omega), w64 _ (by omega) (by omega), w64 _ (by omega) (by omega), Int.toNat_natCast, Int.toNat_natCast, show ((j : Int) - 1) = ((j - 1 : Nat) : Int) by omega]
       exact hr
     · have := hp p (by simpa using hpl)
       rw [this]
       simp only [List.length_set, List.getElem?_set]
       by_cases h1 : i ≤ p ∧ p ≤ j
       · rw [if_pos h1]
         by_cases h2 : i + 1 ≤ p ∧ p ≤ j - 1
         · rw [if_pos h2, if_neg (by omega), if_neg (by omega)]
         · rw [if_neg h2]
           by_cases h3 : p = i
           · subst h3
             rw [if_neg (by omega), if_pos rfl, if_pos hpl]
             rw [show x.length - 1 - p = j by omega, List.getElem?_eq_getElem (by omega)]
           · obtain rfl : p = j := by omega
             rw [if_pos rfl, if_pos (by simpa using hpl)]
             rw [show x.length - 1 - p = i by omega, List.getElem?_eq_getElem (by omega)]
       · rw [if_neg h1, if_neg (by omega), if_neg (by omega), if_neg (by omega)]
  · refine ⟨x, Ev.step (fun k => by rw [slices_Reverse_int_int.l0]) ?_, rfl, fun p hpl => ?_⟩
    · simp only [show ¬ ((i : Int) < (j : Int)) by omega, ↓reduceIte]; exact Ev.now _
    · split
      · rw [show x.length - 1 - p = p by omega]
      · rfl
theorem Reverse_ev (l : List Int) (hl : l.length ≤ 9223372036854775807) : Ev (fun k => slices_Reverse_int_int.f k l) l.reverse := by
 unfold slices_Reverse_int_int.f
 by_cases h0 : l.length = 0
 · obtain rfl := List.length_eq_zero_iff.mp h0
   refine Ev.step (fun k => by rw [slices_Reverse_int_int.l0]) ?_
   rw [show wrap64 ((([] : List Int).length : Int) - 1) = -1 from w64 _ (by simp) (by simp)]
   simp only [show ¬ ((0 : Int) < -1) by decide, ↓reduceIte]; exact Ev.now _
 · obtain ⟨r, hr, hlr, hp⟩ := Reverse_loop l.length l 0 (l.length - 1) hl (by omega) (by omega)
   have : r = l.reverse := by
    refine List.ext_getElem? fun p => ?_
    by_cases h : p < l.length
    · rw [hp p h, if_pos (by omega), List.getElem?_reverse h]
    · rw [List.getElem?_eq_none (by omega), List.getElem?_eq_none (by simp; omega)]
   rw [← this, w64 _ (by omega) (by omega), show ((l.length : Int) - 1) = ((l.length - 1 : Nat) : Int) by omega]
   exact hr
def chain (l : List S68) : Nat → Int → List Int
 | 0, _ => []
 | n + 1, i => if i < 0 then [] else i :: chain l n (rd_T68 l i).f1
theorem chain_neg (l : List S68) (n : Nat) (i : Int) (hi : i < 0) : chain l n i = [] := by
 cases n with
 | zero => rfl
 | succ n => exact if_pos hi
theorem chain_pos (l : List S68) (n : Nat) (i : Int) (hi : 0 ≤ i) : chain l (n + 1) i = i :: chain l n (rd_T68 l i).f1 := if_neg (by omega)
theorem chain_len (l : List S68) : ∀ (n : Nat) (i : Int), (chain l n i).length ≤ n
 | 0, i => Nat.le_refl _
 | n + 1, i => by
  unfold chain
  split
  · exact Nat.zero_le _
  · exact Nat.succ_le_succ (chain_len l n _)
def isB (l : List S68) (a b : Int) : Bool := (chain l 20 a).any (fun x => x == b)
def At (l : List S68) (i : Int) : Prop := -1 ≤ i ∧ i < (l.length : Int)
theorem up_at {l : List S68} (hu : AllUp l) {i : Int} (hi : At l i) (h0 : 0 ≤ i) : At l (rd_T68 l i).f1 ∧ (rd_T68 l i).f1 < i := by
 obtain ⟨j, rfl⟩ : ∃ j : Nat, i = (j : Int) := ⟨i.toNat, by omega⟩
 have hi2 := hi.2
 obtain ⟨h1, h2⟩ := hu j (by omega)
 exact ⟨⟨h1, by omega⟩, h2⟩
section
variable (l : List S68) (l1 : List S71) (hu : AllUp l) (h20 : l.length ≤ 20)
include hu h20
theorem line_loop : ∀ (n : Nat) (i : Int) (acc : List Int), At l i → i < (n : Int) → acc.length + n ≤ 9223372036 → Ev (fun k => types_line.l0 k i acc l l1) (acc ++ chain l n i).reverse
 | n, i, acc, hi, hn, ha => by
  rcases Int.lt_or_le i 0 with hc | hc
  · rw [chain_neg _ _ _ hc, List.append_nil]
    refine Ev.step (fun k => by rw [types_line.l0]) ?_
    simp only [show ¬ (i ≥ 0) by omega, ↓reduceIte]
    exact Ev.bind (Reverse_ev acc (by omega)) (Ev.now _)
  · cases n with
    | zero => omega
    | succ n =>
     obtain ⟨h1, h2⟩ := up_at hu hi hc
     have hi2 := hi.2
     refine Ev.step (fun k => by rw [types_line.l0]) ?_
     simp only [show (i ≥ 0) by omega, show acc.length < 17592186044416 by omega, hc, hi2, ↓reduceIte]
     rw [chain_pos _ _ _ hc]
     have := line_loop n (rd_T68 l i).f1 (acc ++ [i]) h1 (by omega) (by simp; omega)
     rw [List.append_assoc] at this
     exact this
theorem line_ev (i : Int) (hi : At l i) : Ev (fun k => types_line.f k l l1 i) (chain l 20 i).reverse := by
 have hi2 := hi.2
 have := line_loop l l1 hu h20 20 i [] hi (by omega) (by simp)
 exact this
theorem is_ev (a b : Int) (ha : At l a) : Ev (fun k => types_is.f k l l1 a b) (isB l a b) := by
 unfold types_is.f
 refine Ev.bind (line_ev l l1 hu h20 a ha) ?_
 have hl : (chain l 20 a).reverse.length ≤ 9223372036854775807 := by have := chain_len l 20 a; simp; omega
 refine Ev.bind (ContainsI_ev _ b hl) ?_
 rw [List.any_reverse]; exact Ev.now _
theorem below1_loop (b : Int) (hb : 0 ≤ b) : ∀ (n : Nat) (a : Int), At l a → a < (n : Int) → Ev (fun k => q4_Below1.f k l l1 a b) ((chain l n a).any (fun x => x == b))
 | n, a, ha, hn => by
  rcases Int.lt_or_le a 0 with hc | hc
  · rw [chain_neg _ _ _ hc]
    refine Ev.step (fun k => by rw [q4_Below1.f]) ?_
    simp only [show ¬ (a = b) by omega, show ¬ (a ≥ 0) by omega, ↓reduceIte]; exact Ev.now _
  · cases n with
    | zero => omega
    | succ n =>
     obtain ⟨h1, h2⟩ := up_at hu ha hc
     have hi2 := ha.2
     refine Ev.step (fun k => by rw [q4_Below1.f]) ?_
     rw [chain_pos _ _ _ hc, List.any_cons]
     by_cases he : a = b
     · simp only [he, ↓reduceIte, beq_self_eq_true, Bool.true_or]; exact Ev.now _
     · simp only [he, show (a ≥ 0) by omega, hc, hi2, ↓reduceIte, beq_eq_false_iff_ne.mpr he, Bool.false_or]
       exact Ev.bind (below1_loop b hb n _ h1 (by omega)) (Ev.now _)
theorem below1_ev (a b : Int) (ha : At l a) (hb : 0 ≤ b) : Ev (fun k => q4_Below1.f k l l1 a b) (isB l a b) := by
 have hi2 := ha.2
 exact below1_loop l l1 hu h20 b hb 20 a ha (by omega)
end
def givenE (l : List S68) (l1 : List S71) (s : List Int) : Int := if (validE l l1).2 = 0 then (if s.all (fun x => insideB x l) = true then 0 else 6) else (validE l l1).2
theorem givenE_zero {l : List S68} {l1 : List S71} {s : List Int} (h : givenE l l1 s = 0) : (validE l l1).2 = 0 ∧ ∀ x ∈ s, 0 ≤ x ∧ At l x := by
 unfold givenE at h
 split at h
 · next h0 =>
   refine ⟨h0, fun x hx => ?_⟩
   split at h
   · next h1 =>
     have := List.all_eq_true.1 h1 x hx
     unfold insideB at this
     simp at this
     exact ⟨this.1, ⟨by omega, this.2⟩⟩
   · exact absurd h (by decide)
 · next h0 => exact absurd h h0
section
variable (l : List S68) (l1 : List S71) (hg : Good l) (h : Small l) (h1g : ∀ x ∈ l1, good71 x) (h1l : l1.length ≤ 30)
include hg h h1g h1l
theorem given_ev (s : List Int) : Ev (fun k => types_given.f k l l1 s) (givenE l l1 s) := by
 unfold types_given.f givenE any_given.f
 refine Ev.bind (valid_ev l l1 hg h h1g h1l) ?_
 by_cases h0 : (validE l l1).2 = 0
 · simp only [h0, ↓reduceIte, Option.bind_some]
   have e : (s.any fun a => decide (a < 0) || decide ((l.length : Int) ≤ a)) = !(s.all (fun x => insideB x l)) := by
    rw [List.all_eq_not_any_not, Bool.not_not]
    congr 1
    funext x; unfold insideB
    rw [Bool.eq_iff_iff]; simp
   rw [e]
   cases s.all (fun x => insideB x l)
   · simp only [Bool.not_false, ↓reduceIte, Bool.false_eq_true]; exact Ev.now _
   · simp only [Bool.not_true, ↓reduceIte, Bool.false_eq_true]; exact Ev.now _
 · simp only [h0, ↓reduceIte]; exact Ev.now _
theorem rgiven_ev (a b : Int) : Ev (fun k => q4_given.f k l l1 a b) (givenE l l1 [a, b]) := by
 have h20 := h.1
 unfold q4_given.f givenE
 refine Ev.bind (rvalid_ev l l1 hg h h1g h1l) ?_
 by_cases h0 : (validE l l1).2 = 0
 · simp only [h0, ↓reduceIte, Option.bind_some, in_ev]
   rw [w64 _ (by omega) (by omega)]
   have hin : ∀ y : Int, (decide ((0 : Int) ≤ y) && decide (y ≤ (l.length : Int) - 1)) = insideB y l := by
    intro y; unfold insideB; rw [Bool.eq_iff_iff]; simp only [Bool.and_eq_true, decide_eq_true_eq]; omega
   rw [hin, hin]
   simp only [List.all_cons, List.all_nil, Bool.and_true]
   cases insideB a l <;> cases insideB b l <;> simp only [Bool.false_eq_true, ↓reduceIte, Bool.and_self, Bool.and_true, Bool.and_false] <;> exact Ev.now _
 · simp only [h0, ↓reduceIte]; exact Ev.now _
def isE (l : List S68) (l1 : List S71) (a b : Int) : Bool := if givenE l l1 [a, b] = 0 then isB l a b else false
theorem Is_ev (a b : Int) : Ev (fun k => types_Is.f k l l1 a b) (isE l l1 a b) := by
 have h20 := h.1
 unfold types_Is.f isE
 refine Ev.bind (given_ev l l1 hg h h1g h1l _) ?_
 by_cases h0 : givenE l l1 [a, b] = 0
 · obtain ⟨hv, hs⟩ := givenE_zero h0
   simp only [h0, ↓reduceIte]
   exact Ev.bind (is_ev l l1 (validE_up hv) h20 a b (hs a (by simp)).2) (Ev.now _)
 · simp only [h0, ↓reduceIte]; exact Ev.now _
end
theorem edgeE_zero {l : List S68} {l1 : List S71} {i : Nat} (h : edgeE l l1 i = 0) : insideB (rd_T71 l1 (i : Int)).f1 l = true ∧ insideB (rd_T71 l1 (i : Int)).f2 l = true := by
 unfold edgeE at h
 split at h
 · split at h
   · exact absurd h (by decide)
   · split at h
     · next hc =>
       simp only [Bool.and_eq_true] at hc
       exact hc.1
     · exact absurd h (by decide)
 · exact absurd h (by decide)
def fitsE (l : List S68) (l1 : List S71) (e a b : Int) : Bool := if givenE l l1 [a, b] = 0 then (if 0 ≤ e ∧ e < (l1.length : Int) then isB l a (rd_T71 l1 e).f1 && isB l b (rd_T71 l1 e).f2 else false) else false
section
variable (l : List S68) (l1 : List S71) (hg : Good l) (h : Small l) (h1g : ∀ x ∈ l1, good71 x) (h1l : l1.length ≤ 30)
include hg h h1g h1l
theorem Fits_ev (e a b : Int) : Ev (fun k => types_Fits.f k l l1 e a b) (fitsE l l1 e a b) := by
 have h20 := h.1
 have jt : Ev (fun k => types_Fits.j0 k e a b true l l1) false := by
  refine Ev.step (fun k => by rw [types_Fits.j0]) ?_
  simp only [↓reduceIte]; exact Ev.now _
 unfold types_Fits.f fitsE
 refine Ev.bind (given_ev l l1 hg h h1g h1l _) ?_
 by_cases h0 : givenE l l1 [a, b] = 0
 · obtain ⟨hv, hs⟩ := givenE_zero h0
   simp only [h0, ↓reduceIte]
   by_cases h1 : e < 0
   · simp only [h1, show ¬ (0 ≤ e ∧ e < (l1.length : Int)) by omega, ↓reduceIte]; exact jt
   · simp only [h1, ↓reduceIte]
     by_cases h2 : e ≥ (l1.length : Int)
     · simp only [h2, show ¬ (0 ≤ e ∧ e < (l1.length : Int)) by omega, decide_true, ↓reduceIte]; exact jt
     · simp only [h2, decide_false, show (0 ≤ e ∧ e < (l1.length : Int)) by omega, and_self, ↓reduceIte]
       refine Ev.step (fun k => by rw [types_Fits.j0]) ?_
       simp only [Bool.false_eq_true, show 0 ≤ e by omega, show e < (l1.length : Int) by omega, ↓reduceIte]
       refine Ev.bind (is_ev l l1 (validE_up hv) h20 a _ (hs a (by simp)).2) ?_
       cases isB l a (rd_T71 l1 e).f1
       · simp only [Bool.false_eq_true, Bool.false_and, ↓reduceIte]; exact Ev.now _
       · simp only [Bool.true_and, ↓reduceIte]
         exact Ev.bind (is_ev l l1 (validE_up hv) h20 b _ (hs b (by simp)).2) (Ev.now _)
 · simp only [h0, ↓reduceIte]; exact jt
theorem rFits_ev (e a b : Int) : Ev (fun k => q4_Fits.f k l l1 e a b) (fitsE l l1 e a b) := by
 have h20 := h.1
 have jt : Ev (fun k => q4_Fits.j0 k e a b true l l1) false := by
  refine Ev.step (fun k => by rw [q4_Fits.j0]) ?_
  simp only [↓reduceIte]; exact Ev.now _
 unfold q4_Fits.f fitsE
 refine Ev.bind (rgiven_ev l l1 hg h h1g h1l _ _) ?_
 by_cases h0 : givenE l l1 [a, b] = 0
 · obtain ⟨hv, hs⟩ := givenE_zero h0
   simp only [h0, ↓reduceIte, in_ev, Option.bind_some]
   rw [w64 _ (by omega) (by omega)]
   by_cases h2 : 0 ≤ e ∧ e < (l1.length : Int)
   · have e1 : (decide ((0 : Int) ≤ e) && decide (e ≤ (l1.length : Int) - 1)) = true := by simp; omega
     simp only [e1]
     simp only [h2, Bool.not_true, and_self, ↓reduceIte]
     refine Ev.step (fun k => by rw [q4_Fits.j0]) ?_
     simp only [Bool.false_eq_true, h2.1, h2.2, ↓reduceIte]
     obtain ⟨j, rfl⟩ : ∃ j : Nat, e = (j : Int) := ⟨e.toNat, by omega⟩
     obtain ⟨i1, i2⟩ := edgeE_zero ((validE_zero hv).2.2.2.2 j (by omega))
     unfold insideB at i1 i2
     simp at i1 i2
     refine Ev.bind (below1_ev l l1 (validE_up hv) h20 a _ (hs a (by simp)).2 i1.1) ?_
     cases isB l a (rd_T71 l1 (j : Int)).f1
     · simp only [Bool.false_eq_true, Bool.false_and, ↓reduceIte]; exact Ev.now _
     · simp only [Bool.true_and, ↓reduceIte]
       exact Ev.bind (below1_ev l l1 (validE_up hv) h20 b _ (hs b (by simp)).2 i2.1) (Ev.now _)
   · have e1 : (decide ((0 : Int) ≤ e) && decide (e ≤ (l1.length : Int) - 1)) = false := by simp; omega
     simp only [e1]
     simp only [h2, Bool.not_false, ↓reduceIte]; exact jt
 · simp only [h0, ↓reduceIte]; exact jt
end
end Go.Proofs.Ytfpianecohobjaa.P
