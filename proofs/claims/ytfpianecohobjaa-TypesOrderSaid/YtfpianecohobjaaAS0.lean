/- typesOrder_holds, typesBounds_holds, typesInherit_holds: a part of the proof that the law returns true for every input. No condition. -/
import Derived.Test.YtfpianecohobjaaAPx20
import Derived.Test.YtfpianecohobjaaAR0
namespace Go.Proofs.Ytfpianecohobjaa.P
open Go.RowKit Go.Proofs.YtfpianecohobjaaW.PrintWords Go.Proofs.YtfpianecohobjaaW.PrintLast
set_option maxRecDepth 100000
set_option linter.unusedVariables false
set_option linter.unusedSimpArgs false
theorem w64 (n : Int) (h0 : -9223372036854775808 ≤ n) (h1 : n ≤ 9223372036854775807) : wrap64 n = n := by unfold wrap64; omega
theorem toList_loop (s : ByteArray) : ∀ (m i : Nat) (r : List UInt8), i + m = s.size → ByteArray.toList.loop s i r = r.reverse ++ s.data.toList.drop i
  | 0, i, r, h => by
    rw [ByteArray.toList.loop]
    rw [if_neg (by omega)]
    have : s.data.toList.drop i = [] := List.drop_eq_nil_of_le (by have : s.size = s.data.size := rfl; simp; omega)
    rw [this]; simp
  | m + 1, i, r, h => by
    rw [ByteArray.toList.loop]
    have hs : s.size = s.data.size := rfl
    rw [if_pos (by omega), toList_loop s m (i + 1) _ (by omega)]
    have hi : i < s.data.toList.length := by simp; omega
    rw [List.drop_eq_getElem_cons hi]
    simp [ByteArray.get!]
    rw [getElem!_pos s.data i (by omega)]
theorem toList_data (s : ByteArray) : s.toList = s.data.toList := by
  have := toList_loop s s.size 0 [] (by omega)
  simpa [ByteArray.toList] using this
theorem toList_nil (s : ByteArray) : s.toList = [] ↔ s.size = 0 := by
  rw [toList_data]
  have hs : s.size = s.data.toList.length := by simp
  rw [hs, List.length_eq_zero_iff]
def nameB (s : ByteArray) : Bool := decide (0 < s.size) && (letterB (bt s 0) && (decide (runOf partB s.data.toList = s.size) && decide (s.size ≤ 20)))
theorem letter_f (x : Int) : token_letter.f x = some (letterB x) := by
  unfold token_letter.f letterB
  by_cases h1 : x ≥ 97 <;> by_cases h2 : x ≤ 122 <;> by_cases h3 : x ≥ 65 <;> by_cases h4 : x ≤ 90 <;> simp only [h1, h2, h3, h4, ↓reduceIte, ge_iff_le, decide_true, decide_false, Bool.true_and, Bool.false_and, Bool.or_true, Bool.true_or, Bool.or_false, Bool.and_true, Bool.and_false] <;> simp [show 97 ≤ x ↔ x ≥ 97 from Iff.rfl, show 65 ≤ x ↔ x ≥ 65 from Iff.rfl, h1, h3] <;> omega
theorem digit_f (x : Int) : token_digit.f x = some (digitB x) := by
  unfold token_digit.f digitB
  split <;> simp <;> omega
theorem Index_ev (l : List ByteArray) (a : ByteArray) (hl : l.length ≤ 9223372036854775807) : ∀ (m i : Nat), i + m = l.length →
    ∃ r, Ev (fun k => slices_Index_string_string.l0 k l a (l.length : Int) (i : Int)) r ∧ decide (r ≥ 0) = (l.drop i).any (fun x => x.toList == a.toList)
  | 0, i, h => ⟨-1, Ev.step (fun k => by rw [slices_Index_string_string.l0]) (by simp only [show ¬ ((i : Int) < (l.length : Int)) by omega, ↓reduceIte]; exact Ev.now _), by
      rw [List.drop_eq_nil_of_le (by omega)]; rfl⟩
  | m + 1, i, h => by
    have hi : i < l.length := by omega
    have hd := List.drop_eq_getElem_cons hi
    have hr : rdOf ByteArray.empty l (i : Int) = l[i] := by unfold rdOf; simp [hi]
    by_cases he : a.toList = (l[i]).toList
    · refine ⟨(i : Int), Ev.step (fun k => by rw [slices_Index_string_string.l0]) ?_, ?_⟩
      · simp only [hr, show ((i : Int) < (l.length : Int)) by omega, show (0 : Int) ≤ (i : Int) by omega, he, if_true, ↓reduceIte]; exact Ev.now _
      · rw [hd, List.any_cons, he]; simp
    · obtain ⟨r, hr', hp⟩ := Index_ev l a hl m (i + 1) (by omega)
      refine ⟨r, Ev.step (fun k => by rw [slices_Index_string_string.l0]) ?_, ?_⟩
      · simp only [hr, show ((i : Int) < (l.length : Int)) by omega, show (0 : Int) ≤ (i : Int) by omega, he, if_true, if_false, ↓reduceIte]
        rw [w64 _ (by omega) (by omega)]; exact hr'
      · rw [hd, hp, List.any_cons]
        have : ((l[i]).toList == a.toList) = false := by simpa using fun h => he h.symm
        rw [this]; rfl
theorem Contains_ev (l : List ByteArray) (a : ByteArray) (hl : l.length ≤ 9223372036854775807) : Ev (fun k => slices_Contains_string_string.f k l a) (l.any (fun x => x.toList == a.toList)) := by
  obtain ⟨r, hr, hp⟩ := Index_ev l a hl l.length 0 (by omega)
  unfold slices_Contains_string_string.f slices_Index_string_string.f
  refine Ev.bind hr ?_
  rw [hp]; exact Ev.now _
theorem quoted_j (n : Int) (b : Bool) : ∃ r, Ev (fun k => token_quoted.j0 k n b) r := by
  cases b
  · by_cases h : n > 60
    · refine ⟨(0, 3), Ev.step (fun k => by rw [token_quoted.j0]) ?_⟩
      simp only [Bool.false_eq_true, ↓reduceIte, h]; exact Ev.now _
    · refine ⟨(wrap64 (n + 2), 0), Ev.step (fun k => by rw [token_quoted.j0]) ?_⟩
      simp only [Bool.false_eq_true, ↓reduceIte, h]; exact Ev.now _
  · refine ⟨(0, 2), Ev.step (fun k => by rw [token_quoted.j0]) ?_⟩
    simp only [↓reduceIte]; exact Ev.now _
theorem quoted_run (s : ByteArray) (h0 : 0 < s.size) (hs : s.size ≤ 9223372036854775807) : ∃ n : Nat, token_run_quoted.f (s.extract 1 s.size) = some (n : Int) ∧ n ≤ s.size - 1 := by
  have he : (s.extract 1 s.size).size = s.size - 1 := by simp
  have h2 : (s.extract 1 s.size).data.toList.length = (s.extract 1 s.size).size := by simp
  have hle := runOf_le quoteB (s.extract 1 s.size).data.toList
  generalize s.extract 1 s.size = u at he h2 hle
  refine ⟨runOf quoteB u.data.toList, ?_, by omega⟩
  unfold token_run_quoted.f
  rw [if_pos (by omega)]
theorem quoted_ev (s : ByteArray) (h0 : 0 < s.size) (hs : s.size ≤ 9223372036854775807) : ∃ r, Ev (fun k => token_quoted.f k s) r := by
  obtain ⟨n, hr, hle⟩ := quoted_run s h0 hs
  have hw := w64 (1 + (n : Int)) (by omega) (by omega)
  by_cases hc : 1 + (n : Int) = (s.size : Int)
  · obtain ⟨r, hj⟩ := quoted_j (n : Int) true
    refine ⟨r, Ev.congr (fun k => ?_) hj⟩
    unfold token_quoted.f
    rw [if_pos (by omega), hr, Option.bind_some, hw, if_pos hc]
  · obtain ⟨r, hj⟩ := quoted_j (n : Int) (bt s (1 + (n : Int)) != 34)
    refine ⟨r, Ev.congr (fun k => ?_) hj⟩
    unfold token_quoted.f
    rw [if_pos (by omega), hr, Option.bind_some, hw, if_neg hc, if_pos (by omega), if_pos (by omega)]
theorem IsName_ev (s : ByteArray) (hs : s.size ≤ 9223372036854775807) : Ev (fun k => token_IsName.f k s) (nameB s) := by
  unfold token_IsName.f token_whole.f
  simp only [show ¬ ((1 : Int) = 3) by decide, if_false, ↓reduceIte]
  by_cases h0 : s.toList = []
  · have h1 := (toList_nil s).mp h0
    simp only [h0, ↓reduceIte, Option.bind_some]
    have : nameB s = false := by unfold nameB; simp [h1]
    rw [this]; exact Ev.now _
  · have h1 : 0 < s.size := Nat.pos_of_ne_zero fun h => h0 ((toList_nil s).mpr h)
    simp only [h0, ↓reduceIte]
    have key : ∃ r : Int × Int × Int, Ev (fun k => token_next.f k s) r ∧ ((r.2.2 ≠ 0 ∨ r.1 ≠ 1) ∧ nameB s = false ∨ (r.2.2 = 0 ∧ r.1 = 1 ∧ nameB s = (r.2.1 == (s.size : Int)))) := by
      unfold token_next.f
      simp only [show (0 : Int) < (s.size : Int) by omega, ↓reduceIte, letter_f, digit_f, Option.bind_some]
      cases hl : letterB (bt s 0)
      · have hn : nameB s = false := by unfold nameB; simp [hl]
        simp only [Bool.false_eq_true, ↓reduceIte]
        cases hd : digitB (bt s 0)
        · simp only [Bool.false_eq_true, ↓reduceIte]
          by_cases hq : bt s 0 = 34
          · simp only [hq, ↓reduceIte]
            obtain ⟨r, hr⟩ := quoted_ev s h1 hs
            exact ⟨(3, r.1, r.2), Ev.bind hr (Ev.now _), Or.inl ⟨Or.inr (by simp), hn⟩⟩
          · simp only [hq, ↓reduceIte]
            have hp : ∃ b, Ev (fun k => token_pair.f k s) b := by
              unfold token_pair.f
              by_cases h2 : (s.size : Int) ≥ 2
              · simp only [h2, ↓reduceIte, show (0 : Int) ≤ 2 by decide]
                exact ⟨_, Ev.bind (Contains_ev _ _ (by simp)) (Ev.now _)⟩
              · simp only [h2, ↓reduceIte]; exact ⟨_, Ev.now _⟩
            obtain ⟨b, hb⟩ := hp
            cases b
            · have : ∃ r : Int × Int × Int, (if Lib.indexByte (ByteArray.data (⟨#[123, 125, 40, 41, 91, 93, 44, 59, 58, 61, 43, 45, 42, 60, 62, 33, 38, 124, 46, 63]⟩ : ByteArray)).toList (bt s 0).toNat.toUInt8 ≥ 0 then some ((4 : Int), (1 : Int), (0 : Int)) else some (0, 0, 2)) = some r ∧ r.1 ≠ 1 := by
                split
                · exact ⟨_, rfl, by simp⟩
                · exact ⟨_, rfl, by simp⟩
              obtain ⟨r, hr, hr1⟩ := this
              refine ⟨r, Ev.bind hb ?_, Or.inl ⟨Or.inr hr1, hn⟩⟩
              simp only [Bool.false_eq_true, ↓reduceIte, strings_IndexByte.f, Option.bind_some]
              simp only [hr]; exact Ev.now _
            · refine ⟨(4, 2, 0), Ev.bind hb ?_, Or.inl ⟨Or.inr (by simp), hn⟩⟩
              simp only [↓reduceIte]; exact Ev.now _
        · simp only [↓reduceIte, token_run_digit.f, hs, Option.bind_some]
          split
          · exact ⟨_, Ev.now _, Or.inl ⟨Or.inl (by simp), hn⟩⟩
          · exact ⟨_, Ev.now _, Or.inl ⟨Or.inr (by simp), hn⟩⟩
      · simp only [↓reduceIte, token_run_part.f, hs, Option.bind_some]
        split
        · next h20 => exact ⟨_, Ev.now _, Or.inl ⟨Or.inl (by simp), by
            unfold nameB; simp [hl, h1]; omega⟩⟩
        · next h20 => exact ⟨_, Ev.now _, Or.inr ⟨rfl, rfl, by
            unfold nameB; simp [hl, h1]
            have hb : ((runOf partB s.data.toList : Int) == (s.size : Int)) = decide (runOf partB s.data.toList = s.size) := by
              rw [Bool.eq_iff_iff]; simp; omega
            rw [hb]
            by_cases he : runOf partB s.data.toList = s.size
            · simp [he]; omega
            · simp [he]⟩⟩
    obtain ⟨r, hr, hc⟩ := key
    refine Ev.bind (a := (s, nameB s)) ?_ (Ev.now _)
    refine Ev.bind hr ?_
    rcases hc with ⟨h2 | h2, hn⟩ | ⟨h2, h3, hn⟩
    · simp only [h2, ↓reduceIte, hn]; exact Ev.now _
    · simp only [h2, ↓reduceIte, hn]
      split <;> exact Ev.now _
    · simp only [h2, h3, ↓reduceIte, hn]; exact Ev.now _
end Go.Proofs.Ytfpianecohobjaa.P
