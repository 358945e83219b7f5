/- typesLists_holds: a part of the proof that the law returns true for every input. No condition. -/
import Derived.Test.YtfpianecohobjaaVPx0
import Derived.Test.YtfpianecohobjaaVPx14
namespace Go.Proofs.Ytfpianecohobjaa.P
open Go.RowKit Go.Proofs.YtfpianecohobjaaW.PrintWords Go.Proofs.YtfpianecohobjaaW.PrintLast Go.Proofs.YtfpianecohobjaaW.PrintMore
set_option linter.unusedVariables false
set_option linter.unusedSimpArgs false
mutual
def q1_one.j0 : Nat → ByteArray → Int → Int → Bool → Option (Int × ByteArray × Int × Int × Int)
 | 0, _, _, _, _ => none
 | k + 1, x0, x1, x7, x22 => if x22 = true then ((q1_digit.f x7).bind fun t302 => ((q1_run.f k x0 x1 t302).bind fun t303 => ((q1_digit.f x7).bind fun t304 => (if t304 = true then (if t303 > 9 then (some (0, (⟨#[]⟩ : ByteArray), 0, 0, 3)) else (if 0 ≤ x1 then (if x1 ≤ (wrap64 (x1 + t303)) then (if (wrap64 (x1 + t303)) ≤ (x0.size : Int) then (some (2, x0.extract (x1 : Int).toNat ((wrap64 (x1 + t303)) : Int).toNat, 0, t303, 0)) else (none)) else (none)) else (none))) else (if t303 > 20 then (some (0, (⟨#[]⟩ : ByteArray), 0, 0, 3)) else (if 0 ≤ x1 then (if x1 ≤ (wrap64 (x1 + t303)) then (if (wrap64 (x1 + t303)) ≤ (x0.size : Int) then (some (1, x0.extract (x1 : Int).toNat ((wrap64 (x1 + t303)) : Int).toNat, 0, t303, 0)) else (none)) else (none)) else (none))))))) else (if x7 = 34 then ((q1_quoted.f k x0 x1).bind fun t305 => (if t305 = 0 then (some (0, (⟨#[]⟩ : ByteArray), 0, 0, 2)) else (if (wrap64 (t305 - 2)) > 60 then (some (0, (⟨#[]⟩ : ByteArray), 0, 0, 3)) else (if 0 ≤ (wrap64 (x1 + 1)) then (if (wrap64 (x1 + 1)) ≤ (wrap64 ((wrap64 (x1 + t305)) - 1)) then (if (wrap64 ((wrap64 (x1 + t305)) - 1)) ≤ (x0.size : Int) then (some (3, x0.extract ((wrap64 (x1 + 1)) : Int).toNat ((wrap64 ((wrap64 (x1 + t305)) - 1)) : Int).toNat, 0, t305, 0)) else (none)) else (none)) else (none))))) else ((q1_signs.f).bind fun t306 => (q1_one.l0 k x0 x1 t306 0)))
def q1_one.l0 : Nat → ByteArray → Int → List ByteArray → Int → Option (Int × ByteArray × Int × Int × Int)
 | 0, _, _, _, _ => none
 | k + 1, x0, x1, x12, x13 => if x13 < (x12.length : Int) then (if 0 ≤ x13 then (if (wrap64 (x1 + ((rdOf ByteArray.empty x12 x13).size : Int))) ≤ (x0.size : Int) then (if 0 ≤ x1 then (if x1 ≤ (wrap64 (x1 + ((rdOf ByteArray.empty x12 x13).size : Int))) then (if (x0.extract (x1 : Int).toNat ((wrap64 (x1 + ((rdOf ByteArray.empty x12 x13).size : Int))) : Int).toNat).toList = (rdOf ByteArray.empty x12 x13).toList then (some (4, rdOf ByteArray.empty x12 x13, 0, ((rdOf ByteArray.empty x12 x13).size : Int), 0)) else (q1_one.l0 k x0 x1 x12 (wrap64 (x13 + 1)))) else (none)) else (none)) else (q1_one.l0 k x0 x1 x12 (wrap64 (x13 + 1)))) else (none)) else (some (0, (⟨#[]⟩ : ByteArray), 0, 0, 2))
end
def q1_one.f (k : Nat) (a0 : ByteArray) (a1 : Int) : Option (Int × ByteArray × Int × Int × Int) := if 0 ≤ a1 then (if a1 < (a0.size : Int) then ((q1_letter.f (bt a0 a1)).bind fun t300 => (if t300 = true then (q1_one.j0 k a0 a1 (bt a0 a1) true) else ((q1_digit.f (bt a0 a1)).bind fun t301 => (q1_one.j0 k a0 a1 (bt a0 a1) t301)))) else (none)) else (none)
def q1_one.T21 : Bool × List (List Nat × List Nat) := (true, [([], []), ([], []), ([], []), ([1, 2], [1, 2]), ([3], [3]), ([4], [4]), ([0, 5], [0, 5]), ([], []), ([7], [7]), ([6, 8], [6, 8]), ([9], [9]), ([10], [10]), ([10], [10]), ([10], [10]), ([10], [10]), ([10], [10]), ([14, 15, 10], [10, 14, 15]), ([16, 10], [10, 16]), ([17, 10], [10, 17]), ([13, 18, 10], [10, 13, 18]), ([11, 12, 19, 10], [10, 11, 12, 19]), ([10], [10]), ([10], [10]), ([21, 22, 10], [10, 21, 22]), ([23, 10], [10, 23]), ([20, 24, 10], [10, 20, 24]), ([10, 25], [10, 25])])
def q1_one.B21 : List Nat := [0, 0, 0, 6, 14, 30, 63, 0, 128, 511, 1023, 2047, 2047, 2047, 2047, 2047, 51199, 116735, 247807, 518143, 1048575, 2047, 2047, 6293503, 14682111, 33554431, 67108863]
theorem q1_one.tab21 : rtab .any (opsOf Try.f107 21) = q1_one.T21 := by kernel_rfl
theorem q1_one.bits21 : waitsOk q1_one.T21.2 q1_one.B21 = true := by kernel_rfl
def q1_one.T22 : Bool × List (List Nat × List Nat) := (true, [([], []), ([], []), ([0, 1], [0, 1]), ([2], [2]), ([3], [3]), ([], []), ([], []), ([5, 6], [5, 6]), ([7], [7]), ([8], [8]), ([4, 0, 1, 2, 3, 4], [4]), ([9, 10, 0, 1, 2, 3, 4, 5, 6, 7, 8, 9, 10], [9]), ([11, 0, 1, 2, 3, 4, 5, 6, 7, 8, 9, 10, 11], [])])
def q1_one.B22 : List Nat := [0, 0, 3, 7, 15, 0, 0, 96, 224, 480, 31, 2047, 4095]
theorem q1_one.tab22 : rtab .any (opsOf Try.f107 22) = q1_one.T22 := by kernel_rfl
theorem q1_one.bits22 : waitsOk q1_one.T22.2 q1_one.B22 = true := by kernel_rfl
set_option maxHeartbeats 8000000 in
set_option maxRecDepth 100000 in
theorem q1_one.calls (k : Nat) (a0 : ByteArray) (a1 : Int) (r1 : Int) (r2 : ByteArray) (r3 : Int) (r4 : Int) (r5 : Int) (w : World) (h : q1_one.f k a0 a1 = some (r1, r2, r3, r4, r5)) :
  Calls Try.prog 107 #[.string a0, .int .i64 a1] w fun e w' => e = .returned (.tuple #[.agg #[.int .i64 r1, .string r2, .int .i64 r3], .int .i64 r4, .int .i64 r5]) ∧ Below w.heap.size w w' := by
 have hu119 := Try.underlying119
 have HB := Aside0.mk (Below.refl w.heap.size w)
 have H : (if 0 ≤ a1 then (if a1 < (a0.size : Int) then ((q1_letter.f (bt a0 a1)).bind fun t300 => (if t300 = true then (q1_one.j0 k a0 a1 (bt a0 a1) true) else ((q1_digit.f (bt a0 a1)).bind fun t301 => (q1_one.j0 k a0 a1 (bt a0 a1) t301)))) else (none)) else (none)) = some (r1, r2, r3, r4, r5) := h
 clear h
 by_cases c3 : 0 ≤ a1
 ·rw [if_pos c3] at H
  have c3b0 : decide (0 ≤ a1) = true := decide_eq_true c3
  clear c3
  by_cases c4 : a1 < (a0.size : Int)
  ·rw [if_pos c4] at H
   have c4b0 : decide (a1 < (a0.size : Int)) = true := decide_eq_true c4
   clear c4
   have HC6 := Aside0.mk H
   clear H
   go_enter Try.func107, Try.ntmps107
   go_upto_region 2 with ((with_reducible refine gate_dst (N := 4) rfl ?_); (try (refine gate_guard (by rfl) ?_; dsimp only)); refine box_event ?hg (N := 4) ?hd (cs := #[.int .i64 0, .string (⟨#[]⟩ : ByteArray), .int .i64 0]) (t := 119) ?hr ?_; (case hd => rfl); (case hg => rfl); (case hr => first | (go_simp; done) | (go_simp; rfl)); intro gb299 hg w7 hbox hb; have BK299 := Aside0.mk (hbox); have GW299 := bsz HB hg; have GE299 := bsz HB hg; replace HB := bstep HB hb; clear hb hbox hg; have p5 : 0 ≤ a1 := odt; have q5 : a1 < (a0.size : Int) := odt; have hx5 := bt_at a0 a1; replace p5 := eq_true p5; replace q5 := eq_true q5)
   (try simp only [Act.put, List.setIfInBounds_toArray, List.set_cons_zero, List.set_cons_succ])
   go_cut [22] (fun v22 wc => ∃ (kq : Nat) (x22_5 : Bool), v22 = .bool x22_5 ∧ Aside0 (q1_one.j0 kq a0 a1 (bt a0 a1) x22_5 = some (r1, r2, r3, r4, r5)) ∧ Aside0 (kq ≤ k) ∧ Aside0 (wc.heap[gb299]? = some (.cells #[.int .i64 0, .string (⟨#[]⟩ : ByteArray), .int .i64 0] 119 (0, 0))) ∧ Aside0 (Below w.heap.size w wc))
   case first =>
    have H := HC6.out
    clear HC6
    replace H := Option.bind_eq_some_iff.mp H
    obtain ⟨t300, A80, H⟩ := H
    replace H : (if t300 = true then (q1_one.j0 k a0 a1 (bt a0 a1) true) else ((q1_digit.f (bt a0 a1)).bind fun t301 => (q1_one.j0 k a0 a1 (bt a0 a1) t301))) = some (r1, r2, r3, r4, r5) := H
    have A8 := Aside0.mk A80
    clear A80
    by_cases c9 : t300 = true
    ·subst c9
     replace H := ift H
     have H' := Aside0.mk H
     clear H
     go_wp2_with ((with_reducible refine gate_callee (f := 119) rfl ?_); refine gl 18 Try.func119 #[.int .u8 (bt a0 a1)] (h := ?_); (with_reducible refine (q1_letter.calls (bt a0 a1) true _ A8.out).mono ?_); rintro e w' ⟨rfl, ⟨nd, rfl⟩⟩; refine ⟨_, rfl, ?_⟩)
     go_meet
     case rel => exact ⟨_, (true), eqs, H', ⟨by first | omega | exact Nat.le_refl _⟩, ⟨bk BK299⟩, ⟨bb HB⟩⟩
    ·replace c9 := Bool.eq_false_iff.mpr c9
     subst c9
     replace H := iff_ H
     replace H := Option.bind_eq_some_iff.mp H
     obtain ⟨t301, A100, H⟩ := H
     replace H : (q1_one.j0 k a0 a1 (bt a0 a1) t301) = some (r1, r2, r3, r4, r5) := H
     have A10 := Aside0.mk A100
     clear A100
     have H' := Aside0.mk H
     clear H
     go_wp2_with (first | ((with_reducible refine gate_callee (f := 119) rfl ?_); refine gl 18 Try.func119 #[.int .u8 (bt a0 a1)] (h := ?_); (with_reducible refine (q1_letter.calls (bt a0 a1) false _ A8.out).mono ?_); rintro e w' ⟨rfl, ⟨nd, rfl⟩⟩; refine ⟨_, rfl, ?_⟩) | (go_at_call 120; (with_reducible refine (q1_digit.calls (bt a0 a1) t301 _ A10.out).mono ?_); rintro e w' ⟨rfl, ⟨nd, rfl⟩⟩))
     go_meet
     case rel => exact ⟨_, (t301), eqs, H', ⟨by first | omega | exact Nat.le_refl _⟩, ⟨bk BK299⟩, ⟨bb HB⟩⟩
   case rest =>
    clear HC6 c3b0 c4b0 p5 q5 hx5
    obtain ⟨kq, x22_5, rfl, HA, HJ5, BK299, HB⟩ := hcut
    cases kq with
    | zero => exact absurd HA.out (by simp [q1_one.j0])
    | succ kj5 =>
     have H := HA.out
     clear HA
     simp only [q1_one.j0] at H
     by_cases c11 : x22_5 = true
     ·subst c11
      replace H := ift H
      replace H := Option.bind_eq_some_iff.mp H
      obtain ⟨t302, A120, H⟩ := H
      replace H : ((q1_run.f kj5 a0 a1 t302).bind fun t303 => ((q1_digit.f (bt a0 a1)).bind fun t304 => (if t304 = true then (if t303 > 9 then (some (0, (⟨#[]⟩ : ByteArray), 0, 0, 3)) else (if 0 ≤ a1 then (if a1 ≤ (wrap64 (a1 + t303)) then (if (wrap64 (a1 + t303)) ≤ (a0.size : Int) then (some (2, a0.extract (a1 : Int).toNat ((wrap64 (a1 + t303)) : Int).toNat, 0, t303, 0)) else (none)) else (none)) else (none))) else (if t303 > 20 then (some (0, (⟨#[]⟩ : ByteArray), 0, 0, 3)) else (if 0 ≤ a1 then (if a1 ≤ (wrap64 (a1 + t303)) then (if (wrap64 (a1 + t303)) ≤ (a0.size : Int) then (some (1, a0.extract (a1 : Int).toNat ((wrap64 (a1 + t303)) : Int).toNat, 0, t303, 0)) else (none)) else (none)) else (none)))))) = some (r1, r2, r3, r4, r5) := H
      have A12 := Aside0.mk A120
      clear A120
      replace H := Option.bind_eq_some_iff.mp H
      obtain ⟨t303, A130, H⟩ := H
      replace H : ((q1_digit.f (bt a0 a1)).bind fun t304 => (if t304 = true then (if t303 > 9 then (some (0, (⟨#[]⟩ : ByteArray), 0, 0, 3)) else (if 0 ≤ a1 then (if a1 ≤ (wrap64 (a1 + t303)) then (if (wrap64 (a1 + t303)) ≤ (a0.size : Int) then (some (2, a0.extract (a1 : Int).toNat ((wrap64 (a1 + t303)) : Int).toNat, 0, t303, 0)) else (none)) else (none)) else (none))) else (if t303 > 20 then (some (0, (⟨#[]⟩ : ByteArray), 0, 0, 3)) else (if 0 ≤ a1 then (if a1 ≤ (wrap64 (a1 + t303)) then (if (wrap64 (a1 + t303)) ≤ (a0.size : Int) then (some (1, a0.extract (a1 : Int).toNat ((wrap64 (a1 + t303)) : Int).toNat, 0, t303, 0)) else (none)) else (none)) else (none))))) = some (r1, r2, r3, r4, r5) := H
      have A13 := Aside0.mk A130
      clear A130
      replace H := Option.bind_eq_some_iff.mp H
      obtain ⟨t304, A140, H⟩ := H
      replace H : (if t304 = true then (if t303 > 9 then (some (0, (⟨#[]⟩ : ByteArray), 0, 0, 3)) else (if 0 ≤ a1 then (if a1 ≤ (wrap64 (a1 + t303)) then (if (wrap64 (a1 + t303)) ≤ (a0.size : Int) then (some (2, a0.extract (a1 : Int).toNat ((wrap64 (a1 + t303)) : Int).toNat, 0, t303, 0)) else (none)) else (none)) else (none))) else (if t303 > 20 then (some (0, (⟨#[]⟩ : ByteArray), 0, 0, 3)) else (if 0 ≤ a1 then (if a1 ≤ (wrap64 (a1 + t303)) then (if (wrap64 (a1 + t303)) ≤ (a0.size : Int) then (some (1, a0.extract (a1 : Int).toNat ((wrap64 (a1 + t303)) : Int).toNat, 0, t303, 0)) else (none)) else (none)) else (none)))) = some (r1, r2, r3, r4, r5) := H
      have A14 := Aside0.mk A140
      clear A140
      by_cases c15 : t304 = true
      ·subst c15
       replace H := ift H
       by_cases c16 : t303 > 9
       ·rw [if_pos c16] at H
        have c16b0 : decide (9 < t303) = true := decide_eq_true c16
        clear c16
        simp only [Option.some.injEq, Prod.mk.injEq] at H
        obtain ⟨rfl, rfl, rfl, rfl, rfl⟩ := H
        go_wp2_with (first | ((with_reducible refine gate_callee (f := 120) rfl ?_); refine gl 26 Try.func120 #[.int .u8 (bt a0 a1)] (h := ?_); (with_reducible refine (q1_digit.calls (bt a0 a1) t302 _ A12.out).mono ?_); rintro e w' ⟨rfl, ⟨nd, rfl⟩⟩; refine ⟨_, rfl, ?_⟩; (try (rw [drewN_self wc]; generalize hq_ : World.drewN wc _ = wc; replace BK299 : Aside0 (wc.heap[gb299]? = some (.cells #[.int .i64 0, .string (⟨#[]⟩ : ByteArray), .int .i64 0] 119 (0, 0))) := ⟨by rw [← hq_]; exact (bk BK299)⟩; replace HB : Aside0 (Below w.heap.size w wc) := ⟨by rw [← hq_]; exact (bb HB)⟩; clear hq_))) | ((with_reducible refine gate_callee (f := 121) rfl ?_); refine gl 27 Try.func121 #[.string a0, .int .i64 a1, .bool t302] (h := ?_); (with_reducible refine (q1_run.calls kj5 a0 a1 t302 t303 _ A13.out).mono ?_); rintro e w' ⟨rfl, ⟨nd, rfl⟩⟩; refine ⟨_, rfl, ?_⟩; (try (rw [drewN_self wc]; generalize hq_ : World.drewN wc _ = wc; replace BK299 : Aside0 (wc.heap[gb299]? = some (.cells #[.int .i64 0, .string (⟨#[]⟩ : ByteArray), .int .i64 0] 119 (0, 0))) := ⟨by rw [← hq_]; exact (bk BK299)⟩; replace HB : Aside0 (Below w.heap.size w wc) := ⟨by rw [← hq_]; exact (bb HB)⟩; clear hq_))) | ((with_reducible refine gate_callee (f := 120) rfl ?_); refine gl 29 Try.func120 #[.int .u8 (bt a0 a1)] (h := ?_); (with_reducible refine (q1_digit.calls (bt a0 a1) true _ A14.out).mono ?_); rintro e w' ⟨rfl, ⟨nd, rfl⟩⟩; refine ⟨_, rfl, ?_⟩; (try (rw [drewN_self wc]; generalize hq_ : World.drewN wc _ = wc; replace BK299 : Aside0 (wc.heap[gb299]? = some (.cells #[.int .i64 0, .string (⟨#[]⟩ : ByteArray), .int .i64 0] 119 (0, 0))) := ⟨by rw [← hq_]; exact (bk BK299)⟩; replace HB : Aside0 (Below w.heap.size w wc) := ⟨by rw [← hq_]; exact (bb HB)⟩; clear hq_)); obtain ⟨hcz17_0, hcz17_1, hcz17_2, hfz17_0, hfz17_1, hfz17_2⟩ := cz3 BK299))
        refine bodyPost_ret (results_ctt rfl _ _ gb299 119 #[.int .i64 0, .string (⟨#[]⟩ : ByteArray), .int .i64 0] (0, 0) _ rfl (by (with_reducible repeat (first | refine blk_drewN ?_ _ | refine blk_drew ?_ | refine blk_alloc ?_ _)); refine blk_put (cs := #[.int .i64 0, .string (⟨#[]⟩ : ByteArray), .int .i64 0]) ?_ 2 _ rfl; (with_reducible repeat (first | refine blk_drewN ?_ _ | refine blk_drew ?_ | refine blk_alloc ?_ _)); refine blk_put (cs := #[.int .i64 0, .string (⟨#[]⟩ : ByteArray), .int .i64 0]) ?_ 1 _ rfl; (with_reducible repeat (first | refine blk_drewN ?_ _ | refine blk_drew ?_ | refine blk_alloc ?_ _)); refine blk_put (cs := #[.int .i64 0, .string (⟨#[]⟩ : ByteArray), .int .i64 0]) ?_ 0 _ rfl; (with_reducible repeat (first | refine blk_drewN ?_ _ | refine blk_drew ?_ | refine blk_alloc ?_ _)); exact BK299.out) Try.underlying119 rfl (by kernel_rfl)) rfl ?_
        exact ⟨erf, bb HB⟩
       ·rw [if_neg c16] at H
        have c16b0 : decide (9 < t303) = false := decide_eq_false c16
        clear c16
        by_cases c18 : 0 ≤ a1
        ·rw [if_pos c18] at H
         have c18b0 := eq_true c18
         have c18b1 : decide (0 ≤ a1) = true := decide_eq_true c18
         clear c18
         by_cases c19 : a1 ≤ (wrap64 (a1 + t303))
         ·rw [if_pos c19] at H
          have c19b0 := eq_true c19
          have c19b1 : decide (a1 ≤ (wrap64 (a1 + t303))) = true := decide_eq_true c19
          by_cases c20 : (wrap64 (a1 + t303)) ≤ (a0.size : Int)
          ·rw [if_pos c20] at H
           have c20b0 := eq_true c20
           have c20b1 : decide ((wrap64 (a1 + t303)) ≤ (a0.size : Int)) = true := decide_eq_true c20
           simp only [Option.some.injEq, Prod.mk.injEq] at H
           obtain ⟨rfl, rfl, rfl, rfl, rfl⟩ := H
           go_wp2_with (first | ((with_reducible refine gate_callee (f := 120) rfl ?_); refine gl 26 Try.func120 #[.int .u8 (bt a0 a1)] (h := ?_); (with_reducible refine (q1_digit.calls (bt a0 a1) t302 _ A12.out).mono ?_); rintro e w' ⟨rfl, ⟨nd, rfl⟩⟩; refine ⟨_, rfl, ?_⟩; (try (rw [drewN_self wc]; generalize hq_ : World.drewN wc _ = wc; replace BK299 : Aside0 (wc.heap[gb299]? = some (.cells #[.int .i64 0, .string (⟨#[]⟩ : ByteArray), .int .i64 0] 119 (0, 0))) := ⟨by rw [← hq_]; exact (bk BK299)⟩; replace HB : Aside0 (Below w.heap.size w wc) := ⟨by rw [← hq_]; exact (bb HB)⟩; clear hq_))) | ((with_reducible refine gate_callee (f := 121) rfl ?_); refine gl 27 Try.func121 #[.string a0, .int .i64 a1, .bool t302] (h := ?_); (with_reducible refine (q1_run.calls kj5 a0 a1 t302 t303 _ A13.out).mono ?_); rintro e w' ⟨rfl, ⟨nd, rfl⟩⟩; refine ⟨_, rfl, ?_⟩; (try (rw [drewN_self wc]; generalize hq_ : World.drewN wc _ = wc; replace BK299 : Aside0 (wc.heap[gb299]? = some (.cells #[.int .i64 0, .string (⟨#[]⟩ : ByteArray), .int .i64 0] 119 (0, 0))) := ⟨by rw [← hq_]; exact (bk BK299)⟩; replace HB : Aside0 (Below w.heap.size w wc) := ⟨by rw [← hq_]; exact (bb HB)⟩; clear hq_))) | ((with_reducible refine gate_callee (f := 120) rfl ?_); refine gl 29 Try.func120 #[.int .u8 (bt a0 a1)] (h := ?_); (with_reducible refine (q1_digit.calls (bt a0 a1) true _ A14.out).mono ?_); rintro e w' ⟨rfl, ⟨nd, rfl⟩⟩; refine ⟨_, rfl, ?_⟩; (try (rw [drewN_self wc]; generalize hq_ : World.drewN wc _ = wc; replace BK299 : Aside0 (wc.heap[gb299]? = some (.cells #[.int .i64 0, .string (⟨#[]⟩ : ByteArray), .int .i64 0] 119 (0, 0))) := ⟨by rw [← hq_]; exact (bk BK299)⟩; replace HB : Aside0 (Below w.heap.size w wc) := ⟨by rw [← hq_]; exact (bb HB)⟩; clear hq_)); obtain ⟨hcz21_0, hcz21_1, hcz21_2, hfz21_0, hfz21_1, hfz21_2⟩ := cz3 BK299))
           refine bodyPost_ret (results_ctt rfl _ _ gb299 119 #[.int .i64 2, .string (a0.extract (a1 : Int).toNat ((wrap64 (a1 + t303)) : Int).toNat), .int .i64 0] (0, 0) _ rfl (by (with_reducible repeat (first | refine blk_drewN ?_ _ | refine blk_drew ?_ | refine blk_alloc ?_ _)); refine blk_put (cs := #[.int .i64 2, .string (a0.extract (a1 : Int).toNat ((wrap64 (a1 + t303)) : Int).toNat), .int .i64 0]) ?_ 2 _ rfl; (with_reducible repeat (first | refine blk_drewN ?_ _ | refine blk_drew ?_ | refine blk_alloc ?_ _)); refine blk_put (cs := #[.int .i64 2, .string (⟨#[]⟩ : ByteArray), .int .i64 0]) ?_ 1 _ rfl; (with_reducible repeat (first | refine blk_drewN ?_ _ | refine blk_drew ?_ | refine blk_alloc ?_ _)); refine blk_put (cs := #[.int .i64 0, .string (⟨#[]⟩ : ByteArray), .int .i64 0]) ?_ 0 _ rfl; (with_reducible repeat (first | refine blk_drewN ?_ _ | refine blk_drew ?_ | refine blk_alloc ?_ _)); exact BK299.out) Try.underlying119 rfl (by kernel_rfl)) rfl ?_
           exact ⟨erf, bb HB⟩
          ·rw [if_neg c20] at H
           exact absurd H (by simp)
         ·rw [if_neg c19] at H
          exact absurd H (by simp)
        ·rw [if_neg c18] at H
         exact absurd H (by simp)
      ·replace c15 := Bool.eq_false_iff.mpr c15
       subst c15
       replace H := iff_ H
       by_cases c22 : t303 > 20
       ·rw [if_pos c22] at H
        have c22b0 : decide (20 < t303) = true := decide_eq_true c22
        clear c22
        simp only [Option.some.injEq, Prod.mk.injEq] at H
        obtain ⟨rfl, rfl, rfl, rfl, rfl⟩ := H
        go_wp2_with (first | ((with_reducible refine gate_callee (f := 120) rfl ?_); refine gl 26 Try.func120 #[.int .u8 (bt a0 a1)] (h := ?_); (with_reducible refine (q1_digit.calls (bt a0 a1) t302 _ A12.out).mono ?_); rintro e w' ⟨rfl, ⟨nd, rfl⟩⟩; refine ⟨_, rfl, ?_⟩; (try (rw [drewN_self wc]; generalize hq_ : World.drewN wc _ = wc; replace BK299 : Aside0 (wc.heap[gb299]? = some (.cells #[.int .i64 0, .string (⟨#[]⟩ : ByteArray), .int .i64 0] 119 (0, 0))) := ⟨by rw [← hq_]; exact (bk BK299)⟩; replace HB : Aside0 (Below w.heap.size w wc) := ⟨by rw [← hq_]; exact (bb HB)⟩; clear hq_))) | ((with_reducible refine gate_callee (f := 121) rfl ?_); refine gl 27 Try.func121 #[.string a0, .int .i64 a1, .bool t302] (h := ?_); (with_reducible refine (q1_run.calls kj5 a0 a1 t302 t303 _ A13.out).mono ?_); rintro e w' ⟨rfl, ⟨nd, rfl⟩⟩; refine ⟨_, rfl, ?_⟩; (try (rw [drewN_self wc]; generalize hq_ : World.drewN wc _ = wc; replace BK299 : Aside0 (wc.heap[gb299]? = some (.cells #[.int .i64 0, .string (⟨#[]⟩ : ByteArray), .int .i64 0] 119 (0, 0))) := ⟨by rw [← hq_]; exact (bk BK299)⟩; replace HB : Aside0 (Below w.heap.size w wc) := ⟨by rw [← hq_]; exact (bb HB)⟩; clear hq_))) | ((with_reducible refine gate_callee (f := 120) rfl ?_); refine gl 29 Try.func120 #[.int .u8 (bt a0 a1)] (h := ?_); (with_reducible refine (q1_digit.calls (bt a0 a1) false _ A14.out).mono ?_); rintro e w' ⟨rfl, ⟨nd, rfl⟩⟩; refine ⟨_, rfl, ?_⟩; (try (rw [drewN_self wc]; generalize hq_ : World.drewN wc _ = wc; replace BK299 : Aside0 (wc.heap[gb299]? = some (.cells #[.int .i64 0, .string (⟨#[]⟩ : ByteArray), .int .i64 0] 119 (0, 0))) := ⟨by rw [← hq_]; exact (bk BK299)⟩; replace HB : Aside0 (Below w.heap.size w wc) := ⟨by rw [← hq_]; exact (bb HB)⟩; clear hq_)); obtain ⟨hcz23_0, hcz23_1, hcz23_2, hfz23_0, hfz23_1, hfz23_2⟩ := cz3 BK299))
        refine bodyPost_ret (results_ctt rfl _ _ gb299 119 #[.int .i64 0, .string (⟨#[]⟩ : ByteArray), .int .i64 0] (0, 0) _ rfl (by (with_reducible repeat (first | refine blk_drewN ?_ _ | refine blk_drew ?_ | refine blk_alloc ?_ _)); refine blk_put (cs := #[.int .i64 0, .string (⟨#[]⟩ : ByteArray), .int .i64 0]) ?_ 2 _ rfl; (with_reducible repeat (first | refine blk_drewN ?_ _ | refine blk_drew ?_ | refine blk_alloc ?_ _)); refine blk_put (cs := #[.int .i64 0, .string (⟨#[]⟩ : ByteArray), .int .i64 0]) ?_ 1 _ rfl; (with_reducible repeat (first | refine blk_drewN ?_ _ | refine blk_drew ?_ | refine blk_alloc ?_ _)); refine blk_put (cs := #[.int .i64 0, .string (⟨#[]⟩ : ByteArray), .int .i64 0]) ?_ 0 _ rfl; (with_reducible repeat (first | refine blk_drewN ?_ _ | refine blk_drew ?_ | refine blk_alloc ?_ _)); exact BK299.out) Try.underlying119 rfl (by kernel_rfl)) rfl ?_
        exact ⟨erf, bb HB⟩
       ·rw [if_neg c22] at H
        have c22b0 : decide (20 < t303) = false := decide_eq_false c22
        clear c22
        by_cases c24 : 0 ≤ a1
        ·rw [if_pos c24] at H
         have c24b0 := eq_true c24
         have c24b1 : decide (0 ≤ a1) = true := decide_eq_true c24
         clear c24
         by_cases c25 : a1 ≤ (wrap64 (a1 + t303))
         ·rw [if_pos c25] at H
          have c25b0 := eq_true c25
          have c25b1 : decide (a1 ≤ (wrap64 (a1 + t303))) = true := decide_eq_true c25
          by_cases c26 : (wrap64 (a1 + t303)) ≤ (a0.size : Int)
          ·rw [if_pos c26] at H
           have c26b0 := eq_true c26
           have c26b1 : decide ((wrap64 (a1 + t303)) ≤ (a0.size : Int)) = true := decide_eq_true c26
           simp only [Option.some.injEq, Prod.mk.injEq] at H
           obtain ⟨rfl, rfl, rfl, rfl, rfl⟩ := H
           go_wp2_with (first | ((with_reducible refine gate_callee (f := 120) rfl ?_); refine gl 26 Try.func120 #[.int .u8 (bt a0 a1)] (h := ?_); (with_reducible refine (q1_digit.calls (bt a0 a1) t302 _ A12.out).mono ?_); rintro e w' ⟨rfl, ⟨nd, rfl⟩⟩; refine ⟨_, rfl, ?_⟩; (try (rw [drewN_self wc]; generalize hq_ : World.drewN wc _ = wc; replace BK299 : Aside0 (wc.heap[gb299]? = some (.cells #[.int .i64 0, .string (⟨#[]⟩ : ByteArray), .int .i64 0] 119 (0, 0))) := ⟨by rw [← hq_]; exact (bk BK299)⟩; replace HB : Aside0 (Below w.heap.size w wc) := ⟨by rw [← hq_]; exact (bb HB)⟩; clear hq_))) | ((with_reducible refine gate_callee (f := 121) rfl ?_); refine gl 27 Try.func121 #[.string a0, .int .i64 a1, .bool t302] (h := ?_); (with_reducible refine (q1_run.calls kj5 a0 a1 t302 t303 _ A13.out).mono ?_); rintro e w' ⟨rfl, ⟨nd, rfl⟩⟩; refine ⟨_, rfl, ?_⟩; (try (rw [drewN_self wc]; generalize hq_ : World.drewN wc _ = wc; replace BK299 : Aside0 (wc.heap[gb299]? = some (.cells #[.int .i64 0, .string (⟨#[]⟩ : ByteArray), .int .i64 0] 119 (0, 0))) := ⟨by rw [← hq_]; exact (bk BK299)⟩; replace HB : Aside0 (Below w.heap.size w wc) := ⟨by rw [← hq_]; exact (bb HB)⟩; clear hq_))) | ((with_reducible refine gate_callee (f := 120) rfl ?_); refine gl 29 Try.func120 #[.int .u8 (bt a0 a1)] (h := ?_); (with_reducible refine (q1_digit.calls (bt a0 a1) false _ A14.out).mono ?_); rintro e w' ⟨rfl, ⟨nd, rfl⟩⟩; refine ⟨_, rfl, ?_⟩; (try (rw [drewN_self wc]; generalize hq_ : World.drewN wc _ = wc; replace BK299 : Aside0 (wc.heap[gb299]? = some (.cells #[.int .i64 0, .string (⟨#[]⟩ : ByteArray), .int .i64 0] 119 (0, 0))) := ⟨by rw [← hq_]; exact (bk BK299)⟩; replace HB : Aside0 (Below w.heap.size w wc) := ⟨by rw [← hq_]; exact (bb HB)⟩; clear hq_)); obtain ⟨hcz27_0, hcz27_1, hcz27_2, hfz27_0, hfz27_1, hfz27_2⟩ := cz3 BK299))
           refine bodyPost_ret (results_ctt rfl _ _ gb299 119 #[.int .i64 1, .string (a0.extract (a1 : Int).toNat ((wrap64 (a1 + t303)) : Int).toNat), .int .i64 0] (0, 0) _ rfl (by (with_reducible repeat (first | refine blk_drewN ?_ _ | refine blk_drew ?_ | refine blk_alloc ?_ _)); refine blk_put (cs := #[.int .i64 1, .string (a0.extract (a1 : Int).toNat ((wrap64 (a1 + t303)) : Int).toNat), .int .i64 0]) ?_ 2 _ rfl; (with_reducible repeat (first | refine blk_drewN ?_ _ | refine blk_drew ?_ | refine blk_alloc ?_ _)); refine blk_put (cs := #[.int .i64 1, .string (⟨#[]⟩ : ByteArray), .int .i64 0]) ?_ 1 _ rfl; (with_reducible repeat (first | refine blk_drewN ?_ _ | refine blk_drew ?_ | refine blk_alloc ?_ _)); refine blk_put (cs := #[.int .i64 0, .string (⟨#[]⟩ : ByteArray), .int .i64 0]) ?_ 0 _ rfl; (with_reducible repeat (first | refine blk_drewN ?_ _ | refine blk_drew ?_ | refine blk_alloc ?_ _)); exact BK299.out) Try.underlying119 rfl (by kernel_rfl)) rfl ?_
           exact ⟨erf, bb HB⟩
          ·rw [if_neg c26] at H
           exact absurd H (by simp)
         ·rw [if_neg c25] at H
          exact absurd H (by simp)
        ·rw [if_neg c24] at H
         exact absurd H (by simp)
     ·replace c11 := Bool.eq_false_iff.mpr c11
      subst c11
      replace H := iff_ H
      by_cases c28 : (bt a0 a1) = 34
      ·rw [if_pos c28] at H
       have c28b0 : ((bt a0 a1) == 34) = true := beq_iff_eq.mpr c28
       have c28b1 : ((bt a0 a1) != 34) = false := bne_eq_false_iff_eq.mpr c28
       clear c28
       replace H := Option.bind_eq_some_iff.mp H
       obtain ⟨t305, A290, H⟩ := H
       replace H : (if t305 = 0 then (some (0, (⟨#[]⟩ : ByteArray), 0, 0, 2)) else (if (wrap64 (t305 - 2)) > 60 then (some (0, (⟨#[]⟩ : ByteArray), 0, 0, 3)) else (if 0 ≤ (wrap64 (a1 + 1)) then (if (wrap64 (a1 + 1)) ≤ (wrap64 ((wrap64 (a1 + t305)) - 1)) then (if (wrap64 ((wrap64 (a1 + t305)) - 1)) ≤ (a0.size : Int) then (some (3, a0.extract ((wrap64 (a1 + 1)) : Int).toNat ((wrap64 ((wrap64 (a1 + t305)) - 1)) : Int).toNat, 0, t305, 0)) else (none)) else (none)) else (none)))) = some (r1, r2, r3, r4, r5) := H
       have A29 := Aside0.mk A290
       clear A290
       by_cases c30 : t305 = 0
       ·rw [if_pos c30] at H
        have c30b0 : (t305 == 0) = true := beq_iff_eq.mpr c30
        have c30b1 : (t305 != 0) = false := bne_eq_false_iff_eq.mpr c30
        clear c30
        simp only [Option.some.injEq, Prod.mk.injEq] at H
        obtain ⟨rfl, rfl, rfl, rfl, rfl⟩ := H
        go_wp2_with ((with_reducible refine gate_callee (f := 122) rfl ?_); refine gl 47 Try.func122 #[.string a0, .int .i64 a1] (h := ?_); (with_reducible refine (q1_quoted.calls kj5 a0 a1 t305 _ A29.out).mono ?_); rintro e w' ⟨rfl, ⟨nd, rfl⟩⟩; refine ⟨_, rfl, ?_⟩; (try (rw [drewN_self wc]; generalize hq_ : World.drewN wc _ = wc; replace BK299 : Aside0 (wc.heap[gb299]? = some (.cells #[.int .i64 0, .string (⟨#[]⟩ : ByteArray), .int .i64 0] 119 (0, 0))) := ⟨by rw [← hq_]; exact (bk BK299)⟩; replace HB : Aside0 (Below w.heap.size w wc) := ⟨by rw [← hq_]; exact (bb HB)⟩; clear hq_)); obtain ⟨hcz31_0, hcz31_1, hcz31_2, hfz31_0, hfz31_1, hfz31_2⟩ := cz3 BK299)
        refine bodyPost_ret (results_ctt rfl _ _ gb299 119 #[.int .i64 0, .string (⟨#[]⟩ : ByteArray), .int .i64 0] (0, 0) _ rfl (by (with_reducible repeat (first | refine blk_drewN ?_ _ | refine blk_drew ?_ | refine blk_alloc ?_ _)); refine blk_put (cs := #[.int .i64 0, .string (⟨#[]⟩ : ByteArray), .int .i64 0]) ?_ 2 _ rfl; (with_reducible repeat (first | refine blk_drewN ?_ _ | refine blk_drew ?_ | refine blk_alloc ?_ _)); refine blk_put (cs := #[.int .i64 0, .string (⟨#[]⟩ : ByteArray), .int .i64 0]) ?_ 1 _ rfl; (with_reducible repeat (first | refine blk_drewN ?_ _ | refine blk_drew ?_ | refine blk_alloc ?_ _)); refine blk_put (cs := #[.int .i64 0, .string (⟨#[]⟩ : ByteArray), .int .i64 0]) ?_ 0 _ rfl; (with_reducible repeat (first | refine blk_drewN ?_ _ | refine blk_drew ?_ | refine blk_alloc ?_ _)); exact BK299.out) Try.underlying119 rfl (by kernel_rfl)) rfl ?_
        exact ⟨erf, bb HB⟩
       ·rw [if_neg c30] at H
        have c30b0 : (t305 == 0) = false := beq_eq_false_iff_ne.mpr c30
        have c30b1 : (t305 != 0) = true := bne_iff_ne.mpr c30
        by_cases c32 : (wrap64 (t305 - 2)) > 60
        ·rw [if_pos c32] at H
         have c32b0 : decide (60 < (wrap64 (t305 - 2))) = true := decide_eq_true c32
         clear c32
         simp only [Option.some.injEq, Prod.mk.injEq] at H
         obtain ⟨rfl, rfl, rfl, rfl, rfl⟩ := H
         go_wp2_with ((with_reducible refine gate_callee (f := 122) rfl ?_); refine gl 47 Try.func122 #[.string a0, .int .i64 a1] (h := ?_); (with_reducible refine (q1_quoted.calls kj5 a0 a1 t305 _ A29.out).mono ?_); rintro e w' ⟨rfl, ⟨nd, rfl⟩⟩; refine ⟨_, rfl, ?_⟩; (try (rw [drewN_self wc]; generalize hq_ : World.drewN wc _ = wc; replace BK299 : Aside0 (wc.heap[gb299]? = some (.cells #[.int .i64 0, .string (⟨#[]⟩ : ByteArray), .int .i64 0] 119 (0, 0))) := ⟨by rw [← hq_]; exact (bk BK299)⟩; replace HB : Aside0 (Below w.heap.size w wc) := ⟨by rw [← hq_]; exact (bb HB)⟩; clear hq_)); obtain ⟨hcz33_0, hcz33_1, hcz33_2, hfz33_0, hfz33_1, hfz33_2⟩ := cz3 BK299)
         refine bodyPost_ret (results_ctt rfl _ _ gb299 119 #[.int .i64 0, .string (⟨#[]⟩ : ByteArray), .int .i64 0] (0, 0) _ rfl (by (with_reducible repeat (first | refine blk_drewN ?_ _ | refine blk_drew ?_ | refine blk_alloc ?_ _)); refine blk_put (cs := #[.int .i64 0, .string (⟨#[]⟩ : ByteArray), .int .i64 0]) ?_ 2 _ rfl; (with_reducible repeat (first | refine blk_drewN ?_ _ | refine blk_drew ?_ | refine blk_alloc ?_ _)); refine blk_put (cs := #[.int .i64 0, .string (⟨#[]⟩ : ByteArray), .int .i64 0]) ?_ 1 _ rfl; (with_reducible repeat (first | refine blk_drewN ?_ _ | refine blk_drew ?_ | refine blk_alloc ?_ _)); refine blk_put (cs := #[.int .i64 0, .string (⟨#[]⟩ : ByteArray), .int .i64 0]) ?_ 0 _ rfl; (with_reducible repeat (first | refine blk_drewN ?_ _ | refine blk_drew ?_ | refine blk_alloc ?_ _)); exact BK299.out) Try.underlying119 rfl (by kernel_rfl)) rfl ?_
         exact ⟨erf, bb HB⟩
        ·rw [if_neg c32] at H
         have c32b0 : decide (60 < (wrap64 (t305 - 2))) = false := decide_eq_false c32
         clear c32
         obtain ⟨ji34, hji34⟩ : ∃ j_ : Int, (wrap64 (a1 + 1)) = j_ := ⟨_, rfl⟩
         replace H : (if 0 ≤ (ji34) then (if (ji34) ≤ (wrap64 ((wrap64 (a1 + t305)) - 1)) then (if (wrap64 ((wrap64 (a1 + t305)) - 1)) ≤ (a0.size : Int) then (some (3, a0.extract ((ji34) : Int).toNat ((wrap64 ((wrap64 (a1 + t305)) - 1)) : Int).toNat, 0, t305, 0)) else (none)) else (none)) else (none)) = some (r1, r2, r3, r4, r5) := by first | (rw [hji34] at H; exact H) | (simp only [hji34] at H ⊢; exact H)
         (try rw [hji34] at A29)
         have hji34w : (IntKind.i64.wrap (a1 + 1)) = ji34 := (i64_w _).trans hji34
         by_cases c35 : 0 ≤ (ji34)
         ·rw [if_pos c35] at H
          have c35b0 := eq_true c35
          have c35b1 : decide (0 ≤ (ji34)) = true := decide_eq_true c35
          clear c35
          by_cases c36 : (ji34) ≤ (wrap64 ((wrap64 (a1 + t305)) - 1))
          ·rw [if_pos c36] at H
           have c36b0 := eq_true c36
           have c36b1 : decide ((ji34) ≤ (wrap64 ((wrap64 (a1 + t305)) - 1))) = true := decide_eq_true c36
           by_cases c37 : (wrap64 ((wrap64 (a1 + t305)) - 1)) ≤ (a0.size : Int)
           ·rw [if_pos c37] at H
            have c37b0 := eq_true c37
            have c37b1 : decide ((wrap64 ((wrap64 (a1 + t305)) - 1)) ≤ (a0.size : Int)) = true := decide_eq_true c37
            simp only [Option.some.injEq, Prod.mk.injEq] at H
            obtain ⟨rfl, rfl, rfl, rfl, rfl⟩ := H
            go_wp2_with ((with_reducible refine gate_callee (f := 122) rfl ?_); refine gl 47 Try.func122 #[.string a0, .int .i64 a1] (h := ?_); (with_reducible refine (q1_quoted.calls kj5 a0 a1 t305 _ A29.out).mono ?_); rintro e w' ⟨rfl, ⟨nd, rfl⟩⟩; refine ⟨_, rfl, ?_⟩; (try (rw [drewN_self wc]; generalize hq_ : World.drewN wc _ = wc; replace BK299 : Aside0 (wc.heap[gb299]? = some (.cells #[.int .i64 0, .string (⟨#[]⟩ : ByteArray), .int .i64 0] 119 (0, 0))) := ⟨by rw [← hq_]; exact (bk BK299)⟩; replace HB : Aside0 (Below w.heap.size w wc) := ⟨by rw [← hq_]; exact (bb HB)⟩; clear hq_)); obtain ⟨hcz38_0, hcz38_1, hcz38_2, hfz38_0, hfz38_1, hfz38_2⟩ := cz3 BK299)
            refine bodyPost_ret (results_ctt rfl _ _ gb299 119 #[.int .i64 3, .string (a0.extract ((ji34) : Int).toNat ((wrap64 ((wrap64 (a1 + t305)) - 1)) : Int).toNat), .int .i64 0] (0, 0) _ rfl (by (with_reducible repeat (first | refine blk_drewN ?_ _ | refine blk_drew ?_ | refine blk_alloc ?_ _)); refine blk_put (cs := #[.int .i64 3, .string (a0.extract ((ji34) : Int).toNat ((wrap64 ((wrap64 (a1 + t305)) - 1)) : Int).toNat), .int .i64 0]) ?_ 2 _ rfl; (with_reducible repeat (first | refine blk_drewN ?_ _ | refine blk_drew ?_ | refine blk_alloc ?_ _)); refine blk_put (cs := #[.int .i64 3, .string (⟨#[]⟩ : ByteArray), .int .i64 0]) ?_ 1 _ rfl; (with_reducible repeat (first | refine blk_drewN ?_ _ | refine blk_drew ?_ | refine blk_alloc ?_ _)); refine blk_put (cs := #[.int .i64 0, .string (⟨#[]⟩ : ByteArray), .int .i64 0]) ?_ 0 _ rfl; (with_reducible repeat (first | refine blk_drewN ?_ _ | refine blk_drew ?_ | refine blk_alloc ?_ _)); exact BK299.out) Try.underlying119 rfl (by kernel_rfl)) rfl ?_
            exact ⟨by first | rfl | (simp [errW_none, errW_some] <;> rfl) | (simp only [← hji34]; first | rfl | (simp [errW_none, errW_some] <;> rfl)) | (simp [*, errW_none, errW_some] <;> rfl), bb HB⟩
           ·rw [if_neg c37] at H
            exact absurd H (by simp)
          ·rw [if_neg c36] at H
           exact absurd H (by simp)
         ·rw [if_neg c35] at H
          exact absurd H (by simp)
      ·rw [if_neg c28] at H
       have c28b0 : ((bt a0 a1) == 34) = false := beq_eq_false_iff_ne.mpr c28
       have c28b1 : ((bt a0 a1) != 34) = true := bne_iff_ne.mpr c28
       replace H := Option.bind_eq_some_iff.mp H
       obtain ⟨t306, A390, H⟩ := H
       replace H : (q1_one.l0 kj5 a0 a1 t306 0) = some (r1, r2, r3, r4, r5) := H
       have A39 := Aside0.mk A390
       clear A390
       have H' := Aside0.mk H
       clear H
       go_wp2_with ((with_reducible refine gate_callee (f := 123) rfl ?_); refine gl 65 Try.func123 #[] (h := ?_); (with_reducible refine (q1_signs.calls  t306 _ A39.out).mono ?_); rintro e w40 ⟨v307, rfl, ho0, hb⟩; refine ⟨_, rfl, ?_⟩; have HO308 := Aside0.mk (Kd.R_lower ho0 (below_size (bb HB))); replace BK299 := bkb BK299 hb; replace HB := bstep HB hb; (try clear hb); (try clear hb2); (try clear hk); (try clear hi); (try clear ho0))
       go_loopg [13] kj5 (fun kq v13 w' => ∃ (x13_2 : Int) (x300000_2 : Int) (x300001_2 : ByteArray) (x300002_2 : Int), v13 = .int .i64 x13_2 ∧ Aside0 (q1_one.l0 kq a0 a1 t306 x13_2 = some (r1, r2, r3, r4, r5)) ∧ Aside0 (kq ≤ kj5) ∧ Aside0 (Kd.R Kd.string 9 w' w.heap.size (fun _ => True) v307 t306) ∧ Aside0 (w'.heap[gb299]? = some (.cells #[.int .i64 x300000_2, .string x300001_2, .int .i64 x300002_2] 119 (0, 0))) ∧ Aside0 (Below w.heap.size w w'))
       case atStart => exact ⟨(0), (0), ((⟨#[]⟩ : ByteArray)), (0), eqs, H', ⟨Nat.le_refl _⟩, ⟨kR HO308⟩, ⟨bk BK299⟩, ⟨bb HB⟩⟩
       case round =>
        clear H'
        clear c28 c28b0 c28b1
        obtain ⟨x13_2, x300000_2, x300001_2, x300002_2, rfl, HA, HK2, HO_12, BK299, HB⟩ := hrel
        cases gk with
        | zero => exact absurd HA.out (by simp [q1_one.l0])
        | succ k2 =>
         have H := HA.out
         clear HA
         simp only [q1_one.l0] at H
         by_cases c41 : x13_2 < (t306.length : Int)
         ·rw [if_pos c41] at H
          have c41b0 : decide (x13_2 < (t306.length : Int)) = true := decide_eq_true c41
          clear c41
          by_cases c42 : 0 ≤ x13_2
          ·rw [if_pos c42] at H
           have c42b0 : decide (0 ≤ x13_2) = true := decide_eq_true c42
           clear c42
           by_cases c43 : (wrap64 (a1 + ((rdOf ByteArray.empty t306 x13_2).size : Int))) ≤ (a0.size : Int)
           ·rw [if_pos c43] at H
            have c43b0 : decide ((wrap64 (a1 + ((rdOf ByteArray.empty t306 x13_2).size : Int))) ≤ (a0.size : Int)) = true := decide_eq_true c43
            clear c43
            by_cases c44 : 0 ≤ a1
            ·rw [if_pos c44] at H
             have c44b0 := eq_true c44
             have c44b1 : decide (0 ≤ a1) = true := decide_eq_true c44
             clear c44
             by_cases c45 : a1 ≤ (wrap64 (a1 + ((rdOf ByteArray.empty t306 x13_2).size : Int)))
             ·rw [if_pos c45] at H
              have c45b0 := eq_true c45
              have c45b1 : decide (a1 ≤ (wrap64 (a1 + ((rdOf ByteArray.empty t306 x13_2).size : Int)))) = true := decide_eq_true c45
              have c46b0 := eq_true (odt : (wrap64 (a1 + ((rdOf ByteArray.empty t306 x13_2).size : Int))) ≤ (a0.size : Int))
              by_cases c47 : (a0.extract (a1 : Int).toNat ((wrap64 (a1 + ((rdOf ByteArray.empty t306 x13_2).size : Int))) : Int).toNat).toList = (rdOf ByteArray.empty t306 x13_2).toList
              ·rw [if_pos c47] at H
               have c47b0 : ((a0.extract (a1 : Int).toNat ((wrap64 (a1 + ((rdOf ByteArray.empty t306 x13_2).size : Int))) : Int).toNat).toList == (rdOf ByteArray.empty t306 x13_2).toList) = true := beq_iff_eq.mpr c47
               have c47b1 : ((a0.extract (a1 : Int).toNat ((wrap64 (a1 + ((rdOf ByteArray.empty t306 x13_2).size : Int))) : Int).toNat).toList != (rdOf ByteArray.empty t306 x13_2).toList) = false := bne_eq_false_iff_eq.mpr c47
               clear c47
               simp only [Option.some.injEq, Prod.mk.injEq] at H
               obtain ⟨rfl, rfl, rfl, rfl, rfl⟩ := H
               obtain ⟨Ao48, co48, eo48⟩ := Kd.R_slice HO_12.out
               subst eo48
               try go_wp2
               replace HO_12 := Aside0.mk (Kd.R_drew HO_12.out)
               replace BK299 := Aside0.mk (blk_drew BK299.out)
               replace HB := Aside0.mk (below_drew1 HB.out)
               have p309 : 0 ≤ x13_2 := odt
               have q309 : x13_2 < (t306.length : Int) := odt
               obtain ⟨ad309, e309, hx309_0⟩ := Kd.at_string (Kd.R_reads' HO_12.out).2.2 x13_2 p309 q309
               cases e309
               replace p309 := eq_true p309
               replace q309 := eq_true q309
               have p310 : 0 ≤ x13_2 := odt
               have q310 : x13_2 < (t306.length : Int) := odt
               obtain ⟨ad310, e310, hx310_0⟩ := Kd.at_string (Kd.R_reads' HO_12.out).2.2 x13_2 p310 q310
               obtain rfl : ad309 = ad310 := (by injection e310)
               replace p310 := eq_true p310
               replace q310 := eq_true q310
               have p311 : 0 ≤ x13_2 := odt
               have q311 : x13_2 < (t306.length : Int) := odt
               obtain ⟨ad311, e311, hx311_0⟩ := Kd.at_string (Kd.R_reads' HO_12.out).2.2 x13_2 p311 q311
               obtain rfl : ad309 = ad311 := (by injection e311)
               replace p311 := eq_true p311
               replace q311 := eq_true q311
               refine start_ (n := 27) (S := fun w' => w'.cell? (ad309.add (x13_2).toNat) = some (.string (rdOf ByteArray.empty t306 x13_2)) ∧ w'.cell? (ad309.add (x13_2).toNat) = some (.string (rdOf ByteArray.empty t306 x13_2)) ∧ w'.cell? (ad309.add (x13_2).toNat) = some (.string (rdOf ByteArray.empty t306 x13_2))) (ds := []) #[false, false, false, false, false, false, false, false, false, false, false, false, false, false, false, false, false, false, false, false, false, false, false, false, false, false, false] (by kernel_rfl) rfl rfl ⟨hx309_0, hx310_0, hx311_0⟩ (fun hHeld => ?_); refine with_tabW q1_one.tab21 q1_one.bits21 (fun HT_ HW_ => ?_)
               generalize wr.drew = w49 at HO_12 BK299 HB hx309_0 hx310_0 hx311_0 hHeld ⊢
               refine pu 0 72 (bits 27 0x1) HT_ (h := ?_)
               refine pu 1 73 (bits 27 0x3) HT_ (h := ?_)
               refine pu 2 74 (bits 27 0x7) HT_ (h := ?_)
               refine pu 3 75 (bits 27 0xf) HT_ (h := ?_)
               refine pu 7 79 (bits 27 0x8f) HT_ (h := ?_)
               refine pu 8 80 (bits 27 0x18f) HT_ (h := ?_)
               refine tk 4 76 (bits 27 0x19f) HT_ HW_ hHeld (hy := by rintro w' ⟨s0, s1, s2⟩; go_simp; with_reducible rfl) (h := ?_)
               refine pu 5 77 (bits 27 0x1bf) HT_ (h := ?_)
               refine pu 6 78 (bits 27 0x1ff) HT_ (h := ?_)
               refine pu 9 81 (bits 27 0x3ff) HT_ (h := ?_)
               refine pu 10 82 (bits 27 0x7ff) HT_ (h := ?_)
               refine pu 11 83 (bits 27 0xfff) HT_ (h := ?_)
               refine pu 12 84 (bits 27 0x1fff) HT_ (h := ?_)
               refine pu 13 85 (bits 27 0x3fff) HT_ (h := ?_)
               refine pu 14 86 (bits 27 0x7fff) HT_ (h := ?_)
               refine pu 15 87 (bits 27 0xffff) HT_ (h := ?_)
               refine pu 16 88 (bits 27 0x1ffff) HT_ (h := ?_)
               refine pu 21 93 (bits 27 0x21ffff) HT_ (h := ?_)
               refine pu 22 94 (bits 27 0x61ffff) HT_ (h := ?_)
               refine pu 23 95 (bits 27 0xe1ffff) HT_ (h := ?_)
               refine tk 17 89 (bits 27 0xe3ffff) HT_ HW_ hHeld (hy := by rintro w' ⟨s0, s1, s2⟩; go_simp; with_reducible rfl) (h := ?_)
               refine pu 18 90 (bits 27 0xe7ffff) HT_ (h := ?_)
               refine pu 19 91 (bits 27 0xefffff) HT_ (h := ?_)
               refine pu 20 92 (bits 27 0xffffff) HT_ (h := ?_)
               refine tk 24 96 (bits 27 0x1ffffff) HT_ HW_ hHeld (hy := by rintro w' ⟨s0, s1, s2⟩; go_simp; with_reducible rfl) (h := ?_)
               refine pu 25 97 (bits 27 0x3ffffff) HT_ (h := ?_)
               refine pu 26 98 (bits 27 0x7ffffff) HT_ (h := ?_)
               refine done_ (done_of HT_.out (by kernel_rfl)) ?_
               try go_wp2
               replace HO_12 := Aside0.mk (Kd.R_drew HO_12.out)
               replace BK299 := Aside0.mk (blk_drew BK299.out)
               replace HB := Aside0.mk (below_drew1 HB.out)
               have p312 : 0 ≤ x13_2 := odt
               have q312 : x13_2 < (t306.length : Int) := odt
               obtain ⟨ad312, e312, hx312_0⟩ := Kd.at_string (Kd.R_reads' HO_12.out).2.2 x13_2 p312 q312
               obtain rfl : ad309 = ad312 := (by injection e312)
               replace p312 := eq_true p312
               replace q312 := eq_true q312
               have p313 : 0 ≤ x13_2 := odt
               have q313 : x13_2 < (t306.length : Int) := odt
               obtain ⟨ad313, e313, hx313_0⟩ := Kd.at_string (Kd.R_reads' HO_12.out).2.2 x13_2 p313 q313
               obtain rfl : ad309 = ad313 := (by injection e313)
               replace p313 := eq_true p313
               replace q313 := eq_true q313
               refine start_ (n := 13) (S := fun w' => w'.cell? (ad309.add (x13_2).toNat) = some (.string (rdOf ByteArray.empty t306 x13_2)) ∧ w'.cell? (ad309.add (x13_2).toNat) = some (.string (rdOf ByteArray.empty t306 x13_2))) (ds := []) #[false, false, false, false, false, false, false, false, false, false, false, false, false] (by kernel_rfl) rfl rfl ⟨hx312_0, hx313_0⟩ (fun hHeld => ?_); refine with_tabW q1_one.tab22 q1_one.bits22 (fun HT_ HW_ => ?_)
               generalize w49.drew = w50 at HO_12 BK299 HB hx312_0 hx313_0 hHeld ⊢
               refine pu 0 99 (bits 13 0x1) HT_ (h := ?_)
               refine pu 1 100 (bits 13 0x3) HT_ (h := ?_)
               refine pu 2 101 (bits 13 0x7) HT_ (h := ?_)
               refine pu 5 104 (bits 13 0x27) HT_ (h := ?_)
               refine pu 6 105 (bits 13 0x67) HT_ (h := ?_)
               refine pu 7 106 (bits 13 0xe7) HT_ (h := ?_)
               refine tk 3 102 (bits 13 0xef) HT_ HW_ hHeld (hy := by rintro w' ⟨s0, s1⟩; go_simp; with_reducible rfl) (h := ?_)
               refine pu 4 103 (bits 13 0xff) HT_ (h := ?_)
               refine tk 8 107 (bits 13 0x1ff) HT_ HW_ hHeld (hy := by rintro w' ⟨s0, s1⟩; go_simp; with_reducible rfl) (h := ?_)
               refine pu 9 108 (bits 13 0x3ff) HT_ (h := ?_)
               refine one_ (i := 10) (N := none) #[true, true, true, true, true, true, true, true, true, true, true, false, false] rfl rfl (one_of HT_.out (by kernel_rfl)) (by decide) (fun K hK => ?_)
               have hs51 : w50.cell? ⟨gb299, 0, none⟩ = some (.int .i64 x300000_2) := (blk_cell BK299.out 0).trans rfl
               have hfs51 := blk_frozen BK299.out 0
               have hs52 : w50.cell? ⟨gb299, 1, none⟩ = some (.string x300001_2) := (blk_cell BK299.out 1).trans rfl
               have hfs52 := blk_frozen BK299.out 1
               have hs53 : w50.cell? ⟨gb299, 2, none⟩ = some (.int .i64 x300002_2) := (blk_cell BK299.out 2).trans rfl
               have hfs53 := blk_frozen BK299.out 2
               refine skip_ (w1 := ?_) (by rfl) rfl ?_ ?_
               rotate_left
               ·go_simp
                rfl
               refine hK.out _ _ ⟨((cell_far (p := ⟨gb299, _, none⟩) (by first | exact Kd.own_blk (Kd.R_ne HO_12.out BK299.out (by decide)) | (rw [add_block]; exact Kd.own_blk (Kd.R_ne HO_12.out BK299.out (by decide))) | (show (Addr.add _ _).block ≠ _; rw [add_block]; exact Kd.own_blk (Kd.R_ne HO_12.out BK299.out (by decide))) | (dsimp only; exact Kd.own_blk (Kd.R_ne HO_12.out BK299.out (by decide)))) _).trans (((cell_far (p := ⟨gb299, _, none⟩) (by first | exact Kd.own_blk (Kd.R_ne HO_12.out BK299.out (by decide)) | (rw [add_block]; exact Kd.own_blk (Kd.R_ne HO_12.out BK299.out (by decide))) | (show (Addr.add _ _).block ≠ _; rw [add_block]; exact Kd.own_blk (Kd.R_ne HO_12.out BK299.out (by decide))) | (dsimp only; exact Kd.own_blk (Kd.R_ne HO_12.out BK299.out (by decide)))) _).trans (((cell_far (p := ⟨gb299, _, none⟩) (by first | exact Kd.own_blk (Kd.R_ne HO_12.out BK299.out (by decide)) | (rw [add_block]; exact Kd.own_blk (Kd.R_ne HO_12.out BK299.out (by decide))) | (show (Addr.add _ _).block ≠ _; rw [add_block]; exact Kd.own_blk (Kd.R_ne HO_12.out BK299.out (by decide))) | (dsimp only; exact Kd.own_blk (Kd.R_ne HO_12.out BK299.out (by decide)))) _).trans (hHeld.1)))))), ((cell_far (p := ⟨gb299, _, none⟩) (by first | exact Kd.own_blk (Kd.R_ne HO_12.out BK299.out (by decide)) | (rw [add_block]; exact Kd.own_blk (Kd.R_ne HO_12.out BK299.out (by decide))) | (show (Addr.add _ _).block ≠ _; rw [add_block]; exact Kd.own_blk (Kd.R_ne HO_12.out BK299.out (by decide))) | (dsimp only; exact Kd.own_blk (Kd.R_ne HO_12.out BK299.out (by decide)))) _).trans (((cell_far (p := ⟨gb299, _, none⟩) (by first | exact Kd.own_blk (Kd.R_ne HO_12.out BK299.out (by decide)) | (rw [add_block]; exact Kd.own_blk (Kd.R_ne HO_12.out BK299.out (by decide))) | (show (Addr.add _ _).block ≠ _; rw [add_block]; exact Kd.own_blk (Kd.R_ne HO_12.out BK299.out (by decide))) | (dsimp only; exact Kd.own_blk (Kd.R_ne HO_12.out BK299.out (by decide)))) _).trans (((cell_far (p := ⟨gb299, _, none⟩) (by first | exact Kd.own_blk (Kd.R_ne HO_12.out BK299.out (by decide)) | (rw [add_block]; exact Kd.own_blk (Kd.R_ne HO_12.out BK299.out (by decide))) | (show (Addr.add _ _).block ≠ _; rw [add_block]; exact Kd.own_blk (Kd.R_ne HO_12.out BK299.out (by decide))) | (dsimp only; exact Kd.own_blk (Kd.R_ne HO_12.out BK299.out (by decide)))) _).trans (hHeld.2))))))⟩ (fun hHeld => ?_)
               clear hK K
               refine pu 11 5 (bits 13 0xfff) HT_ (h := ?_)
               refine pu 12 6 (bits 13 0x1fff) HT_ (h := ?_)
               refine done_ (done_of HT_.out (by kernel_rfl)) ?_
               try go_wp2
               refine bodyPost_ret (results_ctt rfl _ _ gb299 119 #[.int .i64 4, .string (rdOf ByteArray.empty t306 x13_2), .int .i64 0] (0, 0) _ rfl (by (with_reducible repeat (first | refine blk_drewN ?_ _ | refine blk_drew ?_ | refine blk_alloc ?_ _)); refine blk_put (cs := #[.int .i64 4, .string (rdOf ByteArray.empty t306 x13_2), .int .i64 x300002_2]) ?_ 2 _ rfl; (with_reducible repeat (first | refine blk_drewN ?_ _ | refine blk_drew ?_ | refine blk_alloc ?_ _)); refine blk_put (cs := #[.int .i64 4, .string x300001_2, .int .i64 x300002_2]) ?_ 1 _ rfl; (with_reducible repeat (first | refine blk_drewN ?_ _ | refine blk_drew ?_ | refine blk_alloc ?_ _)); refine blk_put (cs := #[.int .i64 x300000_2, .string x300001_2, .int .i64 x300002_2]) ?_ 0 _ rfl; (with_reducible repeat (first | refine blk_drewN ?_ _ | refine blk_drew ?_ | refine blk_alloc ?_ _)); exact BK299.out) Try.underlying119 rfl (by kernel_rfl)) rfl ?_
               exact ⟨erf, bb HB⟩
              ·rw [if_neg c47] at H
               have c47b0 : ((a0.extract (a1 : Int).toNat ((wrap64 (a1 + ((rdOf ByteArray.empty t306 x13_2).size : Int))) : Int).toNat).toList == (rdOf ByteArray.empty t306 x13_2).toList) = false := beq_eq_false_iff_ne.mpr c47
               have c47b1 : ((a0.extract (a1 : Int).toNat ((wrap64 (a1 + ((rdOf ByteArray.empty t306 x13_2).size : Int))) : Int).toNat).toList != (rdOf ByteArray.empty t306 x13_2).toList) = true := bne_iff_ne.mpr c47
               have H' := Aside0.mk H
               clear H
               obtain ⟨Ao54, co54, eo54⟩ := Kd.R_slice HO_12.out
               subst eo54
               try go_wp2
               replace HO_12 := Aside0.mk (Kd.R_drew HO_12.out)
               replace BK299 := Aside0.mk (blk_drew BK299.out)
               replace HB := Aside0.mk (below_drew1 HB.out)
               have p309 : 0 ≤ x13_2 := odt
               have q309 : x13_2 < (t306.length : Int) := odt
               obtain ⟨ad309, e309, hx309_0⟩ := Kd.at_string (Kd.R_reads' HO_12.out).2.2 x13_2 p309 q309
               cases e309
               replace p309 := eq_true p309
               replace q309 := eq_true q309
               have p310 : 0 ≤ x13_2 := odt
               have q310 : x13_2 < (t306.length : Int) := odt
               obtain ⟨ad310, e310, hx310_0⟩ := Kd.at_string (Kd.R_reads' HO_12.out).2.2 x13_2 p310 q310
               obtain rfl : ad309 = ad310 := (by injection e310)
               replace p310 := eq_true p310
               replace q310 := eq_true q310
               have p311 : 0 ≤ x13_2 := odt
               have q311 : x13_2 < (t306.length : Int) := odt
               obtain ⟨ad311, e311, hx311_0⟩ := Kd.at_string (Kd.R_reads' HO_12.out).2.2 x13_2 p311 q311
               obtain rfl : ad309 = ad311 := (by injection e311)
               replace p311 := eq_true p311
               replace q311 := eq_true q311
               refine start_ (n := 27) (S := fun w' => w'.cell? (ad309.add (x13_2).toNat) = some (.string (rdOf ByteArray.empty t306 x13_2)) ∧ w'.cell? (ad309.add (x13_2).toNat) = some (.string (rdOf ByteArray.empty t306 x13_2)) ∧ w'.cell? (ad309.add (x13_2).toNat) = some (.string (rdOf ByteArray.empty t306 x13_2))) (ds := []) #[false, false, false, false, false, false, false, false, false, false, false, false, false, false, false, false, false, false, false, false, false, false, false, false, false, false, false] (by kernel_rfl) rfl rfl ⟨hx309_0, hx310_0, hx311_0⟩ (fun hHeld => ?_); refine with_tabW q1_one.tab21 q1_one.bits21 (fun HT_ HW_ => ?_)
               generalize wr.drew = w55 at HO_12 BK299 HB hx309_0 hx310_0 hx311_0 hHeld ⊢
               refine pu 0 72 (bits 27 0x1) HT_ (h := ?_)
               refine pu 1 73 (bits 27 0x3) HT_ (h := ?_)
               refine pu 2 74 (bits 27 0x7) HT_ (h := ?_)
               refine pu 3 75 (bits 27 0xf) HT_ (h := ?_)
               refine pu 7 79 (bits 27 0x8f) HT_ (h := ?_)
               refine pu 8 80 (bits 27 0x18f) HT_ (h := ?_)
               refine tk 4 76 (bits 27 0x19f) HT_ HW_ hHeld (hy := by rintro w' ⟨s0, s1, s2⟩; go_simp; with_reducible rfl) (h := ?_)
               refine pu 5 77 (bits 27 0x1bf) HT_ (h := ?_)
               refine pu 6 78 (bits 27 0x1ff) HT_ (h := ?_)
               refine pu 9 81 (bits 27 0x3ff) HT_ (h := ?_)
               refine pu 10 82 (bits 27 0x7ff) HT_ (h := ?_)
               refine pu 11 83 (bits 27 0xfff) HT_ (h := ?_)
               refine pu 12 84 (bits 27 0x1fff) HT_ (h := ?_)
               refine pu 13 85 (bits 27 0x3fff) HT_ (h := ?_)
               refine pu 14 86 (bits 27 0x7fff) HT_ (h := ?_)
               refine pu 15 87 (bits 27 0xffff) HT_ (h := ?_)
               refine pu 16 88 (bits 27 0x1ffff) HT_ (h := ?_)
               refine pu 21 93 (bits 27 0x21ffff) HT_ (h := ?_)
               refine pu 22 94 (bits 27 0x61ffff) HT_ (h := ?_)
               refine pu 23 95 (bits 27 0xe1ffff) HT_ (h := ?_)
               refine tk 17 89 (bits 27 0xe3ffff) HT_ HW_ hHeld (hy := by rintro w' ⟨s0, s1, s2⟩; go_simp; with_reducible rfl) (h := ?_)
               refine pu 18 90 (bits 27 0xe7ffff) HT_ (h := ?_)
               refine pu 19 91 (bits 27 0xefffff) HT_ (h := ?_)
               refine pu 20 92 (bits 27 0xffffff) HT_ (h := ?_)
               refine tk 24 96 (bits 27 0x1ffffff) HT_ HW_ hHeld (hy := by rintro w' ⟨s0, s1, s2⟩; go_simp; with_reducible rfl) (h := ?_)
               refine pu 25 97 (bits 27 0x3ffffff) HT_ (h := ?_)
               refine pu 26 98 (bits 27 0x7ffffff) HT_ (h := ?_)
               refine done_ (done_of HT_.out (by kernel_rfl)) ?_
               try go_wp2
               go_roundg k2
               case measure => have := HJ5.out; have := HK2.out; omega
               case rel => exact ⟨(wrap64 (x13_2 + 1)), (x300000_2), (x300001_2), (x300002_2), eqs, H', ⟨by have := HJ5.out; have := HK2.out; omega⟩, ⟨kR HO_12⟩, ⟨bk BK299⟩, ⟨bb HB⟩⟩
             ·rw [if_neg c45] at H
              exact absurd H (by simp)
            ·rw [if_neg c44] at H
             exact absurd H (by simp)
           ·rw [if_neg c43] at H
            have c43b0 : decide ((wrap64 (a1 + ((rdOf ByteArray.empty t306 x13_2).size : Int))) ≤ (a0.size : Int)) = false := decide_eq_false c43
            clear c43
            have H' := Aside0.mk H
            clear H
            obtain ⟨Ao56, co56, eo56⟩ := Kd.R_slice HO_12.out
            subst eo56
            try go_wp2
            replace HO_12 := Aside0.mk (Kd.R_drew HO_12.out)
            replace BK299 := Aside0.mk (blk_drew BK299.out)
            replace HB := Aside0.mk (below_drew1 HB.out)
            have p309 : 0 ≤ x13_2 := odt
            have q309 : x13_2 < (t306.length : Int) := odt
            obtain ⟨ad309, e309, hx309_0⟩ := Kd.at_string (Kd.R_reads' HO_12.out).2.2 x13_2 p309 q309
            cases e309
            replace p309 := eq_true p309
            replace q309 := eq_true q309
            refine start_ (n := 27) (S := fun w' => w'.cell? (ad309.add (x13_2).toNat) = some (.string (rdOf ByteArray.empty t306 x13_2))) (ds := []) #[false, false, false, false, false, false, false, false, false, false, false, false, false, false, false, false, false, false, false, false, false, false, false, false, false, false, false] (by kernel_rfl) rfl rfl (hx309_0) (fun hHeld => ?_); refine with_tabW q1_one.tab21 q1_one.bits21 (fun HT_ HW_ => ?_)
            generalize wr.drew = w57 at HO_12 BK299 HB hx309_0 hHeld ⊢
            refine pu 0 72 (bits 27 0x1) HT_ (h := ?_)
            refine pu 1 73 (bits 27 0x3) HT_ (h := ?_)
            refine pu 2 74 (bits 27 0x7) HT_ (h := ?_)
            refine pu 3 75 (bits 27 0xf) HT_ (h := ?_)
            refine pu 7 79 (bits 27 0x8f) HT_ (h := ?_)
            refine pu 8 80 (bits 27 0x18f) HT_ (h := ?_)
            refine take_ (i := 4) (N := some 76) (v := ?_) (a' := ?_) #[true, true, true, true, true, false, false, true, true, false, false, false, false, false, false, false, false, false, false, false, false, false, false, false, false, false, false] rfl rfl (take_ofW HT_.out HW_.out (by kernel_rfl)) (fun _ _ _ h => h) (Or.inl ⟨by rfl, ?_⟩) hHeld ?_ ?_
            rotate_left
            ·intro w' s0
             go_simp
             with_reducible rfl
            rotate_left
            ·simp only [Act.put, List.setIfInBounds_toArray, List.set_cons_zero, List.set_cons_succ, i64_w, i32_w]
             rfl
            refine pu 5 77 (bits 27 0x1bf) HT_ (h := ?_)
            refine pu 6 78 (bits 27 0x1ff) HT_ (h := ?_)
            refine pu 9 81 (bits 27 0x3ff) HT_ (h := ?_)
            refine pu 10 82 (bits 27 0x7ff) HT_ (h := ?_)
            refine pn 11 83 (bits 27 0xfff) HT_ (h := ?_)
            refine pn 12 84 (bits 27 0x1fff) HT_ (h := ?_)
            refine pn 13 85 (bits 27 0x3fff) HT_ (h := ?_)
            refine pn 14 86 (bits 27 0x7fff) HT_ (h := ?_)
            refine pn 15 87 (bits 27 0xffff) HT_ (h := ?_)
            refine pn 16 88 (bits 27 0x1ffff) HT_ (h := ?_)
            refine pn 17 89 (bits 27 0x3ffff) HT_ (h := ?_)
            refine pn 18 90 (bits 27 0x7ffff) HT_ (h := ?_)
            refine pn 19 91 (bits 27 0xfffff) HT_ (h := ?_)
            refine pn 20 92 (bits 27 0x1fffff) HT_ (h := ?_)
            refine pn 21 93 (bits 27 0x3fffff) HT_ (h := ?_)
            refine pn 22 94 (bits 27 0x7fffff) HT_ (h := ?_)
            refine pn 23 95 (bits 27 0xffffff) HT_ (h := ?_)
            refine pn 24 96 (bits 27 0x1ffffff) HT_ (h := ?_)
            refine pn 25 97 (bits 27 0x3ffffff) HT_ (h := ?_)
            refine pu 26 98 (bits 27 0x7ffffff) HT_ (h := ?_)
            refine done_ (done_of HT_.out (by kernel_rfl)) ?_
            try go_wp2
            go_roundg k2
            case measure => have := HJ5.out; have := HK2.out; omega
            case rel => exact ⟨(wrap64 (x13_2 + 1)), (x300000_2), (x300001_2), (x300002_2), eqs, H', ⟨by have := HJ5.out; have := HK2.out; omega⟩, ⟨kR HO_12⟩, ⟨bk BK299⟩, ⟨bb HB⟩⟩
          ·rw [if_neg c42] at H
           exact absurd H (by simp)
         ·rw [if_neg c41] at H
          have c41b0 : decide (x13_2 < (t306.length : Int)) = false := decide_eq_false c41
          clear c41
          simp only [Option.some.injEq, Prod.mk.injEq] at H
          obtain ⟨rfl, rfl, rfl, rfl, rfl⟩ := H
          obtain ⟨Ao58, co58, eo58⟩ := Kd.R_slice HO_12.out
          subst eo58
          obtain ⟨hcz59_0, hcz59_1, hcz59_2, hfz59_0, hfz59_1, hfz59_2⟩ := cz3 BK299
          go_wp2
          refine bodyPost_ret (results_ctt rfl _ _ gb299 119 #[.int .i64 0, .string (⟨#[]⟩ : ByteArray), .int .i64 0] (0, 0) _ rfl (by (with_reducible repeat (first | refine blk_drewN ?_ _ | refine blk_drew ?_ | refine blk_alloc ?_ _)); refine blk_put (cs := #[.int .i64 0, .string (⟨#[]⟩ : ByteArray), .int .i64 x300002_2]) ?_ 2 _ rfl; (with_reducible repeat (first | refine blk_drewN ?_ _ | refine blk_drew ?_ | refine blk_alloc ?_ _)); refine blk_put (cs := #[.int .i64 0, .string x300001_2, .int .i64 x300002_2]) ?_ 1 _ rfl; (with_reducible repeat (first | refine blk_drewN ?_ _ | refine blk_drew ?_ | refine blk_alloc ?_ _)); refine blk_put (cs := #[.int .i64 x300000_2, .string x300001_2, .int .i64 x300002_2]) ?_ 0 _ rfl; (with_reducible repeat (first | refine blk_drewN ?_ _ | refine blk_drew ?_ | refine blk_alloc ?_ _)); exact BK299.out) Try.underlying119 rfl (by kernel_rfl)) rfl ?_
          exact ⟨erf, bb HB⟩
  ·rw [if_neg c4] at H
   exact absurd H (by simp)
 ·rw [if_neg c3] at H
  exact absurd H (by simp)
end Go.Proofs.Ytfpianecohobjaa.P
