/- StatisticOf: a part of its proof. No condition. -/
import Derived.Test.YtfpianecohobjaaVPx0
import Derived.Test.YtfpianecohobjaaVPx14
namespace Go.Proofs.Ytfpianecohobjaa.P
open Go.RowKit Go.Proofs.YtfpianecohobjaaW.PrintWords Go.Proofs.YtfpianecohobjaaW.PrintLast Go.Proofs.YtfpianecohobjaaW.PrintMore
set_option maxHeartbeats 8000000
set_option maxRecDepth 100000
set_option linter.unusedVariables false
set_option linter.unusedSimpArgs false
mutual
def q1_one.j0 : Nat → ByteArray → Int → Int → Bool → Option (Int × ByteArray × Int × Int × Int)
 | 0, _, _, _, _ => none
 | k + 1, x0, x1, x7, p8 => if p8 = true then ((q1_digit.f x7).bind fun d9 => ((q1_run.f k x0 x1 d9).bind fun a8 => ((q1_digit.f x7).bind fun d8 => (if d8 = true then (if a8 > 9 then (some (0, (⟨#[]⟩ : ByteArray), 0, 0, 3)) else (if 0 ≤ x1 then (if x1 ≤ (wrap64 (x1 + a8)) then (if (wrap64 (x1 + a8)) ≤ (x0.size : Int) then (some (2, x0.extract (x1 : Int).toNat ((wrap64 (x1 + a8)) : Int).toNat, 0, a8, 0)) else (none)) else (none)) else (none))) else (if a8 > 20 then (some (0, (⟨#[]⟩ : ByteArray), 0, 0, 3)) else (if 0 ≤ x1 then (if x1 ≤ (wrap64 (x1 + a8)) then (if (wrap64 (x1 + a8)) ≤ (x0.size : Int) then (some (1, x0.extract (x1 : Int).toNat ((wrap64 (x1 + a8)) : Int).toNat, 0, a8, 0)) else (none)) else (none)) else (none))))))) else (if x7 = 34 then ((q1_quoted.f k x0 x1).bind fun a9 => (if a9 = 0 then (some (0, (⟨#[]⟩ : ByteArray), 0, 0, 2)) else (if (wrap64 (a9 - 2)) > 60 then (some (0, (⟨#[]⟩ : ByteArray), 0, 0, 3)) else (if 0 ≤ (wrap64 (x1 + 1)) then (if (wrap64 (x1 + 1)) ≤ (wrap64 ((wrap64 (x1 + a9)) - 1)) then (if (wrap64 ((wrap64 (x1 + a9)) - 1)) ≤ (x0.size : Int) then (some (3, x0.extract ((wrap64 (x1 + 1)) : Int).toNat ((wrap64 ((wrap64 (x1 + a9)) - 1)) : Int).toNat, 0, a9, 0)) else (none)) else (none)) else (none))))) else ((q1_signs.f).bind fun a5 => (q1_one.l0 k x0 x1 a5 0)))
def q1_one.l0 : Nat → ByteArray → Int → List ByteArray → Int → Option (Int × ByteArray × Int × Int × Int)
 | 0, _, _, _, _ => none
 | k + 1, x0, x1, b6, b3 => if b3 < (b6.length : Int) then (if 0 ≤ b3 then (if (wrap64 (x1 + ((rdOf ByteArray.empty b6 b3).size : Int))) ≤ (x0.size : Int) then (if 0 ≤ x1 then (if x1 ≤ (wrap64 (x1 + ((rdOf ByteArray.empty b6 b3).size : Int))) then (if (x0.extract (x1 : Int).toNat ((wrap64 (x1 + ((rdOf ByteArray.empty b6 b3).size : Int))) : Int).toNat).toList = (rdOf ByteArray.empty b6 b3).toList then (some (4, rdOf ByteArray.empty b6 b3, 0, ((rdOf ByteArray.empty b6 b3).size : Int), 0)) else (q1_one.l0 k x0 x1 b6 (wrap64 (b3 + 1)))) else (none)) else (none)) else (q1_one.l0 k x0 x1 b6 (wrap64 (b3 + 1)))) else (none)) else (some (0, (⟨#[]⟩ : ByteArray), 0, 0, 2))
end
def q1_one.f (k : Nat) (a0 : ByteArray) (a1 : Int) : Option (Int × ByteArray × Int × Int × Int) := if 0 ≤ a1 then (if a1 < (a0.size : Int) then ((q1_letter.f (bt a0 a1)).bind fun c0 => (if c0 = true then (q1_one.j0 k a0 a1 (bt a0 a1) true) else ((q1_digit.f (bt a0 a1)).bind fun d6 => (q1_one.j0 k a0 a1 (bt a0 a1) d6)))) else (none)) else (none)
def q1_one.T21 : Bool × List (List Nat × List Nat) := (true, [([], []), ([], []), ([], []), ([1, 2], [1, 2]), ([3], [3]), ([4], [4]), ([0, 5], [0, 5]), ([], []), ([7], [7]), ([6, 8], [6, 8]), ([9], [9]), ([10], [10]), ([10], [10]), ([10], [10]), ([10], [10]), ([10], [10]), ([14, 15, 10], [10, 14, 15]), ([16, 10], [10, 16]), ([17, 10], [10, 17]), ([13, 18, 10], [10, 13, 18]), ([11, 12, 19, 10], [10, 11, 12, 19]), ([10], [10]), ([10], [10]), ([21, 22, 10], [10, 21, 22]), ([23, 10], [10, 23]), ([20, 24, 10], [10, 20, 24]), ([10, 25], [10, 25])])
def q1_one.B21 : List Nat := [0, 0, 0, 6, 14, 30, 63, 0, 128, 511, 1023, 2047, 2047, 2047, 2047, 2047, 51199, 116735, 247807, 518143, 1048575, 2047, 2047, 6293503, 14682111, 33554431, 67108863]
theorem q1_one.tab21 : rtab .any (opsOf Try.f107 21) = q1_one.T21 := by kernel_rfl
theorem q1_one.bits21 : waitsOk q1_one.T21.2 q1_one.B21 = true := by kernel_rfl
def q1_one.T22 : Bool × List (List Nat × List Nat) := (true, [([], []), ([], []), ([0, 1], [0, 1]), ([2], [2]), ([3], [3]), ([], []), ([], []), ([5, 6], [5, 6]), ([7], [7]), ([8], [8]), ([4, 0, 1, 2, 3, 4], [4]), ([9, 10, 0, 1, 2, 3, 4, 5, 6, 7, 8, 9, 10], [9]), ([11, 0, 1, 2, 3, 4, 5, 6, 7, 8, 9, 10, 11], [])])
def q1_one.B22 : List Nat := [0, 0, 3, 7, 15, 0, 0, 96, 224, 480, 31, 2047, 4095]
theorem q1_one.tab22 : rtab .any (opsOf Try.f107 22) = q1_one.T22 := by kernel_rfl
theorem q1_one.bits22 : waitsOk q1_one.T22.2 q1_one.B22 = true := by kernel_rfl
theorem q1_one.calls (k : Nat) (a0 : ByteArray) (a1 : Int) (r1 : Int) (r2 : ByteArray) (r3 : Int) (r4 : Int) (r5 : Int) (w : World) (h : q1_one.f k a0 a1 = some (r1, r2, r3, r4, r5)) :
  Calls Try.prog 107 #[.string a0, .int .i64 a1] w fun e w' => e = .returned (.tuple #[.agg #[.int .i64 r1, .string r2, .int .i64 r3], .int .i64 r4, .int .i64 r5]) ∧ Below w.heap.size w w' := by
 have hu119 := Try.underlying119
 have HB := Aside0.mk (Below.refl w.heap.size w)
 have H : (if 0 ≤ a1 then (if a1 < (a0.size : Int) then ((q1_letter.f (bt a0 a1)).bind fun c0 => (if c0 = true then (q1_one.j0 k a0 a1 (bt a0 a1) true) else ((q1_digit.f (bt a0 a1)).bind fun d6 => (q1_one.j0 k a0 a1 (bt a0 a1) d6)))) else (none)) else (none)) = some (r1, r2, r3, r4, r5) := h
 clear h
 obtain ⟨c3, H⟩ := itn H
 have n2 := decide_eq_true c3
 clear c3
 obtain ⟨c4, H⟩ := itn H
 have n1 := decide_eq_true c4
 clear c4
 have h0 := Aside0.mk H
 clear H
 go_enter Try.func107, Try.ntmps107
 go_upto_region 2 with (first | ((with_reducible refine gate_dst (N := 4) rfl ?_); (try (refine gate_guard (by rfl) ?_; dsimp only)); refine be 4 #[.int .i64 0, .string (⟨#[]⟩ : ByteArray), .int .i64 0] 119 ?_; intro a6 hg w7 hbox hb; have a2 := Aside0.mk (hbox); have v4 := bsz HB hg; replace HB := bstep HB hb; clear hb hbox hg; have p5 : 0 ≤ a1 := odt; have q5 : a1 < (a0.size : Int) := odt; have q2 := bt_at a0 a1; replace p5 := eq_true p5; replace q5 := eq_true q5))
 (try simp only [Act.put, List.setIfInBounds_toArray, List.set_cons_zero, List.set_cons_succ])
 go_cut [22] (fun q0 wc => ∃ (kq : Nat) (b9 : Bool), q0 = .bool b9 ∧ Aside0 (q1_one.j0 kq a0 a1 (bt a0 a1) b9 = some (r1, r2, r3, r4, r5)) ∧ Aside0 (kq ≤ k) ∧ Aside0 (wc.heap[a6]? = some (.cells #[.int .i64 0, .string (⟨#[]⟩ : ByteArray), .int .i64 0] 119 (0, 0))) ∧ Aside0 (Below w.heap.size w wc))
 case first =>
  have H := h0.out
  clear h0
  obtain ⟨c0, A8, H⟩ := obA H
  by_cases c9 : c0 = true
  subst c9
  replace H := ift H
  have H' := Aside0.mk H
  clear H
  rotate_left
  replace c9 := Bool.eq_false_iff.mpr c9
  subst c9
  replace H := iff_ H
  obtain ⟨d6, q8, H⟩ := obA H
  have H' := Aside0.mk H
  clear H
  all_goals
   go_wp2_with (first | ((with_reducible refine gate_callee (f := 119) rfl ?_); refine gl 18 Try.func119 #[.int .u8 (bt a0 a1)] (h := ?_); (with_reducible refine (q1_letter.calls _ _ _ A8.out).mono ?_); rintro e w' ⟨rfl, ⟨nd, rfl⟩⟩; refine ⟨_, rfl, ?_⟩) | (go_at_call 120; (with_reducible refine (q1_digit.calls _ _ _ q8.out).mono ?_); rintro e w' ⟨rfl, ⟨nd, rfl⟩⟩))
   go_meet
   case rel => exact ⟨_, _, eqs, H', ⟨by first | omega | exact Nat.le_refl _⟩, ⟨bk a2⟩, ⟨bb HB⟩⟩
 case rest =>
  clear h0
  try clear n2 n1 p5 q5 q2
  obtain ⟨kq, b9, rfl, HA, g4, a2, HB⟩ := hcut
  cases kq with
  | zero => exact absurd HA.out (by simp [q1_one.j0])
  | succ j7 =>
   have H := HA.out
   clear HA
   simp only [q1_one.j0] at H
   by_cases d7 : b9 = true
   ·subst d7
    replace H := ift H
    obtain ⟨d9, q7, H⟩ := obA H
    obtain ⟨a8, q6, H⟩ := obA H
    obtain ⟨d8, q4, H⟩ := obA H
    by_cases g2 : d8 = true
    subst g2
    replace H := ift H
    by_cases d5 : a8 > 9
    rw [if_pos d5] at H
    have j1 : decide (9 < a8) = true := decide_eq_true d5
    clear d5
    simp only [Option.some.injEq, Prod.mk.injEq] at H
    obtain ⟨rfl, rfl, rfl, rfl, rfl⟩ := H
    rotate_left
    rw [if_neg d5] at H
    have j1 : decide (9 < a8) = false := decide_eq_false d5
    clear d5
    obtain ⟨g9, H⟩ := itn H
    have v3 := eq_true g9
    have v2 := decide_eq_true g9
    clear g9
    obtain ⟨m5, H⟩ := itn H
    have v1 := eq_true m5
    have v0 := decide_eq_true m5
    obtain ⟨m4, H⟩ := itn H
    have t9 := eq_true m4
    have t8 := decide_eq_true m4
    simp only [Option.some.injEq, Prod.mk.injEq] at H
    obtain ⟨rfl, rfl, rfl, rfl, rfl⟩ := H
    rotate_left
    replace g2 := Bool.eq_false_iff.mpr g2
    subst g2
    replace H := iff_ H
    by_cases d4 : a8 > 20
    rw [if_pos d4] at H
    have h9 : decide (20 < a8) = true := decide_eq_true d4
    clear d4
    simp only [Option.some.injEq, Prod.mk.injEq] at H
    obtain ⟨rfl, rfl, rfl, rfl, rfl⟩ := H
    rotate_left
    rw [if_neg d4] at H
    have h9 : decide (20 < a8) = false := decide_eq_false d4
    clear d4
    obtain ⟨g8, H⟩ := itn H
    have t7 := eq_true g8
    have t6 := decide_eq_true g8
    clear g8
    obtain ⟨m3, H⟩ := itn H
    have t5 := eq_true m3
    have t4 := decide_eq_true m3
    obtain ⟨m2, H⟩ := itn H
    have t3 := eq_true m2
    have t2 := decide_eq_true m2
    simp only [Option.some.injEq, Prod.mk.injEq] at H
    obtain ⟨rfl, rfl, rfl, rfl, rfl⟩ := H
    all_goals
     go_wp2_with (first | ((with_reducible refine gate_callee (f := 120) rfl ?_); refine gl 26 Try.func120 #[.int .u8 (bt a0 a1)] (h := ?_); (with_reducible refine (q1_digit.calls _ _ _ q7.out).mono ?_); rintro e w' ⟨rfl, ⟨nd, rfl⟩⟩; refine ⟨_, rfl, ?_⟩; (try (rw [drewN_self wc]; generalize hq_ : World.drewN wc _ = wc; replace a2 : Aside0 (wc.heap[a6]? = some (.cells #[.int .i64 0, .string (⟨#[]⟩ : ByteArray), .int .i64 0] 119 (0, 0))) := ⟨by rw [← hq_]; exact (bk a2)⟩; replace HB : Aside0 (Below w.heap.size w wc) := ⟨by rw [← hq_]; exact (bb HB)⟩; clear hq_))) | ((with_reducible refine gate_callee (f := 121) rfl ?_); refine gl 27 Try.func121 #[.string a0, .int .i64 a1, .bool d9] (h := ?_); (with_reducible refine (q1_run.calls _ _ _ _ _ _ q6.out).mono ?_); rintro e w' ⟨rfl, ⟨nd, rfl⟩⟩; refine ⟨_, rfl, ?_⟩; (try (rw [drewN_self wc]; generalize hq_ : World.drewN wc _ = wc; replace a2 : Aside0 (wc.heap[a6]? = some (.cells #[.int .i64 0, .string (⟨#[]⟩ : ByteArray), .int .i64 0] 119 (0, 0))) := ⟨by rw [← hq_]; exact (bk a2)⟩; replace HB : Aside0 (Below w.heap.size w wc) := ⟨by rw [← hq_]; exact (bb HB)⟩; clear hq_))) | ((with_reducible refine gate_callee (f := 120) rfl ?_); refine gl 29 Try.func120 #[.int .u8 (bt a0 a1)] (h := ?_); (with_reducible refine (q1_digit.calls _ _ _ q4.out).mono ?_); rintro e w' ⟨rfl, ⟨nd, rfl⟩⟩; refine ⟨_, rfl, ?_⟩; (try (rw [drewN_self wc]; generalize hq_ : World.drewN wc _ = wc; replace a2 : Aside0 (wc.heap[a6]? = some (.cells #[.int .i64 0, .string (⟨#[]⟩ : ByteArray), .int .i64 0] 119 (0, 0))) := ⟨by rw [← hq_]; exact (bk a2)⟩; replace HB : Aside0 (Below w.heap.size w wc) := ⟨by rw [← hq_]; exact (bb HB)⟩; clear hq_)); obtain ⟨p7, p6, p4, o4, o3, o2⟩ := cz3 a2))
    ·refine bodyPost_ret (results_ctt rfl _ _ a6 119 #[.int .i64 1, .string (a0.extract (a1 : Int).toNat ((wrap64 (a1 + a8)) : Int).toNat), .int .i64 0] (0, 0) _ rfl (by (with_reducible repeat (first | refine dN ?_ _ | refine dR ?_ | refine dA ?_ _)); refine blk_put (cs := #[.int .i64 1, .string (a0.extract (a1 : Int).toNat ((wrap64 (a1 + a8)) : Int).toNat), .int .i64 0]) ?_ 2 _ rfl; refine blk_put (cs := #[.int .i64 1, .string (⟨#[]⟩ : ByteArray), .int .i64 0]) ?_ 1 _ rfl; refine blk_put (cs := #[.int .i64 0, .string (⟨#[]⟩ : ByteArray), .int .i64 0]) ?_ 0 _ rfl; (with_reducible repeat (first | refine dN ?_ _ | refine dR ?_ | refine dA ?_ _)); exact a2.out) Try.underlying119 rfl (by kernel_rfl)) rfl ?_
     exact ⟨erf, bb HB⟩
    ·refine bodyPost_ret (results_ctt rfl _ _ a6 119 #[.int .i64 0, .string (⟨#[]⟩ : ByteArray), .int .i64 0] (0, 0) _ rfl (by (with_reducible repeat (first | refine dN ?_ _ | refine dR ?_ | refine dA ?_ _)); refine blk_put (cs := #[.int .i64 0, .string (⟨#[]⟩ : ByteArray), .int .i64 0]) ?_ 2 _ rfl; refine blk_put (cs := #[.int .i64 0, .string (⟨#[]⟩ : ByteArray), .int .i64 0]) ?_ 1 _ rfl; refine blk_put (cs := #[.int .i64 0, .string (⟨#[]⟩ : ByteArray), .int .i64 0]) ?_ 0 _ rfl; (with_reducible repeat (first | refine dN ?_ _ | refine dR ?_ | refine dA ?_ _)); exact a2.out) Try.underlying119 rfl (by kernel_rfl)) rfl ?_
     exact ⟨erf, bb HB⟩
    ·refine bodyPost_ret (results_ctt rfl _ _ a6 119 #[.int .i64 2, .string (a0.extract (a1 : Int).toNat ((wrap64 (a1 + a8)) : Int).toNat), .int .i64 0] (0, 0) _ rfl (by (with_reducible repeat (first | refine dN ?_ _ | refine dR ?_ | refine dA ?_ _)); refine blk_put (cs := #[.int .i64 2, .string (a0.extract (a1 : Int).toNat ((wrap64 (a1 + a8)) : Int).toNat), .int .i64 0]) ?_ 2 _ rfl; refine blk_put (cs := #[.int .i64 2, .string (⟨#[]⟩ : ByteArray), .int .i64 0]) ?_ 1 _ rfl; refine blk_put (cs := #[.int .i64 0, .string (⟨#[]⟩ : ByteArray), .int .i64 0]) ?_ 0 _ rfl; (with_reducible repeat (first | refine dN ?_ _ | refine dR ?_ | refine dA ?_ _)); exact a2.out) Try.underlying119 rfl (by kernel_rfl)) rfl ?_
     exact ⟨erf, bb HB⟩
    ·refine bodyPost_ret (results_ctt rfl _ _ a6 119 #[.int .i64 0, .string (⟨#[]⟩ : ByteArray), .int .i64 0] (0, 0) _ rfl (by (with_reducible repeat (first | refine dN ?_ _ | refine dR ?_ | refine dA ?_ _)); refine blk_put (cs := #[.int .i64 0, .string (⟨#[]⟩ : ByteArray), .int .i64 0]) ?_ 2 _ rfl; refine blk_put (cs := #[.int .i64 0, .string (⟨#[]⟩ : ByteArray), .int .i64 0]) ?_ 1 _ rfl; refine blk_put (cs := #[.int .i64 0, .string (⟨#[]⟩ : ByteArray), .int .i64 0]) ?_ 0 _ rfl; (with_reducible repeat (first | refine dN ?_ _ | refine dR ?_ | refine dA ?_ _)); exact a2.out) Try.underlying119 rfl (by kernel_rfl)) rfl ?_
     exact ⟨erf, bb HB⟩
   replace d7 := Bool.eq_false_iff.mpr d7
   subst d7
   replace H := iff_ H
   by_cases c5 : (bt a0 a1) = 34
   ·rw [if_pos c5] at H
    have g1 := beq_iff_eq.mpr c5
    have g0 := bne_eq_false_iff_eq.mpr c5
    clear c5
    obtain ⟨a9, h1, H⟩ := obA H
    by_cases c2 : a9 = 0
    rw [if_pos c2] at H
    have h8 := beq_iff_eq.mpr c2
    have h7 := bne_eq_false_iff_eq.mpr c2
    clear c2
    simp only [Option.some.injEq, Prod.mk.injEq] at H
    obtain ⟨rfl, rfl, rfl, rfl, rfl⟩ := H
    rotate_left
    rw [if_neg c2] at H
    have h8 := beq_eq_false_iff_ne.mpr c2
    have h7 := bne_iff_ne.mpr c2
    by_cases d3 : (wrap64 (a9 - 2)) > 60
    rotate_left
    ·rw [if_neg d3] at H
     have h6 : decide (60 < (wrap64 (a9 - 2))) = false := decide_eq_false d3
     clear d3
     obtain ⟨b8, b7⟩ : ∃ j_ : Int, (wrap64 (a1 + 1)) = j_ := ⟨_, rfl⟩
     replace H : (if 0 ≤ (b8) then (if (b8) ≤ (wrap64 ((wrap64 (a1 + a9)) - 1)) then (if (wrap64 ((wrap64 (a1 + a9)) - 1)) ≤ (a0.size : Int) then (some (3, a0.extract ((b8) : Int).toNat ((wrap64 ((wrap64 (a1 + a9)) - 1)) : Int).toNat, 0, a9, 0)) else (none)) else (none)) else (none)) = some (r1, r2, r3, r4, r5) := by first | (rw [b7] at H; exact H) | (simp only [b7] at H ⊢; exact H)
     (try rw [b7] at h1)
     have hji34w : (IntKind.i64.wrap (a1 + 1)) = b8 := (i64_w _).trans b7
     obtain ⟨g7, H⟩ := itn H
     have t1 := eq_true g7
     have t0 := decide_eq_true g7
     clear g7
     obtain ⟨m1, H⟩ := itn H
     have s9 := eq_true m1
     have s8 := decide_eq_true m1
     by_cases e9 : (wrap64 ((wrap64 (a1 + a9)) - 1)) ≤ (a0.size : Int)
     ·rw [if_pos e9] at H
      have s7 := eq_true e9
      have s6 := decide_eq_true e9
      simp only [Option.some.injEq, Prod.mk.injEq] at H
      obtain ⟨rfl, rfl, rfl, rfl, rfl⟩ := H
      go_wp2_with (first | ((with_reducible refine gate_callee (f := 122) rfl ?_); refine gl 47 Try.func122 #[.string a0, .int .i64 a1] (h := ?_); (with_reducible refine (q1_quoted.calls _ _ _ _ _ h1.out).mono ?_); rintro e w' ⟨rfl, ⟨nd, rfl⟩⟩; refine ⟨_, rfl, ?_⟩; (try (rw [drewN_self wc]; generalize hq_ : World.drewN wc _ = wc; replace a2 : Aside0 (wc.heap[a6]? = some (.cells #[.int .i64 0, .string (⟨#[]⟩ : ByteArray), .int .i64 0] 119 (0, 0))) := ⟨by rw [← hq_]; exact (bk a2)⟩; replace HB : Aside0 (Below w.heap.size w wc) := ⟨by rw [← hq_]; exact (bb HB)⟩; clear hq_)); obtain ⟨p0, o9, o8, n8, n7, n6⟩ := cz3 a2))
      refine bodyPost_ret (results_ctt rfl _ _ a6 119 #[.int .i64 3, .string (a0.extract ((b8) : Int).toNat ((wrap64 ((wrap64 (a1 + a9)) - 1)) : Int).toNat), .int .i64 0] (0, 0) _ rfl (by (with_reducible repeat (first | refine dN ?_ _ | refine dR ?_ | refine dA ?_ _)); refine blk_put (cs := #[.int .i64 3, .string (a0.extract ((b8) : Int).toNat ((wrap64 ((wrap64 (a1 + a9)) - 1)) : Int).toNat), .int .i64 0]) ?_ 2 _ rfl; refine blk_put (cs := #[.int .i64 3, .string (⟨#[]⟩ : ByteArray), .int .i64 0]) ?_ 1 _ rfl; refine blk_put (cs := #[.int .i64 0, .string (⟨#[]⟩ : ByteArray), .int .i64 0]) ?_ 0 _ rfl; (with_reducible repeat (first | refine dN ?_ _ | refine dR ?_ | refine dA ?_ _)); exact a2.out) Try.underlying119 rfl (by kernel_rfl)) rfl ?_
      exact ⟨by first | rfl | (simp [errW_none, errW_some] <;> rfl) | (simp only [← b7]; first | rfl | (simp [errW_none, errW_some] <;> rfl)) | (simp [*, errW_none, errW_some] <;> rfl), bb HB⟩
     rw [if_neg e9] at H
     exact absurd H (by simp)
    rotate_left
    rw [if_pos d3] at H
    have h6 : decide (60 < (wrap64 (a9 - 2))) = true := decide_eq_true d3
    clear d3
    simp only [Option.some.injEq, Prod.mk.injEq] at H
    obtain ⟨rfl, rfl, rfl, rfl, rfl⟩ := H
    all_goals
     go_wp2_with (first | ((with_reducible refine gate_callee (f := 122) rfl ?_); refine gl 47 Try.func122 #[.string a0, .int .i64 a1] (h := ?_); (with_reducible refine (q1_quoted.calls _ _ _ _ _ h1.out).mono ?_); rintro e w' ⟨rfl, ⟨nd, rfl⟩⟩; refine ⟨_, rfl, ?_⟩; (try (rw [drewN_self wc]; generalize hq_ : World.drewN wc _ = wc; replace a2 : Aside0 (wc.heap[a6]? = some (.cells #[.int .i64 0, .string (⟨#[]⟩ : ByteArray), .int .i64 0] 119 (0, 0))) := ⟨by rw [← hq_]; exact (bk a2)⟩; replace HB : Aside0 (Below w.heap.size w wc) := ⟨by rw [← hq_]; exact (bb HB)⟩; clear hq_)); obtain ⟨p3, p2, p1, o1, o0, n9⟩ := cz3 a2))
     refine bodyPost_ret (results_ctt rfl _ _ a6 119 #[.int .i64 0, .string (⟨#[]⟩ : ByteArray), .int .i64 0] (0, 0) _ rfl (by (with_reducible repeat (first | refine dN ?_ _ | refine dR ?_ | refine dA ?_ _)); refine blk_put (cs := #[.int .i64 0, .string (⟨#[]⟩ : ByteArray), .int .i64 0]) ?_ 2 _ rfl; refine blk_put (cs := #[.int .i64 0, .string (⟨#[]⟩ : ByteArray), .int .i64 0]) ?_ 1 _ rfl; refine blk_put (cs := #[.int .i64 0, .string (⟨#[]⟩ : ByteArray), .int .i64 0]) ?_ 0 _ rfl; (with_reducible repeat (first | refine dN ?_ _ | refine dR ?_ | refine dA ?_ _)); exact a2.out) Try.underlying119 rfl (by kernel_rfl)) rfl ?_
     exact ⟨erf, bb HB⟩
   rw [if_neg c5] at H
   have g1 := beq_eq_false_iff_ne.mpr c5
   have g0 := bne_iff_ne.mpr c5
   obtain ⟨a5, q3, H⟩ := obA H
   have H' := Aside0.mk H
   clear H
   go_wp2_with (first | ((with_reducible refine gate_callee (f := 123) rfl ?_); refine gl 65 Try.func123 #[] (h := ?_); (with_reducible refine (q1_signs.calls _ _ q3.out).mono ?_); rintro e w6 ⟨m6, rfl, j8, hb⟩; refine ⟨_, rfl, ?_⟩; have j6 := Aside0.mk (Kd.R_lower j8 (below_size (bb HB))); replace a2 := bkb a2 hb; replace HB := bstep HB hb; clear hb j8))
   go_loopg [13] j7 (fun kq q1 w' => ∃ (a3 : Int) (b0 : Int) (a7 : ByteArray) (a4 : Int), q1 = .int .i64 a3 ∧ Aside0 (q1_one.l0 kq a0 a1 a5 a3 = some (r1, r2, r3, r4, r5)) ∧ Aside0 (kq ≤ j7) ∧ Aside0 (Kd.R Kd.string 9 w' w.heap.size (fun _ => True) m6 a5) ∧ Aside0 (w'.heap[a6]? = some (.cells #[.int .i64 b0, .string a7, .int .i64 a4] 119 (0, 0))) ∧ Aside0 (Below w.heap.size w w'))
   case atStart => exact ⟨(0), (0), ((⟨#[]⟩ : ByteArray)), (0), eqs, H', ⟨Nat.le_refl _⟩, ⟨kR j6⟩, ⟨bk a2⟩, ⟨bb HB⟩⟩
   case round =>
    clear H'
    try clear d7 g1 g0
    obtain ⟨a3, b0, a7, a4, rfl, HA, g3, HO_12, a2, HB⟩ := hrel
    cases gk with
    | zero => exact absurd HA.out (by simp [q1_one.l0])
    | succ k2 =>
     have H := HA.out
     clear HA
     simp only [q1_one.l0] at H
     by_cases d2 : a3 < (a5.length : Int)
     rotate_left
     ·rw [if_neg d2] at H
      have h5 := decide_eq_false d2
      clear d2
      simp only [Option.some.injEq, Prod.mk.injEq] at H
      obtain ⟨rfl, rfl, rfl, rfl, rfl⟩ := H
      obtain ⟨w2, v8, eo58⟩ := Kd.R_slice HO_12.out
      subst eo58
      obtain ⟨o7, o6, o5, n5, n4, n3⟩ := cz3 a2
      go_wp2
      refine bodyPost_ret (results_ctt rfl _ _ a6 119 #[.int .i64 0, .string (⟨#[]⟩ : ByteArray), .int .i64 0] (0, 0) _ rfl (by (with_reducible repeat (first | refine dN ?_ _ | refine dR ?_ | refine dA ?_ _)); refine blk_put (cs := #[.int .i64 0, .string (⟨#[]⟩ : ByteArray), .int .i64 a4]) ?_ 2 _ rfl; refine blk_put (cs := #[.int .i64 0, .string a7, .int .i64 a4]) ?_ 1 _ rfl; refine blk_put (cs := #[.int .i64 b0, .string a7, .int .i64 a4]) ?_ 0 _ rfl; (with_reducible repeat (first | refine dN ?_ _ | refine dR ?_ | refine dA ?_ _)); exact a2.out) Try.underlying119 rfl (by kernel_rfl)) rfl ?_
      exact ⟨erf, bb HB⟩
     rw [if_pos d2] at H
     have h5 := decide_eq_true d2
     clear d2
     obtain ⟨m0, H⟩ := itn H
     have s5 := decide_eq_true m0
     clear m0
     by_cases d1 : (wrap64 (a1 + ((rdOf ByteArray.empty a5 a3).size : Int))) ≤ (a0.size : Int)
     rotate_left
     ·rw [if_neg d1] at H
      have h4 := decide_eq_false d1
      clear d1
      have H' := Aside0.mk H
      clear H
      obtain ⟨w3, v9, eo56⟩ := Kd.R_slice HO_12.out
      subst eo56
      try go_wp2
      replace HO_12 := Aside0.mk (Kd.R_drew HO_12.out)
      replace a2 := Aside0.mk (blk_drew a2.out)
      replace HB := Aside0.mk (below_drew1 HB.out)
      have b5 : 0 ≤ a3 := odt
      have b4 : a3 < (a5.length : Int) := odt
      obtain ⟨b1, e8, b2⟩ := Kd.at_string (Kd.R_reads' HO_12.out).2.2 a3 b5 b4
      cases e8
      replace b5 := eq_true b5
      replace b4 := eq_true b4
      refine start_ (n := 27) (S := fun w' => w'.cell? (b1.add (a3).toNat) = some (.string (rdOf ByteArray.empty a5 a3))) (ds := []) #[false, false, false, false, false, false, false, false, false, false, false, false, false, false, false, false, false, false, false, false, false, false, false, false, false, false, false] (by kernel_rfl) rfl rfl (b2) (fun hHeld => ?_); refine with_tabW q1_one.tab21 q1_one.bits21 (fun HT_ HW_ => ?_)
      generalize wr.drew = w5 at HO_12 a2 HB b2 hHeld ⊢
      refine pu 0 72 (bits 27 0x1) HT_ (h := ?_)
      refine pu 1 73 (bits 27 0x3) HT_ (h := ?_)
      refine pu 2 74 (bits 27 0x7) HT_ (h := ?_)
      refine pu 3 75 (bits 27 0xf) HT_ (h := ?_)
      refine pu 7 79 (bits 27 0x8f) HT_ (h := ?_)
      refine pu 8 80 (bits 27 0x18f) HT_ (h := ?_)
      refine take_ (i := 4) (N := some 76) (v := ?_) (a' := ?_) #[true, true, true, true, true, false, false, true, true, false, false, false, false, false, false, false, false, false, false, false, false, false, false, false, false, false, false] rfl rfl (take_ofW HT_.out HW_.out (by kernel_rfl)) (fun _ _ _ h => h) (Or.inl ⟨by rfl, ?_⟩) hHeld ?_ ?_
      rotate_left
      ·intro w' s0
       go_simp
       with_reducible rfl
      rotate_left
      ·simp only [Act.put, List.setIfInBounds_toArray, List.set_cons_zero, List.set_cons_succ, i64_w, i32_w]
       rfl
      refine pu 5 77 (bits 27 0x1bf) HT_ (h := ?_)
      refine pu 6 78 (bits 27 0x1ff) HT_ (h := ?_)
      refine pu 9 81 (bits 27 0x3ff) HT_ (h := ?_)
      refine pu 10 82 (bits 27 0x7ff) HT_ (h := ?_)
      refine pn 11 83 (bits 27 0xfff) HT_ (h := ?_)
      refine pn 12 84 (bits 27 0x1fff) HT_ (h := ?_)
      refine pn 13 85 (bits 27 0x3fff) HT_ (h := ?_)
      refine pn 14 86 (bits 27 0x7fff) HT_ (h := ?_)
      refine pn 15 87 (bits 27 0xffff) HT_ (h := ?_)
      refine pn 16 88 (bits 27 0x1ffff) HT_ (h := ?_)
      refine pn 17 89 (bits 27 0x3ffff) HT_ (h := ?_)
      refine pn 18 90 (bits 27 0x7ffff) HT_ (h := ?_)
      refine pn 19 91 (bits 27 0xfffff) HT_ (h := ?_)
      refine pn 20 92 (bits 27 0x1fffff) HT_ (h := ?_)
      refine pn 21 93 (bits 27 0x3fffff) HT_ (h := ?_)
      refine pn 22 94 (bits 27 0x7fffff) HT_ (h := ?_)
      refine pn 23 95 (bits 27 0xffffff) HT_ (h := ?_)
      refine pn 24 96 (bits 27 0x1ffffff) HT_ (h := ?_)
      refine pn 25 97 (bits 27 0x3ffffff) HT_ (h := ?_)
      refine pu 26 98 (bits 27 0x7ffffff) HT_ (h := ?_)
      refine done_ (done_of HT_.out (by kernel_rfl)) ?_
      try go_wp2
      go_roundg k2
      case measure => have := g4.out; have := g3.out; omega
      case rel => exact ⟨(wrap64 (a3 + 1)), (b0), (a7), (a4), eqs, H', ⟨by have := g4.out; have := g3.out; omega⟩, ⟨kR HO_12⟩, ⟨bk a2⟩, ⟨bb HB⟩⟩
     rw [if_pos d1] at H
     have h4 := decide_eq_true d1
     clear d1
     obtain ⟨g6, H⟩ := itn H
     have s4 := eq_true g6
     have s3 := decide_eq_true g6
     clear g6
     obtain ⟨j9, H⟩ := itn H
     have r9 := eq_true j9
     have r8 := decide_eq_true j9
     have r7 := eq_true (odt : (wrap64 (a1 + ((rdOf ByteArray.empty a5 a3).size : Int))) ≤ (a0.size : Int))
     by_cases c1 : (a0.extract (a1 : Int).toNat ((wrap64 (a1 + ((rdOf ByteArray.empty a5 a3).size : Int))) : Int).toNat).toList = (rdOf ByteArray.empty a5 a3).toList
     rw [if_pos c1] at H
     have h3 := beq_iff_eq.mpr c1
     have h2 := bne_eq_false_iff_eq.mpr c1
     clear c1
     simp only [Option.some.injEq, Prod.mk.injEq] at H
     obtain ⟨rfl, rfl, rfl, rfl, rfl⟩ := H
     rotate_left
     rw [if_neg c1] at H
     have h3 := beq_eq_false_iff_ne.mpr c1
     have h2 := bne_iff_ne.mpr c1
     have H' := Aside0.mk H
     clear H
     all_goals
      obtain ⟨w4, w0, eo48⟩ := Kd.R_slice HO_12.out
      subst eo48
      try go_wp2
      replace HO_12 := Aside0.mk (Kd.R_drew HO_12.out)
      replace a2 := Aside0.mk (blk_drew a2.out)
      replace HB := Aside0.mk (below_drew1 HB.out)
      have b5 : 0 ≤ a3 := odt
      have b4 : a3 < (a5.length : Int) := odt
      obtain ⟨b1, e8, b2⟩ := Kd.at_string (Kd.R_reads' HO_12.out).2.2 a3 b5 b4
      cases e8
      replace b5 := eq_true b5
      replace b4 := eq_true b4
      have e7 : 0 ≤ a3 := odt
      have e3 : a3 < (a5.length : Int) := odt
      obtain ⟨j5, n0, d0⟩ := Kd.at_string (Kd.R_reads' HO_12.out).2.2 a3 e7 e3
      obtain rfl : b1 = j5 := (by injection n0)
      replace e7 := eq_true e7
      replace e3 := eq_true e3
      have e6 : 0 ≤ a3 := odt
      have e2 : a3 < (a5.length : Int) := odt
      obtain ⟨j4, m9, c8⟩ := Kd.at_string (Kd.R_reads' HO_12.out).2.2 a3 e6 e2
      obtain rfl : b1 = j4 := (by injection m9)
      replace e6 := eq_true e6
      replace e2 := eq_true e2
      refine start_ (n := 27) (S := fun w' => w'.cell? (b1.add (a3).toNat) = some (.string (rdOf ByteArray.empty a5 a3)) ∧ w'.cell? (b1.add (a3).toNat) = some (.string (rdOf ByteArray.empty a5 a3)) ∧ w'.cell? (b1.add (a3).toNat) = some (.string (rdOf ByteArray.empty a5 a3))) (ds := []) #[false, false, false, false, false, false, false, false, false, false, false, false, false, false, false, false, false, false, false, false, false, false, false, false, false, false, false] (by kernel_rfl) rfl rfl ⟨b2, d0, c8⟩ (fun hHeld => ?_); refine with_tabW q1_one.tab21 q1_one.bits21 (fun HT_ HW_ => ?_)
      generalize wr.drew = p9 at HO_12 a2 HB b2 d0 c8 hHeld ⊢
      refine pu 0 72 (bits 27 0x1) HT_ (h := ?_)
      refine pu 1 73 (bits 27 0x3) HT_ (h := ?_)
      refine pu 2 74 (bits 27 0x7) HT_ (h := ?_)
      refine pu 3 75 (bits 27 0xf) HT_ (h := ?_)
      refine pu 7 79 (bits 27 0x8f) HT_ (h := ?_)
      refine pu 8 80 (bits 27 0x18f) HT_ (h := ?_)
      refine tk 4 76 (bits 27 0x19f) HT_ HW_ hHeld (hy := by rintro w' ⟨s0, s1, s2⟩; go_simp; with_reducible rfl) (h := ?_)
      refine pu 5 77 (bits 27 0x1bf) HT_ (h := ?_)
      refine pu 6 78 (bits 27 0x1ff) HT_ (h := ?_)
      refine pu 9 81 (bits 27 0x3ff) HT_ (h := ?_)
      refine pu 10 82 (bits 27 0x7ff) HT_ (h := ?_)
      refine pu 11 83 (bits 27 0xfff) HT_ (h := ?_)
      refine pu 12 84 (bits 27 0x1fff) HT_ (h := ?_)
      refine pu 13 85 (bits 27 0x3fff) HT_ (h := ?_)
      refine pu 14 86 (bits 27 0x7fff) HT_ (h := ?_)
      refine pu 15 87 (bits 27 0xffff) HT_ (h := ?_)
      refine pu 16 88 (bits 27 0x1ffff) HT_ (h := ?_)
      refine pu 21 93 (bits 27 0x21ffff) HT_ (h := ?_)
      refine pu 22 94 (bits 27 0x61ffff) HT_ (h := ?_)
      refine pu 23 95 (bits 27 0xe1ffff) HT_ (h := ?_)
      refine tk 17 89 (bits 27 0xe3ffff) HT_ HW_ hHeld (hy := by rintro w' ⟨s0, s1, s2⟩; go_simp; with_reducible rfl) (h := ?_)
      refine pu 18 90 (bits 27 0xe7ffff) HT_ (h := ?_)
      refine pu 19 91 (bits 27 0xefffff) HT_ (h := ?_)
      refine pu 20 92 (bits 27 0xffffff) HT_ (h := ?_)
      refine tk 24 96 (bits 27 0x1ffffff) HT_ HW_ hHeld (hy := by rintro w' ⟨s0, s1, s2⟩; go_simp; with_reducible rfl) (h := ?_)
      refine pu 25 97 (bits 27 0x3ffffff) HT_ (h := ?_)
      refine pu 26 98 (bits 27 0x7ffffff) HT_ (h := ?_)
      refine done_ (done_of HT_.out (by kernel_rfl)) ?_
      try go_wp2
     ·go_roundg k2
      case measure => have := g4.out; have := g3.out; omega
      case rel => exact ⟨(wrap64 (a3 + 1)), (b0), (a7), (a4), eqs, H', ⟨by have := g4.out; have := g3.out; omega⟩, ⟨kR HO_12⟩, ⟨bk a2⟩, ⟨bb HB⟩⟩
     ·replace HO_12 := Aside0.mk (Kd.R_drew HO_12.out)
      replace a2 := Aside0.mk (blk_drew a2.out)
      replace HB := Aside0.mk (below_drew1 HB.out)
      have e5 : 0 ≤ a3 := odt
      have e1 : a3 < (a5.length : Int) := odt
      obtain ⟨j3, m8, c7⟩ := Kd.at_string (Kd.R_reads' HO_12.out).2.2 a3 e5 e1
      obtain rfl : b1 = j3 := (by injection m8)
      replace e5 := eq_true e5
      replace e1 := eq_true e1
      have e4 : 0 ≤ a3 := odt
      have e0 : a3 < (a5.length : Int) := odt
      obtain ⟨j2, m7, c6⟩ := Kd.at_string (Kd.R_reads' HO_12.out).2.2 a3 e4 e0
      obtain rfl : b1 = j2 := (by injection m7)
      replace e4 := eq_true e4
      replace e0 := eq_true e0
      refine start_ (n := 13) (S := fun w' => w'.cell? (b1.add (a3).toNat) = some (.string (rdOf ByteArray.empty a5 a3)) ∧ w'.cell? (b1.add (a3).toNat) = some (.string (rdOf ByteArray.empty a5 a3))) (ds := []) #[false, false, false, false, false, false, false, false, false, false, false, false, false] (by kernel_rfl) rfl rfl ⟨c7, c6⟩ (fun hHeld => ?_); refine with_tabW q1_one.tab22 q1_one.bits22 (fun HT_ HW_ => ?_)
      generalize p9.drew = g5 at HO_12 a2 HB c7 c6 hHeld ⊢
      refine pu 0 99 (bits 13 0x1) HT_ (h := ?_)
      refine pu 1 100 (bits 13 0x3) HT_ (h := ?_)
      refine pu 2 101 (bits 13 0x7) HT_ (h := ?_)
      refine pu 5 104 (bits 13 0x27) HT_ (h := ?_)
      refine pu 6 105 (bits 13 0x67) HT_ (h := ?_)
      refine pu 7 106 (bits 13 0xe7) HT_ (h := ?_)
      refine tk 3 102 (bits 13 0xef) HT_ HW_ hHeld (hy := by rintro w' ⟨s0, s1⟩; go_simp; with_reducible rfl) (h := ?_)
      refine pu 4 103 (bits 13 0xff) HT_ (h := ?_)
      refine tk 8 107 (bits 13 0x1ff) HT_ HW_ hHeld (hy := by rintro w' ⟨s0, s1⟩; go_simp; with_reducible rfl) (h := ?_)
      refine pu 9 108 (bits 13 0x3ff) HT_ (h := ?_)
      refine one_ (i := 10) (N := none) #[true, true, true, true, true, true, true, true, true, true, true, false, false] rfl rfl (one_of HT_.out (by kernel_rfl)) (by decide) (fun K hK => ?_)
      have v7 : g5.cell? ⟨a6, 0, none⟩ = some (.int .i64 b0) := bc a2 0
      have r6 := blk_frozen a2.out 0
      have v6 : g5.cell? ⟨a6, 1, none⟩ = some (.string a7) := bc a2 1
      have r0 := blk_frozen a2.out 1
      have v5 : g5.cell? ⟨a6, 2, none⟩ = some (.int .i64 a4) := bc a2 2
      have q9 := blk_frozen a2.out 2
      refine skip_ (w1 := ?_) (by rfl) rfl ?_ ?_
      rotate_left
      ·go_simp
       rfl
      refine hK.out _ _ ⟨(cfn hHeld.1 (by first | exact Kd.own_blk (Kd.R_ne HO_12.out a2.out (by decide)) | (rw [add_block]; exact Kd.own_blk (Kd.R_ne HO_12.out a2.out (by decide))) | (show (Addr.add _ _).block ≠ _; rw [add_block]; exact Kd.own_blk (Kd.R_ne HO_12.out a2.out (by decide))) | (dsimp only; exact Kd.own_blk (Kd.R_ne HO_12.out a2.out (by decide))))), (cfn hHeld.2 (by first | exact Kd.own_blk (Kd.R_ne HO_12.out a2.out (by decide)) | (rw [add_block]; exact Kd.own_blk (Kd.R_ne HO_12.out a2.out (by decide))) | (show (Addr.add _ _).block ≠ _; rw [add_block]; exact Kd.own_blk (Kd.R_ne HO_12.out a2.out (by decide))) | (dsimp only; exact Kd.own_blk (Kd.R_ne HO_12.out a2.out (by decide)))))⟩ (fun hHeld => ?_)
      clear hK K
      refine pu 11 5 (bits 13 0xfff) HT_ (h := ?_)
      refine pu 12 6 (bits 13 0x1fff) HT_ (h := ?_)
      refine done_ (done_of HT_.out (by kernel_rfl)) ?_
      try go_wp2
      refine bodyPost_ret (results_ctt rfl _ _ a6 119 #[.int .i64 4, .string (rdOf ByteArray.empty a5 a3), .int .i64 0] (0, 0) _ rfl (by (with_reducible repeat (first | refine dN ?_ _ | refine dR ?_ | refine dA ?_ _)); refine blk_put (cs := #[.int .i64 4, .string (rdOf ByteArray.empty a5 a3), .int .i64 a4]) ?_ 2 _ rfl; refine blk_put (cs := #[.int .i64 4, .string a7, .int .i64 a4]) ?_ 1 _ rfl; refine blk_put (cs := #[.int .i64 b0, .string a7, .int .i64 a4]) ?_ 0 _ rfl; (with_reducible repeat (first | refine dN ?_ _ | refine dR ?_ | refine dA ?_ _)); exact a2.out) Try.underlying119 rfl (by kernel_rfl)) rfl ?_
      exact ⟨erf, bb HB⟩
end Go.Proofs.Ytfpianecohobjaa.P
