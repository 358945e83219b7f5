/- StatisticOf: a part of its proof. No condition. -/
import Derived.Test.YtfpianecohobjaaVPx0
import Derived.Test.YtfpianecohobjaaVPx2
import Derived.Test.YtfpianecohobjaaVH0
namespace Go.Proofs.Ytfpianecohobjaa.P
open Go.RowKit Go.Proofs.YtfpianecohobjaaW.PrintWords Go.Proofs.YtfpianecohobjaaW.PrintLast Go.Proofs.YtfpianecohobjaaW.PrintMore
set_option maxHeartbeats 8000000
set_option maxRecDepth 100000
set_option linter.unusedVariables false
set_option linter.unusedSimpArgs false
def token_pair.f (k : Nat) (a0 : ByteArray) : Option (Bool) := if (a0.size : Int) ≥ 2 then (if 0 ≤ 2 then (if 2 ≤ (a0.size : Int) then ((slices_Contains_string_string.f k (([(⟨#[45, 62]⟩ : ByteArray), (⟨#[60, 61]⟩ : ByteArray), (⟨#[62, 61]⟩ : ByteArray), (⟨#[61, 61]⟩ : ByteArray), (⟨#[33, 61]⟩ : ByteArray)] : List ByteArray)) (a0.extract 0 2)).bind fun b5 => (some b5)) else (none)) else (none)) else (some false)
theorem token_pair.mono : ∀ a0 k, LeO (token_pair.f k a0) (token_pair.f (k + 1) a0) := by
 intro a0 k
 unfold token_pair.f
 with_reducible repeat' first | exact slices_Contains_string_string.mono .. | exact LeO.refl _ | exact LeO.none _ | refine LeO.ite ?_ ?_ | refine LeO.bind ?_ fun _ => ?_
theorem token_pair.calls (k : Nat) (a0 : ByteArray) (r : Bool) (w : World) (h : token_pair.f k a0 = some r) :
  Calls Try.prog 116 #[.string a0] w fun e w' => e = .returned (.bool r) ∧ Below w.heap.size w w' := by
 have HB := Aside0.mk (Below.refl w.heap.size w)
 have H : (if (a0.size : Int) ≥ 2 then (if 0 ≤ 2 then (if 2 ≤ (a0.size : Int) then ((slices_Contains_string_string.f k (([(⟨#[45, 62]⟩ : ByteArray), (⟨#[60, 61]⟩ : ByteArray), (⟨#[62, 61]⟩ : ByteArray), (⟨#[61, 61]⟩ : ByteArray), (⟨#[33, 61]⟩ : ByteArray)] : List ByteArray)) (a0.extract 0 2)).bind fun b5 => (some b5)) else (none)) else (none)) else (some false)) = some r := h
 clear h
 by_cases c2 : (a0.size : Int) ≥ 2
 rotate_left
 ·rw [if_neg c2] at H
  have b7 : decide (2 ≤ (a0.size : Int)) = false := decide_eq_false c2
  have b6 : decide (2 ≤ a0.size) = false := decide_eq_false (by omega)
  clear c2
  obtain rfl := Option.some.inj H
  go_enter Try.func116, Try.ntmps116
  go_wp2
  go_ret
  exact ⟨erf, bb HB⟩
 rw [if_pos c2] at H
 have b7 : decide (2 ≤ (a0.size : Int)) = true := decide_eq_true c2
 have b6 : decide (2 ≤ a0.size) = true := decide_eq_true (by omega)
 clear c2
 obtain ⟨h4, b3⟩ : ∃ y_ : List ByteArray, y_ = (([(⟨#[45, 62]⟩ : ByteArray), (⟨#[60, 61]⟩ : ByteArray), (⟨#[62, 61]⟩ : ByteArray), (⟨#[61, 61]⟩ : ByteArray), (⟨#[33, 61]⟩ : ByteArray)] : List ByteArray)) := ⟨_, rfl⟩
 replace H : (if 0 ≤ 2 then (if 2 ≤ (a0.size : Int) then ((slices_Contains_string_string.f k h4 (a0.extract 0 2)).bind fun b5 => (some b5)) else (none)) else (none)) = some r := by first | (rw [b3]; with_reducible exact H) | (have H2_ := (Option.bind_some _ _).symm.trans H; rw [b3]; with_reducible exact H2_) | (have H2_ := (Option.bind_some _ _).symm.trans H; with_reducible exact H2_) | with_reducible exact H | (rw [b3]; exact H) | exact H
 have g0 := Aside0.mk b3
 clear b3
 obtain ⟨c3, H⟩ := itn H
 have d5 := eq_true c3
 have g3 := decide_eq_true c3
 clear c3
 obtain ⟨c4, H⟩ := itn H
 have j0 := eq_true c4
 have n9 := decide_eq_true c4
 clear c4
 obtain ⟨b5, A5, H⟩ := obA H
 obtain rfl := Option.some.inj H
 go_enter Try.func116, Try.ntmps116
 go_wp2_with (first | ((with_reducible refine gate_dst (N := 7) rfl ?_); (try (refine gate_guard (by rfl) ?_; dsimp only)); refine Kd.R_lit Kd.string _ 9 ?hg (N := 7) ?hd (xs := ([(⟨#[45, 62]⟩ : ByteArray), (⟨#[60, 61]⟩ : ByteArray), (⟨#[62, 61]⟩ : ByteArray), (⟨#[61, 61]⟩ : ByteArray), (⟨#[33, 61]⟩ : ByteArray)] : List ByteArray)) (inner := [.string (⟨#[45, 62]⟩ : ByteArray), .string (⟨#[60, 61]⟩ : ByteArray), .string (⟨#[62, 61]⟩ : ByteArray), .string (⟨#[61, 61]⟩ : ByteArray), .string (⟨#[33, 61]⟩ : ByteArray)]) (ok := fun _ => True) (okp := fun _ => True) ?hr ?hp (fun _ hk => hk) trivial (Below.refl _ _) (Nat.le_refl _) (by simp) ?_; (case hd => rfl); (case hg => rfl); (case hr => first | (go_simp; done) | (go_simp; rfl)); (case hp => exact (Reps.one (show Kd.M Kd.string _ _ _ (⟨#[45, 62]⟩ : ByteArray) [.string (⟨#[45, 62]⟩ : ByteArray)] from rfl) (Reps.one (show Kd.M Kd.string _ _ _ (⟨#[60, 61]⟩ : ByteArray) [.string (⟨#[60, 61]⟩ : ByteArray)] from rfl) (Reps.one (show Kd.M Kd.string _ _ _ (⟨#[62, 61]⟩ : ByteArray) [.string (⟨#[62, 61]⟩ : ByteArray)] from rfl) (Reps.one (show Kd.M Kd.string _ _ _ (⟨#[61, 61]⟩ : ByteArray) [.string (⟨#[61, 61]⟩ : ByteArray)] from rfl) (Reps.one (show Kd.M Kd.string _ _ _ (⟨#[33, 61]⟩ : ByteArray) [.string (⟨#[33, 61]⟩ : ByteArray)] from rfl) (Reps.none _ _))))))); intro n0 w6 e1 hb hg_ hnew_; clear hg_ hnew_; (first | rw [← g0.out] at e1 | (simp only [Int.reduceToNat] at e1; rw [← g0.out] at e1)); have d9 := Aside0.mk (Kd.R_lower e1 (below_size (bb HB))); replace HB := bstep HB hb; clear hb e1; obtain ⟨o6, o5, eo8⟩ := Kd.R_slice d9.out; subst eo8) | (go_at_call 105; (with_reducible refine (slices_Contains_string_string.calls _ _ _ _ _ _ _ ?b2 ?b1 A5.out).mono ?_); (case b2 => repeat (first | exact (Kd.R_reads' d9.out).2.2 | (with_reducible refine Kd.C_alloc ?_ _) | (with_reducible refine Kd.C_drewN ?_ _) | (with_reducible refine Kd.C_drew ?_))); (case b1 => exact (Kd.R_reads' d9.out).2.1); rintro e w' ⟨rfl, ⟨nd, rfl⟩⟩))
 go_ret
 exact ⟨erf, bb HB⟩
def token_next.f (k : Nat) (a0 : ByteArray) : Option (Int × Int × Int) := if 0 < (a0.size : Int) then ((token_letter.f (bt a0 0)).bind fun d1 => (if d1 = true then ((token_run_part.f a0).bind fun a6 => (if a6 > 20 then (some (0, 0, 3)) else (some (1, a6, 0)))) else ((token_digit.f (bt a0 0)).bind fun d0 => (if d0 = true then ((token_run_digit.f a0).bind fun a5 => (if a5 > 9 then (some (0, 0, 3)) else (some (2, a5, 0)))) else (if (bt a0 0) = 34 then ((token_quoted.f k a0).bind fun b4 => (some (3, b4.1, b4.2))) else ((token_pair.f k a0).bind fun c6 => (if c6 = true then (some (4, 2, 0)) else ((strings_IndexByte.f (⟨#[123, 125, 40, 41, 91, 93, 44, 59, 58, 61, 43, 45, 42, 60, 62, 33, 38, 124, 46, 63]⟩ : ByteArray) (bt a0 0)).bind fun a9 => (if a9 ≥ 0 then (some (4, 1, 0)) else (some (0, 0, 2))))))))))) else (none)
theorem token_next.mono : ∀ a0 k, LeO (token_next.f k a0) (token_next.f (k + 1) a0) := by
 intro a0 k
 unfold token_next.f
 with_reducible repeat' first | exact token_pair.mono .. | exact token_quoted.mono .. | exact LeO.refl _ | exact LeO.none _ | refine LeO.ite ?_ ?_ | refine LeO.bind ?_ fun _ => ?_
theorem token_next.calls (k : Nat) (a0 : ByteArray) (r1 : Int) (r2 : Int) (r3 : Int) (w : World) (h : token_next.f k a0 = some (r1, r2, r3)) :
  Calls Try.prog 103 #[.string a0] w fun e w' => e = .returned (.tuple #[.int .i64 r1, .int .i64 r2, .int .i64 r3]) ∧ Below w.heap.size w w' := by
 have HB := Aside0.mk (Below.refl w.heap.size w)
 have H : (if 0 < (a0.size : Int) then ((token_letter.f (bt a0 0)).bind fun d1 => (if d1 = true then ((token_run_part.f a0).bind fun a6 => (if a6 > 20 then (some (0, 0, 3)) else (some (1, a6, 0)))) else ((token_digit.f (bt a0 0)).bind fun d0 => (if d0 = true then ((token_run_digit.f a0).bind fun a5 => (if a5 > 9 then (some (0, 0, 3)) else (some (2, a5, 0)))) else (if (bt a0 0) = 34 then ((token_quoted.f k a0).bind fun b4 => (some (3, b4.1, b4.2))) else ((token_pair.f k a0).bind fun c6 => (if c6 = true then (some (4, 2, 0)) else ((strings_IndexByte.f (⟨#[123, 125, 40, 41, 91, 93, 44, 59, 58, 61, 43, 45, 42, 60, 62, 33, 38, 124, 46, 63]⟩ : ByteArray) (bt a0 0)).bind fun a9 => (if a9 ≥ 0 then (some (4, 1, 0)) else (some (0, 0, 2))))))))))) else (none)) = some (r1, r2, r3) := h
 clear h
 obtain ⟨c2, H⟩ := itn H
 have b7 := decide_eq_true c2
 have b6 : decide (0 < a0.size) = true := decide_eq_true (by omega)
 clear c2
 obtain ⟨d1, A4, H⟩ := obA H
 by_cases c5 : d1 = true
 subst c5
 replace H := ift H
 obtain ⟨a6, A6, H⟩ := obA H
 by_cases c7 : a6 > 20
 rw [if_pos c7] at H
 have e6 : decide (20 < a6) = true := decide_eq_true c7
 clear c7
 simp only [Option.some.injEq, Prod.mk.injEq] at H
 obtain ⟨rfl, rfl, rfl⟩ := H
 rotate_left
 rw [if_neg c7] at H
 have e6 : decide (20 < a6) = false := decide_eq_false c7
 clear c7
 simp only [Option.some.injEq, Prod.mk.injEq] at H
 obtain ⟨rfl, rfl, rfl⟩ := H
 rotate_left
 replace c5 := Bool.eq_false_iff.mpr c5
 subst c5
 replace H := iff_ H
 obtain ⟨d0, A8, H⟩ := obA H
 by_cases c9 : d0 = true
 subst c9
 replace H := ift H
 obtain ⟨a5, g1, H⟩ := obA H
 by_cases b0 : a5 > 9
 rw [if_pos b0] at H
 have g8 : decide (9 < a5) = true := decide_eq_true b0
 clear b0
 simp only [Option.some.injEq, Prod.mk.injEq] at H
 obtain ⟨rfl, rfl, rfl⟩ := H
 rotate_left
 rw [if_neg b0] at H
 have g8 : decide (9 < a5) = false := decide_eq_false b0
 clear b0
 simp only [Option.some.injEq, Prod.mk.injEq] at H
 obtain ⟨rfl, rfl, rfl⟩ := H
 rotate_left
 replace c9 := Bool.eq_false_iff.mpr c9
 subst c9
 replace H := iff_ H
 by_cases d2 : (bt a0 0) = 34
 rw [if_pos d2] at H
 have g7 := beq_iff_eq.mpr d2
 have g6 := bne_eq_false_iff_eq.mpr d2
 clear d2
 obtain ⟨⟨n5, n4⟩, m7, H⟩ := obA H
 try dsimp only at H
 simp only [Option.some.injEq, Prod.mk.injEq] at H
 obtain ⟨rfl, rfl, rfl⟩ := H
 rotate_left
 rw [if_neg d2] at H
 have g7 := beq_eq_false_iff_ne.mpr d2
 have g6 := bne_iff_ne.mpr d2
 obtain ⟨c6, m6, H⟩ := obA H
 by_cases e9 : c6 = true
 subst e9
 replace H := ift H
 simp only [Option.some.injEq, Prod.mk.injEq] at H
 obtain ⟨rfl, rfl, rfl⟩ := H
 rotate_left
 replace e9 := Bool.eq_false_iff.mpr e9
 subst e9
 replace H := iff_ H
 obtain ⟨a9, m5, H⟩ := obA H
 by_cases d4 : a9 ≥ 0
 rw [if_pos d4] at H
 have g5 : decide (0 ≤ a9) = true := decide_eq_true d4
 clear d4
 simp only [Option.some.injEq, Prod.mk.injEq] at H
 obtain ⟨rfl, rfl, rfl⟩ := H
 rotate_left
 rw [if_neg d4] at H
 have g5 : decide (0 ≤ a9) = false := decide_eq_false d4
 clear d4
 simp only [Option.some.injEq, Prod.mk.injEq] at H
 obtain ⟨rfl, rfl, rfl⟩ := H
 all_goals
  have p3 : 0 ≤ 0 := (by omega)
  have q3 : 0 < a0.size := (by have : (0 : Int) < (a0.size : Int) := odt; omega)
  have o4 : ∀ h : 0 < a0.size, ((a0[0]'h).toNat : Int) = bt a0 0 := bt_at a0 0
  clear p3
  have qi3 : (0 < (a0.size : Int)) = True := eq_true (odt)
  replace q3 := eq_true q3
  go_enter Try.func103, Try.ntmps103
  go_wp2_with (first | ((with_reducible refine gate_callee (f := 111) rfl ?_); refine gl 14 Try.func111 #[.int .u8 (bt a0 0)] (h := ?_); (with_reducible refine (token_letter.calls _ _ _ A4.out).mono ?_); rintro e w' ⟨rfl, ⟨nd, rfl⟩⟩; refine ⟨_, rfl, ?_⟩) | ((with_reducible refine gate_callee (f := 114) rfl ?_); refine gl 22 Try.func114 #[.int .u8 (bt a0 0)] (h := ?_); (with_reducible refine (token_digit.calls _ _ _ A8.out).mono ?_); rintro e w' ⟨rfl, ⟨nd, rfl⟩⟩; refine ⟨_, rfl, ?_⟩) | ((with_reducible refine gate_callee (f := 116) rfl ?_); refine gl 40 Try.func116 #[.string a0] (h := ?_); (with_reducible refine (token_pair.calls _ _ _ _ m6.out).mono ?_); rintro e m3 ⟨rfl, hb⟩; refine ⟨_, rfl, ?_⟩; replace HB := bstep HB hb; clear hb) | ((with_reducible refine gate_callee (f := 117) rfl ?_); refine gl 43 Try.func117 #[.string (⟨#[123, 125, 40, 41, 91, 93, 44, 59, 58, 61, 43, 45, 42, 60, 62, 33, 38, 124, 46, 63]⟩ : ByteArray), .int .u8 (bt a0 0)] (h := ?_); (with_reducible refine (strings_IndexByte.calls (⟨#[123, 125, 40, 41, 91, 93, 44, 59, 58, 61, 43, 45, 42, 60, 62, 33, 38, 124, 46, 63]⟩ : ByteArray) (bt a0 0) a9 _ m5.out).mono ?_); rintro e w' ⟨rfl, ⟨nd, rfl⟩⟩; refine ⟨_, rfl, ?_⟩) | ((with_reducible refine gate_callee (f := 115) rfl ?_); refine gl 33 Try.func115 #[.string a0] (h := ?_); (with_reducible refine (token_quoted.calls _ _ _ _ _ m7.out).mono ?_); rintro e w' ⟨rfl, ⟨nd, rfl⟩⟩; refine ⟨_, rfl, ?_⟩) | ((with_reducible refine gate_callee (f := 112) rfl ?_); refine gl 24 Try.func112 #[.string a0, .func (.func 114) #[] #[]] (h := ?_); (with_reducible refine (token_run_digit.calls a0  a5 _ g1.out).mono ?_); rintro e w' ⟨rfl, ⟨nd, rfl⟩⟩; refine ⟨_, rfl, ?_⟩) | ((with_reducible refine gate_callee (f := 112) rfl ?_); refine gl 16 Try.func112 #[.string a0, .func (.func 113) #[] #[]] (h := ?_); (with_reducible refine (token_run_part.calls a0  a6 _ A6.out).mono ?_); rintro e w' ⟨rfl, ⟨nd, rfl⟩⟩; refine ⟨_, rfl, ?_⟩))
  go_ret3
  exact ⟨erf, bb HB⟩
def token_whole.f (k : Nat) (a7 : Int) (a4 : ByteArray) (d7 : Int) : Option (ByteArray × Bool) := if a7 = 3 then (none) else (if a4.toList = ([] : List UInt8) then (some ((⟨#[]⟩ : ByteArray), false)) else ((token_next.f k a4).bind fun a8 => (if a8.2.2 = 0 then (if a8.1 = a7 then (some (a4, (a8.2.1 == (a4.size : Int)))) else (some (a4, false))) else (some (a4, false)))))
theorem token_whole.mono : ∀ a0 a1 a2 k, LeO (token_whole.f k a0 a1 a2) (token_whole.f (k + 1) a0 a1 a2) := by
 intro a0 a1 a2 k
 unfold token_whole.f
 with_reducible repeat' first | exact token_next.mono .. | exact LeO.refl _ | exact LeO.none _ | refine LeO.ite ?_ ?_ | refine LeO.bind ?_ fun _ => ?_
theorem token_whole.calls (k : Nat) (a7 : Int) (a4 : ByteArray) (d7 : Int) (r1 : ByteArray) (r2 : Bool) (w : World) (h : token_whole.f k a7 a4 d7 = some (r1, r2)) :
  Calls Try.prog 83 #[.agg #[.int .i64 a7, .string a4, .int .i64 d7]] w fun e w' => e = .returned (.tuple #[.string r1, .bool r2]) ∧ Below w.heap.size w w' := by
 have hu119 := Try.underlying119
 have HB := Aside0.mk (Below.refl w.heap.size w)
 have H : (if a7 = 3 then (none) else (if a4.toList = ([] : List UInt8) then (some ((⟨#[]⟩ : ByteArray), false)) else ((token_next.f k a4).bind fun a8 => (if a8.2.2 = 0 then (if a8.1 = a7 then (some (a4, (a8.2.1 == (a4.size : Int)))) else (some (a4, false))) else (some (a4, false)))))) = some (r1, r2) := h
 clear h
 by_cases c2 : a7 = 3
 ·rw [if_pos c2] at H
  exact absurd H (by simp)
 rw [if_neg c2] at H
 have b7 := beq_eq_false_iff_ne.mpr c2
 have b6 := bne_iff_ne.mpr c2
 by_cases c3 : a4.toList = ([] : List UInt8)
 rw [if_pos c3] at H
 have d5 := beq_iff_eq.mpr c3
 have g3 := bne_eq_false_iff_eq.mpr c3
 clear c3
 simp only [Option.some.injEq, Prod.mk.injEq] at H
 obtain ⟨rfl, rfl⟩ := H
 rotate_left
 rw [if_neg c3] at H
 have d5 := beq_eq_false_iff_ne.mpr c3
 have g3 := bne_iff_ne.mpr c3
 obtain ⟨⟨h6, n3, h5⟩, A6, H⟩ := obA H
 try dsimp only at H
 by_cases c7 : h5 = 0
 rw [if_pos c7] at H
 have e6 := beq_iff_eq.mpr c7
 have h9 := bne_eq_false_iff_eq.mpr c7
 clear c7
 by_cases c8 : h6 = a7
 rw [if_pos c8] at H
 have g2 := beq_iff_eq.mpr c8
 have h8 := bne_eq_false_iff_eq.mpr c8
 clear c8
 simp only [Option.some.injEq, Prod.mk.injEq] at H
 obtain ⟨rfl, rfl⟩ := H
 rotate_left
 rw [if_neg c8] at H
 have g2 := beq_eq_false_iff_ne.mpr c8
 have h8 := bne_iff_ne.mpr c8
 simp only [Option.some.injEq, Prod.mk.injEq] at H
 obtain ⟨rfl, rfl⟩ := H
 rotate_left
 rw [if_neg c7] at H
 have e6 := beq_eq_false_iff_ne.mpr c7
 have h9 := bne_iff_ne.mpr c7
 simp only [Option.some.injEq, Prod.mk.injEq] at H
 obtain ⟨rfl, rfl⟩ := H
 all_goals
  go_enter Try.func83, Try.ntmps83
  go_wp2_with (first | ((with_reducible refine gate_dst (N := 1) rfl ?_); (try (refine gate_guard (by rfl) ?_; dsimp only)); refine be 1 #[.int .i64 a7, .string a4, .int .i64 d7] 119 ?_; intro m8 hg o2 hbox hb; have c1 := Aside0.mk (hbox); have m9 := bsz HB hg; replace HB := bstep HB hb; clear hb hbox hg; obtain ⟨m2, m1, m0, j6, j5, j4⟩ := cz3 c1) | ((with_reducible refine gate_callee (f := 103) rfl ?_); refine gl 20 Try.func103 #[.string a4] (h := ?_); (with_reducible refine (token_next.calls _ _ _ _ _ _ A6.out).mono ?_); rintro e o0 ⟨rfl, hb⟩; refine ⟨_, rfl, ?_⟩; replace c1 := bkb c1 hb; replace HB := bstep HB hb; clear hb; obtain ⟨j9, j8, j7, j3, j2, j1⟩ := cz3 c1))
  go_ret2
  exact ⟨erf, bb HB⟩
def token_IsName.f (k : Nat) (a0 : ByteArray) : Option (Bool) := (token_whole.f k 1 a0 0).bind fun d6 => (some d6.2)
theorem token_IsName.mono : ∀ a0 k, LeO (token_IsName.f k a0) (token_IsName.f (k + 1) a0) := by
 intro a0 k
 unfold token_IsName.f
 with_reducible repeat' first | exact token_whole.mono .. | exact LeO.refl _ | exact LeO.none _ | refine LeO.ite ?_ ?_ | refine LeO.bind ?_ fun _ => ?_
theorem token_IsName.calls (k : Nat) (a0 : ByteArray) (r : Bool) (w : World) (h : token_IsName.f k a0 = some r) :
  Calls Try.prog 59 #[.string a0] w fun e w' => e = .returned (.bool r) ∧ Below w.heap.size w w' := by
 have hu119 := Try.underlying119
 have HB := Aside0.mk (Below.refl w.heap.size w)
 have H : ((token_whole.f k 1 a0 0).bind fun d6 => (some d6.2)) = some r := h
 clear h
 obtain ⟨⟨n2, n1⟩, A2, H⟩ := obA H
 try dsimp only at H
 obtain rfl := Option.some.inj H
 go_enter Try.func59, Try.ntmps59
 go_wp2_with (first | ((with_reducible refine gate_callee (f := 83) rfl ?_); refine gl 8 Try.func83 #[.agg #[.int .i64 1, .string a0, .int .i64 0]] (h := ?_); (with_reducible refine (token_whole.calls _ _ _ _ _ _ _ A2.out).mono ?_); rintro e w3 ⟨rfl, hb⟩; refine ⟨_, rfl, ?_⟩; replace HB := bstep HB hb; clear hb))
 go_ret
 exact ⟨erf, bb HB⟩
def types_names.l0 : Nat → List ByteArray → List ByteArray → Int → Int → Option (Int)
 | 0, _, _, _, _ => none
 | k + 1, x0, x8, x9, b8 => if b8 < x9 then (if 0 ≤ b8 then (if b8 < (x8.length : Int) then ((token_IsName.f k (rdOf ByteArray.empty x8 b8)).bind fun e3 => (if e3 = true then (if b8 ≤ (x0.length : Int) then ((slices_Contains_string_string.f k (x0.take (b8 : Int).toNat) (rdOf ByteArray.empty x8 b8)).bind fun e2 => (if e2 = true then (some 5) else (types_names.l0 k x0 x8 x9 (wrap64 (b8 + 1))))) else (none)) else (some 2))) else (none)) else (none)) else (some 0)
def types_names.f (k : Nat) (l0 : List ByteArray) : Option (Int) := if (l0.length : Int) > 20 then (some 3) else (types_names.l0 k l0 l0 (l0.length : Int) 0)
theorem types_names.mono_l : ∀ k, (∀ y0 y1 y2 y3, LeO (types_names.l0 k y0 y1 y2 y3) (types_names.l0 (k + 1) y0 y1 y2 y3))
 | 0 => by (intros; intro r h; simp [types_names.l0] at h)
 | k + 1 => by
  have ih0 := types_names.mono_l k
  (intros; first | unfold types_names.l0)
  all_goals with_reducible repeat' first | exact ih0 .. | exact slices_Contains_string_string.mono .. | exact token_IsName.mono .. | exact LeO.refl _ | exact LeO.none _ | refine LeO.ite ?_ ?_ | refine LeO.bind ?_ fun _ => ?_
theorem types_names.mono : ∀ a0 k, LeO (types_names.f k a0) (types_names.f (k + 1) a0) := by
 intro a0 k
 have ih0 := types_names.mono_l k
 unfold types_names.f
 with_reducible repeat' first | exact ih0 .. | exact slices_Contains_string_string.mono .. | exact token_IsName.mono .. | exact LeO.refl _ | exact LeO.none _ | refine LeO.ite ?_ ?_ | refine LeO.bind ?_ fun _ => ?_
theorem types_names.calls (k : Nat) (A0 : Option Addr) (c0 : Nat) (l0 : List ByteArray) (r : Int) (w : World) (g9 : Kd.C Kd.string w A0 l0.length l0) (h0 : l0.length ≤ c0) (h : types_names.f k l0 = some r) :
  Calls Try.prog 87 #[.slice A0 l0.length c0] w fun e w' => e = .returned (.int .i64 r) ∧ Below w.heap.size w w' := by
 have g4 := Aside0.mk g9
 have h3 := Aside0.mk h0
 clear g9 h0
 have HB := Aside0.mk (Below.refl w.heap.size w)
 have H : (if (l0.length : Int) > 20 then (some 3) else (types_names.l0 k l0 l0 (l0.length : Int) 0)) = some r := h
 clear h
 by_cases c2 : (l0.length : Int) > 20
 ·rw [if_pos c2] at H
  have b7 : decide (20 < (l0.length : Int)) = true := decide_eq_true c2
  have b6 : decide (20 < l0.length) = true := decide_eq_true (by omega)
  clear c2
  obtain rfl := Option.some.inj H
  go_enter Try.func87, Try.ntmps87
  go_wp2
  go_ret
  exact ⟨erf, bb HB⟩
 rw [if_neg c2] at H
 have b7 : decide (20 < (l0.length : Int)) = false := decide_eq_false c2
 have b6 : decide (20 < l0.length) = false := decide_eq_false (by omega)
 clear c2
 have H' := Aside0.mk H
 clear H
 go_enter Try.func87, Try.ntmps87
 go_wp2
 go_loopg [10] k (fun kq m4 w' => ∃ (a3 : Int), m4 = .int .i64 a3 ∧ Aside0 (types_names.l0 kq l0 l0 (l0.length : Int) a3 = some r) ∧ Aside0 (kq ≤ k) ∧ Aside0 (Below w.heap.size w w'))
 case atStart => exact ⟨(0), eqs, H', ⟨Nat.le_refl _⟩, ⟨bb HB⟩⟩
 case round =>
  clear H'
  try clear b7 b6
  obtain ⟨a3, rfl, HA, h2, HB⟩ := hrel
  cases gk with
  | zero => exact absurd HA.out (by simp [types_names.l0])
  | succ k1 =>
   have H := HA.out
   clear HA
   simp only [types_names.l0] at H
   by_cases c3 : a3 < (l0.length : Int)
   rotate_left
   ·rw [if_neg c3] at H
    have d5 := decide_eq_false c3
    clear c3
    obtain rfl := Option.some.inj H
    go_wp2
    go_ret
    exact ⟨erf, bb HB⟩
   rw [if_pos c3] at H
   have d5 := decide_eq_true c3
   clear c3
   obtain ⟨c4, H⟩ := itn H
   have j0 := decide_eq_true c4
   clear c4
   obtain ⟨c5, H⟩ := itn H
   have n8 := decide_eq_true c5
   clear c5
   obtain ⟨e3, A6, H⟩ := obA H
   by_cases c7 : e3 = true
   subst c7
   replace H := ift H
   have g2 := eq_true (odt : 0 ≤ a3)
   obtain ⟨c9, H⟩ := itn H
   have n7 := eq_true c9
   have n6 := decide_eq_true c9
   clear c9
   obtain ⟨e2, g1, H⟩ := obA H
   by_cases b0 : e2 = true
   subst b0
   replace H := ift H
   obtain rfl := Option.some.inj H
   rotate_left
   replace b0 := Bool.eq_false_iff.mpr b0
   subst b0
   replace H := iff_ H
   have H' := Aside0.mk H
   clear H
   rotate_left
   replace c7 := Bool.eq_false_iff.mpr c7
   subst c7
   replace H := iff_ H
   obtain rfl := Option.some.inj H
   all_goals
    have e5 : 0 ≤ a3 := odt
    have e4 : a3 < (l0.length : Int) := odt
    obtain ⟨b9, h7, d3⟩ := Kd.at_string g4.out a3 e5 e4
    cases h7
    replace d3 := hxc HB d3
    replace e5 := eq_true e5
    replace e4 := eq_true e4
   ·go_wp2_with (first | ((with_reducible refine gate_callee (f := 59) rfl ?_); refine gl 17 Try.func59 #[.string (rdOf ByteArray.empty l0 a3)] (h := ?_); (with_reducible refine (token_IsName.calls _ _ _ _ A6.out).mono ?_); rintro e m3 ⟨rfl, hb⟩; refine ⟨_, rfl, ?_⟩; replace HB := bstep HB hb; clear hb))
    go_ret
    exact ⟨erf, bb HB⟩
   ·go_wp2_with (first | ((with_reducible refine gate_callee (f := 59) rfl ?_); refine gl 17 Try.func59 #[.string (rdOf ByteArray.empty l0 a3)] (h := ?_); (with_reducible refine (token_IsName.calls _ _ _ _ A6.out).mono ?_); rintro e o3 ⟨rfl, hb⟩; refine ⟨_, rfl, ?_⟩; replace HB := bstep HB hb; clear hb; obtain ⟨i013, e8, _, hsz13, _⟩ := info_parts info9; obtain ⟨hcut13, hA13, hC13⟩ := print_take_of (P := Try.prog) Value.string (⟨#[]⟩ : ByteArray) 75 9 .i64 Try.underlying75 e8 hsz13 (some b9) c0 l0 a3 (odt) (odt) h3.out; have d8 := Aside0.mk (Kd.C_of_reads (h1 := fun _ => rfl) (hA13 _ (Kd.reads_of_C g4.out))); have e0 := Aside0.mk hC13; clear hA13 hC13 e8 hsz13) | ((with_reducible refine gate_callee (f := 105) rfl ?_); refine goesL_ (some 24) rfl rfl Try.func105 (by kernel_rfl) rfl #[.slice (some b9) (l0.take (a3 : Int).toNat).length c0, .string (rdOf ByteArray.empty l0 a3)] rfl (by (try simp only [List.map_toArray, List.map_cons, List.map_nil]); first | done | (rw [show (l0.take (a3 : Int).toNat).length = a3.toNat from (by rw [List.length_take]; have h_ : (a3 : Int) ≤ (l0.length : Int) := odt; omega)] <;> rfl) | rfl | (simp only [List.length_drop, List.length_take]; rfl)) ?_; (with_reducible refine (slices_Contains_string_string.calls _ _ _ _ _ _ _ ?b2 ?b1 g1.out).mono ?_); (case b2 => exact cb d8 HB); (case b1 => exact e0.out); rintro e w' ⟨rfl, ⟨nd, rfl⟩⟩; refine ⟨_, rfl, ?_⟩))
    go_ret
    exact ⟨erf, bb HB⟩
   ·go_wp2_with (first | ((with_reducible refine gate_callee (f := 59) rfl ?_); refine gl 17 Try.func59 #[.string (rdOf ByteArray.empty l0 a3)] (h := ?_); (with_reducible refine (token_IsName.calls _ _ _ _ A6.out).mono ?_); rintro e o1 ⟨rfl, hb⟩; refine ⟨_, rfl, ?_⟩; replace HB := bstep HB hb; clear hb; obtain ⟨i015, e7, _, hsz15, _⟩ := info_parts info9; obtain ⟨hcut15, hA15, hC15⟩ := print_take_of (P := Try.prog) Value.string (⟨#[]⟩ : ByteArray) 75 9 .i64 Try.underlying75 e7 hsz15 (some b9) c0 l0 a3 (odt) (odt) h3.out; have d8 := Aside0.mk (Kd.C_of_reads (h1 := fun _ => rfl) (hA15 _ (Kd.reads_of_C g4.out))); have e0 := Aside0.mk hC15; clear hA15 hC15 e7 hsz15) | ((with_reducible refine gate_callee (f := 105) rfl ?_); refine goesL_ (some 24) rfl rfl Try.func105 (by kernel_rfl) rfl #[.slice (some b9) (l0.take (a3 : Int).toNat).length c0, .string (rdOf ByteArray.empty l0 a3)] rfl (by (try simp only [List.map_toArray, List.map_cons, List.map_nil]); first | done | (rw [show (l0.take (a3 : Int).toNat).length = a3.toNat from (by rw [List.length_take]; have h_ : (a3 : Int) ≤ (l0.length : Int) := odt; omega)] <;> rfl) | rfl | (simp only [List.length_drop, List.length_take]; rfl)) ?_; (with_reducible refine (slices_Contains_string_string.calls _ _ _ _ _ _ _ ?b2 ?b1 g1.out).mono ?_); (case b2 => exact cb d8 HB); (case b1 => exact e0.out); rintro e w' ⟨rfl, ⟨nd, rfl⟩⟩; refine ⟨_, rfl, ?_⟩))
    go_roundg k1
    case measure => have := h2.out; omega
    case rel => exact ⟨(wrap64 (a3 + 1)), eqs, H', ⟨by have := h2.out; omega⟩, ⟨bb HB⟩⟩
end Go.Proofs.Ytfpianecohobjaa.P
