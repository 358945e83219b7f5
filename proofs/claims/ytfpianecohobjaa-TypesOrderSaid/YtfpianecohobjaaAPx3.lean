/- typesOrder_holds, typesBounds_holds, typesInherit_holds: a part of the proof that the law returns true for every input. No condition. -/
import Derived.Test.YtfpianecohobjaaAPx0
import Derived.Test.YtfpianecohobjaaAPx2
import Derived.Test.YtfpianecohobjaaAH0
namespace Go.Proofs.Ytfpianecohobjaa.P
open Go.RowKit Go.Proofs.YtfpianecohobjaaW.PrintWords Go.Proofs.YtfpianecohobjaaW.PrintLast Go.Proofs.YtfpianecohobjaaW.PrintMore
set_option linter.unusedVariables false
set_option linter.unusedSimpArgs false
def token_pair.f (k : Nat) (a0 : ByteArray) : Option (Bool) := if (a0.size : Int) ≥ 2 then (if 0 ≤ 2 then (if 2 ≤ (a0.size : Int) then ((slices_Contains_string_string.f k (([(⟨#[45, 62]⟩ : ByteArray), (⟨#[60, 61]⟩ : ByteArray), (⟨#[62, 61]⟩ : ByteArray), (⟨#[61, 61]⟩ : ByteArray), (⟨#[33, 61]⟩ : ByteArray)] : List ByteArray)) (a0.extract 0 2)).bind fun t122 => (some t122)) else (none)) else (none)) else (some false)
theorem token_pair.mono : ∀ a0 k, LeO (token_pair.f k a0) (token_pair.f (k + 1) a0) := by
 intro a0 k
 unfold token_pair.f
 repeat' first
   | (with_reducible exact slices_Contains_string_string.mono _ _ _)
   | (with_reducible exact LeO.refl _)
   | (with_reducible exact LeO.none _)
   | (with_reducible refine LeO.ite ?_ ?_)
   | (with_reducible refine LeO.bind ?_ (fun _ => ?_))
   | exact slices_Contains_string_string.mono _ _ _
   | exact LeO.none _
   | refine LeO.ite ?_ ?_
   | refine LeO.bind ?_ (fun _ => ?_)
set_option maxHeartbeats 8000000 in
set_option maxRecDepth 100000 in
theorem token_pair.calls (k : Nat) (a0 : ByteArray) (r : Bool) (w : World) (h : token_pair.f k a0 = some r) :
  Calls Try.prog 116 #[.string a0] w fun e w' => e = .returned (.bool r) ∧ Below w.heap.size w w' := by
 have HB := Aside0.mk (Below.refl w.heap.size w)
 have H : (if (a0.size : Int) ≥ 2 then (if 0 ≤ 2 then (if 2 ≤ (a0.size : Int) then ((slices_Contains_string_string.f k (([(⟨#[45, 62]⟩ : ByteArray), (⟨#[60, 61]⟩ : ByteArray), (⟨#[62, 61]⟩ : ByteArray), (⟨#[61, 61]⟩ : ByteArray), (⟨#[33, 61]⟩ : ByteArray)] : List ByteArray)) (a0.extract 0 2)).bind fun t122 => (some t122)) else (none)) else (none)) else (some false)) = some r := h
 clear h
 by_cases c2 : (a0.size : Int) ≥ 2
 ·rw [if_pos c2] at H
  have c2b0 : decide (2 ≤ (a0.size : Int)) = true := decide_eq_true c2
  have c2b1 : decide (2 ≤ a0.size) = true := decide_eq_true (by omega)
  clear c2
  obtain ⟨y119, hy119⟩ : ∃ y_ : List ByteArray, y_ = (([(⟨#[45, 62]⟩ : ByteArray), (⟨#[60, 61]⟩ : ByteArray), (⟨#[62, 61]⟩ : ByteArray), (⟨#[61, 61]⟩ : ByteArray), (⟨#[33, 61]⟩ : ByteArray)] : List ByteArray)) := ⟨_, rfl⟩
  replace H : (if 0 ≤ 2 then (if 2 ≤ (a0.size : Int) then ((slices_Contains_string_string.f k y119 (a0.extract 0 2)).bind fun t122 => (some t122)) else (none)) else (none)) = some r := by first | (rw [hy119]; with_reducible exact H) | (have H2_ := (Option.bind_some _ _).symm.trans H; rw [hy119]; with_reducible exact H2_) | (have H2_ := (Option.bind_some _ _).symm.trans H; with_reducible exact H2_) | with_reducible exact H | (rw [hy119]; exact H) | exact H
  have Ny119 := Aside0.mk hy119
  clear hy119
  by_cases c3 : 0 ≤ 2
  ·rw [if_pos c3] at H
   have c3b0 := eq_true c3
   have c3b1 : decide (0 ≤ 2) = true := decide_eq_true c3
   clear c3
   by_cases c4 : 2 ≤ (a0.size : Int)
   ·rw [if_pos c4] at H
    have c4b0 := eq_true c4
    have c4b1 : decide (2 ≤ (a0.size : Int)) = true := decide_eq_true c4
    clear c4
    replace H := Option.bind_eq_some_iff.mp H
    obtain ⟨t122, A50, H⟩ := H
    replace H : (some t122) = some r := H
    have A5 := Aside0.mk A50
    clear A50
    obtain rfl := Option.some.inj H
    go_enter Try.func116, Try.ntmps116
    go_wp2_with (first | ((with_reducible refine gate_dst (N := 7) rfl ?_); (try (refine gate_guard (by rfl) ?_; dsimp only)); refine Kd.R_lit Kd.string _ 9 ?hg (N := 7) ?hd (xs := ([(⟨#[45, 62]⟩ : ByteArray), (⟨#[60, 61]⟩ : ByteArray), (⟨#[62, 61]⟩ : ByteArray), (⟨#[61, 61]⟩ : ByteArray), (⟨#[33, 61]⟩ : ByteArray)] : List ByteArray)) (inner := [.string (⟨#[45, 62]⟩ : ByteArray), .string (⟨#[60, 61]⟩ : ByteArray), .string (⟨#[62, 61]⟩ : ByteArray), .string (⟨#[61, 61]⟩ : ByteArray), .string (⟨#[33, 61]⟩ : ByteArray)]) (ok := fun _ => True) (okp := fun _ => True) ?hr ?hp (fun _ hk => hk) trivial (Below.refl _ _) (Nat.le_refl _) (by simp) ?_; (case hd => rfl); (case hg => rfl); (case hr => first | (go_simp; done) | (go_simp; rfl)); (case hp => exact (Reps.one (show Kd.M Kd.string _ _ _ (⟨#[45, 62]⟩ : ByteArray) [.string (⟨#[45, 62]⟩ : ByteArray)] from rfl) (Reps.one (show Kd.M Kd.string _ _ _ (⟨#[60, 61]⟩ : ByteArray) [.string (⟨#[60, 61]⟩ : ByteArray)] from rfl) (Reps.one (show Kd.M Kd.string _ _ _ (⟨#[62, 61]⟩ : ByteArray) [.string (⟨#[62, 61]⟩ : ByteArray)] from rfl) (Reps.one (show Kd.M Kd.string _ _ _ (⟨#[61, 61]⟩ : ByteArray) [.string (⟨#[61, 61]⟩ : ByteArray)] from rfl) (Reps.one (show Kd.M Kd.string _ _ _ (⟨#[33, 61]⟩ : ByteArray) [.string (⟨#[33, 61]⟩ : ByteArray)] from rfl) (Reps.none _ _))))))); intro v120 w6 ho7 hb hg_ hnew_; clear hg_ hnew_; (first | rw [← Ny119.out] at ho7 | (simp only [Int.reduceToNat] at ho7; rw [← Ny119.out] at ho7)); have HO121 := Aside0.mk (Kd.R_lower ho7 (below_size (bb HB))); replace HB := bstep HB hb; clear hb ho7; obtain ⟨Ao8, co8, eo8⟩ := Kd.R_slice HO121.out; subst eo8) | (go_at_call 105; (with_reducible refine (slices_Contains_string_string.calls k _ _ y119 (a0.extract 0 2) t122 _ ?side1 ?side2 A5.out).mono ?_); (case side1 => repeat (first | exact (Kd.R_reads' HO121.out).2.2 | (with_reducible refine Kd.C_alloc ?_ _) | (with_reducible refine Kd.C_drewN ?_ _) | (with_reducible refine Kd.C_drew ?_))); (case side2 => exact (Kd.R_reads' HO121.out).2.1); rintro e w' ⟨rfl, ⟨nd, rfl⟩⟩))
    go_ret
    exact ⟨erf, bb HB⟩
   ·rw [if_neg c4] at H
    exact absurd H (by simp)
  ·rw [if_neg c3] at H
   exact absurd H (by simp)
 ·rw [if_neg c2] at H
  have c2b0 : decide (2 ≤ (a0.size : Int)) = false := decide_eq_false c2
  have c2b1 : decide (2 ≤ a0.size) = false := decide_eq_false (by omega)
  clear c2
  obtain rfl := Option.some.inj H
  go_enter Try.func116, Try.ntmps116
  go_wp2
  go_ret
  exact ⟨erf, bb HB⟩
def token_next.f (k : Nat) (a0 : ByteArray) : Option (Int × Int × Int) := if 0 < (a0.size : Int) then ((token_letter.f (bt a0 0)).bind fun t123 => (if t123 = true then ((token_run_part.f a0).bind fun t124 => (if t124 > 20 then (some (0, 0, 3)) else (some (1, t124, 0)))) else ((token_digit.f (bt a0 0)).bind fun t125 => (if t125 = true then ((token_run_digit.f a0).bind fun t126 => (if t126 > 9 then (some (0, 0, 3)) else (some (2, t126, 0)))) else (if (bt a0 0) = 34 then ((token_quoted.f k a0).bind fun bt127 => (some (3, bt127.1, bt127.2))) else ((token_pair.f k a0).bind fun t129 => (if t129 = true then (some (4, 2, 0)) else ((strings_IndexByte.f (⟨#[123, 125, 40, 41, 91, 93, 44, 59, 58, 61, 43, 45, 42, 60, 62, 33, 38, 124, 46, 63]⟩ : ByteArray) (bt a0 0)).bind fun t130 => (if t130 ≥ 0 then (some (4, 1, 0)) else (some (0, 0, 2))))))))))) else (none)
theorem token_next.mono : ∀ a0 k, LeO (token_next.f k a0) (token_next.f (k + 1) a0) := by
 intro a0 k
 unfold token_next.f
 repeat' first
   | (with_reducible exact token_pair.mono _ _)
   | (with_reducible exact token_quoted.mono _ _)
   | (with_reducible exact LeO.refl _)
   | (with_reducible exact LeO.none _)
   | (with_reducible refine LeO.ite ?_ ?_)
   | (with_reducible refine LeO.bind ?_ (fun _ => ?_))
   | exact token_pair.mono _ _
   | exact token_quoted.mono _ _
   | exact LeO.none _
   | refine LeO.ite ?_ ?_
   | refine LeO.bind ?_ (fun _ => ?_)
set_option maxHeartbeats 8000000 in
set_option maxRecDepth 100000 in
theorem token_next.calls (k : Nat) (a0 : ByteArray) (r1 : Int) (r2 : Int) (r3 : Int) (w : World) (h : token_next.f k a0 = some (r1, r2, r3)) :
  Calls Try.prog 103 #[.string a0] w fun e w' => e = .returned (.tuple #[.int .i64 r1, .int .i64 r2, .int .i64 r3]) ∧ Below w.heap.size w w' := by
 have HB := Aside0.mk (Below.refl w.heap.size w)
 have H : (if 0 < (a0.size : Int) then ((token_letter.f (bt a0 0)).bind fun t123 => (if t123 = true then ((token_run_part.f a0).bind fun t124 => (if t124 > 20 then (some (0, 0, 3)) else (some (1, t124, 0)))) else ((token_digit.f (bt a0 0)).bind fun t125 => (if t125 = true then ((token_run_digit.f a0).bind fun t126 => (if t126 > 9 then (some (0, 0, 3)) else (some (2, t126, 0)))) else (if (bt a0 0) = 34 then ((token_quoted.f k a0).bind fun bt127 => (some (3, bt127.1, bt127.2))) else ((token_pair.f k a0).bind fun t129 => (if t129 = true then (some (4, 2, 0)) else ((strings_IndexByte.f (⟨#[123, 125, 40, 41, 91, 93, 44, 59, 58, 61, 43, 45, 42, 60, 62, 33, 38, 124, 46, 63]⟩ : ByteArray) (bt a0 0)).bind fun t130 => (if t130 ≥ 0 then (some (4, 1, 0)) else (some (0, 0, 2))))))))))) else (none)) = some (r1, r2, r3) := h
 clear h
 by_cases c2 : 0 < (a0.size : Int)
 ·rw [if_pos c2] at H
  have c2b0 : decide (0 < (a0.size : Int)) = true := decide_eq_true c2
  have c2b1 : decide (0 < a0.size) = true := decide_eq_true (by omega)
  clear c2
  replace H := Option.bind_eq_some_iff.mp H
  obtain ⟨t123, A40, H⟩ := H
  replace H : (if t123 = true then ((token_run_part.f a0).bind fun t124 => (if t124 > 20 then (some (0, 0, 3)) else (some (1, t124, 0)))) else ((token_digit.f (bt a0 0)).bind fun t125 => (if t125 = true then ((token_run_digit.f a0).bind fun t126 => (if t126 > 9 then (some (0, 0, 3)) else (some (2, t126, 0)))) else (if (bt a0 0) = 34 then ((token_quoted.f k a0).bind fun bt127 => (some (3, bt127.1, bt127.2))) else ((token_pair.f k a0).bind fun t129 => (if t129 = true then (some (4, 2, 0)) else ((strings_IndexByte.f (⟨#[123, 125, 40, 41, 91, 93, 44, 59, 58, 61, 43, 45, 42, 60, 62, 33, 38, 124, 46, 63]⟩ : ByteArray) (bt a0 0)).bind fun t130 => (if t130 ≥ 0 then (some (4, 1, 0)) else (some (0, 0, 2)))))))))) = some (r1, r2, r3) := H
  have A4 := Aside0.mk A40
  clear A40
  by_cases c5 : t123 = true
  ·subst c5
   replace H := ift H
   replace H := Option.bind_eq_some_iff.mp H
   obtain ⟨t124, A60, H⟩ := H
   replace H : (if t124 > 20 then (some (0, 0, 3)) else (some (1, t124, 0))) = some (r1, r2, r3) := H
   have A6 := Aside0.mk A60
   clear A60
   by_cases c7 : t124 > 20
   ·rw [if_pos c7] at H
    have c7b0 : decide (20 < t124) = true := decide_eq_true c7
    clear c7
    simp only [Option.some.injEq, Prod.mk.injEq] at H
    obtain ⟨rfl, rfl, rfl⟩ := H
    have p3 : 0 ≤ 0 := (by omega)
    have q3 : 0 < a0.size := (by have : (0 : Int) < (a0.size : Int) := odt; omega)
    have hx3 : ∀ h : 0 < a0.size, ((a0[0]'h).toNat : Int) = bt a0 0 := bt_at a0 0
    clear p3
    have qi3 : (0 < (a0.size : Int)) = True := eq_true (odt)
    replace q3 := eq_true q3
    go_enter Try.func103, Try.ntmps103
    go_wp2_with (first | ((with_reducible refine gate_callee (f := 111) rfl ?_); refine gl 14 Try.func111 #[.int .u8 (bt a0 0)] (h := ?_); (with_reducible refine (token_letter.calls (bt a0 0) true _ A4.out).mono ?_); rintro e w' ⟨rfl, ⟨nd, rfl⟩⟩; refine ⟨_, rfl, ?_⟩) | ((with_reducible refine gate_callee (f := 112) rfl ?_); refine gl 16 Try.func112 #[.string a0, .func (.func 113) #[] #[]] (h := ?_); (with_reducible refine (token_run_part.calls a0  t124 _ A6.out).mono ?_); rintro e w' ⟨rfl, ⟨nd, rfl⟩⟩; refine ⟨_, rfl, ?_⟩))
    go_ret3
    exact ⟨erf, bb HB⟩
   ·rw [if_neg c7] at H
    have c7b0 : decide (20 < t124) = false := decide_eq_false c7
    clear c7
    simp only [Option.some.injEq, Prod.mk.injEq] at H
    obtain ⟨rfl, rfl, rfl⟩ := H
    have p3 : 0 ≤ 0 := (by omega)
    have q3 : 0 < a0.size := (by have : (0 : Int) < (a0.size : Int) := odt; omega)
    have hx3 : ∀ h : 0 < a0.size, ((a0[0]'h).toNat : Int) = bt a0 0 := bt_at a0 0
    clear p3
    have qi3 : (0 < (a0.size : Int)) = True := eq_true (odt)
    replace q3 := eq_true q3
    go_enter Try.func103, Try.ntmps103
    go_wp2_with (first | ((with_reducible refine gate_callee (f := 111) rfl ?_); refine gl 14 Try.func111 #[.int .u8 (bt a0 0)] (h := ?_); (with_reducible refine (token_letter.calls (bt a0 0) true _ A4.out).mono ?_); rintro e w' ⟨rfl, ⟨nd, rfl⟩⟩; refine ⟨_, rfl, ?_⟩) | ((with_reducible refine gate_callee (f := 112) rfl ?_); refine gl 16 Try.func112 #[.string a0, .func (.func 113) #[] #[]] (h := ?_); (with_reducible refine (token_run_part.calls a0  t124 _ A6.out).mono ?_); rintro e w' ⟨rfl, ⟨nd, rfl⟩⟩; refine ⟨_, rfl, ?_⟩))
    go_ret3
    exact ⟨erf, bb HB⟩
  ·replace c5 := Bool.eq_false_iff.mpr c5
   subst c5
   replace H := iff_ H
   replace H := Option.bind_eq_some_iff.mp H
   obtain ⟨t125, A80, H⟩ := H
   replace H : (if t125 = true then ((token_run_digit.f a0).bind fun t126 => (if t126 > 9 then (some (0, 0, 3)) else (some (2, t126, 0)))) else (if (bt a0 0) = 34 then ((token_quoted.f k a0).bind fun bt127 => (some (3, bt127.1, bt127.2))) else ((token_pair.f k a0).bind fun t129 => (if t129 = true then (some (4, 2, 0)) else ((strings_IndexByte.f (⟨#[123, 125, 40, 41, 91, 93, 44, 59, 58, 61, 43, 45, 42, 60, 62, 33, 38, 124, 46, 63]⟩ : ByteArray) (bt a0 0)).bind fun t130 => (if t130 ≥ 0 then (some (4, 1, 0)) else (some (0, 0, 2)))))))) = some (r1, r2, r3) := H
   have A8 := Aside0.mk A80
   clear A80
   by_cases c9 : t125 = true
   ·subst c9
    replace H := ift H
    replace H := Option.bind_eq_some_iff.mp H
    obtain ⟨t126, A100, H⟩ := H
    replace H : (if t126 > 9 then (some (0, 0, 3)) else (some (2, t126, 0))) = some (r1, r2, r3) := H
    have A10 := Aside0.mk A100
    clear A100
    by_cases c11 : t126 > 9
    ·rw [if_pos c11] at H
     have c11b0 : decide (9 < t126) = true := decide_eq_true c11
     clear c11
     simp only [Option.some.injEq, Prod.mk.injEq] at H
     obtain ⟨rfl, rfl, rfl⟩ := H
     have p3 : 0 ≤ 0 := (by omega)
     have q3 : 0 < a0.size := (by have : (0 : Int) < (a0.size : Int) := odt; omega)
     have hx3 : ∀ h : 0 < a0.size, ((a0[0]'h).toNat : Int) = bt a0 0 := bt_at a0 0
     clear p3
     have qi3 : (0 < (a0.size : Int)) = True := eq_true (odt)
     replace q3 := eq_true q3
     go_enter Try.func103, Try.ntmps103
     go_wp2_with (first | ((with_reducible refine gate_callee (f := 111) rfl ?_); refine gl 14 Try.func111 #[.int .u8 (bt a0 0)] (h := ?_); (with_reducible refine (token_letter.calls (bt a0 0) false _ A4.out).mono ?_); rintro e w' ⟨rfl, ⟨nd, rfl⟩⟩; refine ⟨_, rfl, ?_⟩) | ((with_reducible refine gate_callee (f := 114) rfl ?_); refine gl 22 Try.func114 #[.int .u8 (bt a0 0)] (h := ?_); (with_reducible refine (token_digit.calls (bt a0 0) true _ A8.out).mono ?_); rintro e w' ⟨rfl, ⟨nd, rfl⟩⟩; refine ⟨_, rfl, ?_⟩) | ((with_reducible refine gate_callee (f := 112) rfl ?_); refine gl 24 Try.func112 #[.string a0, .func (.func 114) #[] #[]] (h := ?_); (with_reducible refine (token_run_digit.calls a0  t126 _ A10.out).mono ?_); rintro e w' ⟨rfl, ⟨nd, rfl⟩⟩; refine ⟨_, rfl, ?_⟩))
     go_ret3
     exact ⟨erf, bb HB⟩
    ·rw [if_neg c11] at H
     have c11b0 : decide (9 < t126) = false := decide_eq_false c11
     clear c11
     simp only [Option.some.injEq, Prod.mk.injEq] at H
     obtain ⟨rfl, rfl, rfl⟩ := H
     have p3 : 0 ≤ 0 := (by omega)
     have q3 : 0 < a0.size := (by have : (0 : Int) < (a0.size : Int) := odt; omega)
     have hx3 : ∀ h : 0 < a0.size, ((a0[0]'h).toNat : Int) = bt a0 0 := bt_at a0 0
     clear p3
     have qi3 : (0 < (a0.size : Int)) = True := eq_true (odt)
     replace q3 := eq_true q3
     go_enter Try.func103, Try.ntmps103
     go_wp2_with (first | ((with_reducible refine gate_callee (f := 111) rfl ?_); refine gl 14 Try.func111 #[.int .u8 (bt a0 0)] (h := ?_); (with_reducible refine (token_letter.calls (bt a0 0) false _ A4.out).mono ?_); rintro e w' ⟨rfl, ⟨nd, rfl⟩⟩; refine ⟨_, rfl, ?_⟩) | ((with_reducible refine gate_callee (f := 114) rfl ?_); refine gl 22 Try.func114 #[.int .u8 (bt a0 0)] (h := ?_); (with_reducible refine (token_digit.calls (bt a0 0) true _ A8.out).mono ?_); rintro e w' ⟨rfl, ⟨nd, rfl⟩⟩; refine ⟨_, rfl, ?_⟩) | ((with_reducible refine gate_callee (f := 112) rfl ?_); refine gl 24 Try.func112 #[.string a0, .func (.func 114) #[] #[]] (h := ?_); (with_reducible refine (token_run_digit.calls a0  t126 _ A10.out).mono ?_); rintro e w' ⟨rfl, ⟨nd, rfl⟩⟩; refine ⟨_, rfl, ?_⟩))
     go_ret3
     exact ⟨erf, bb HB⟩
   ·replace c9 := Bool.eq_false_iff.mpr c9
    subst c9
    replace H := iff_ H
    by_cases c12 : (bt a0 0) = 34
    ·rw [if_pos c12] at H
     have c12b0 : ((bt a0 0) == 34) = true := beq_iff_eq.mpr c12
     have c12b1 : ((bt a0 0) != 34) = false := bne_eq_false_iff_eq.mpr c12
     clear c12
     replace H := Option.bind_eq_some_iff.mp H
     obtain ⟨⟨t127, t128⟩, A130, H⟩ := H
     replace H : (some (3, t127, t128)) = some (r1, r2, r3) := H
     have A13 := Aside0.mk A130
     clear A130
     simp only [Option.some.injEq, Prod.mk.injEq] at H
     obtain ⟨rfl, rfl, rfl⟩ := H
     have p3 : 0 ≤ 0 := (by omega)
     have q3 : 0 < a0.size := (by have : (0 : Int) < (a0.size : Int) := odt; omega)
     have hx3 : ∀ h : 0 < a0.size, ((a0[0]'h).toNat : Int) = bt a0 0 := bt_at a0 0
     clear p3
     have qi3 : (0 < (a0.size : Int)) = True := eq_true (odt)
     replace q3 := eq_true q3
     go_enter Try.func103, Try.ntmps103
     go_wp2_with (first | ((with_reducible refine gate_callee (f := 111) rfl ?_); refine gl 14 Try.func111 #[.int .u8 (bt a0 0)] (h := ?_); (with_reducible refine (token_letter.calls (bt a0 0) false _ A4.out).mono ?_); rintro e w' ⟨rfl, ⟨nd, rfl⟩⟩; refine ⟨_, rfl, ?_⟩) | ((with_reducible refine gate_callee (f := 114) rfl ?_); refine gl 22 Try.func114 #[.int .u8 (bt a0 0)] (h := ?_); (with_reducible refine (token_digit.calls (bt a0 0) false _ A8.out).mono ?_); rintro e w' ⟨rfl, ⟨nd, rfl⟩⟩; refine ⟨_, rfl, ?_⟩) | ((with_reducible refine gate_callee (f := 115) rfl ?_); refine gl 33 Try.func115 #[.string a0] (h := ?_); (with_reducible refine (token_quoted.calls k a0 t127 t128 _ A13.out).mono ?_); rintro e w' ⟨rfl, ⟨nd, rfl⟩⟩; refine ⟨_, rfl, ?_⟩))
     go_ret3
     exact ⟨erf, bb HB⟩
    ·rw [if_neg c12] at H
     have c12b0 : ((bt a0 0) == 34) = false := beq_eq_false_iff_ne.mpr c12
     have c12b1 : ((bt a0 0) != 34) = true := bne_iff_ne.mpr c12
     replace H := Option.bind_eq_some_iff.mp H
     obtain ⟨t129, A140, H⟩ := H
     replace H : (if t129 = true then (some (4, 2, 0)) else ((strings_IndexByte.f (⟨#[123, 125, 40, 41, 91, 93, 44, 59, 58, 61, 43, 45, 42, 60, 62, 33, 38, 124, 46, 63]⟩ : ByteArray) (bt a0 0)).bind fun t130 => (if t130 ≥ 0 then (some (4, 1, 0)) else (some (0, 0, 2))))) = some (r1, r2, r3) := H
     have A14 := Aside0.mk A140
     clear A140
     by_cases c15 : t129 = true
     ·subst c15
      replace H := ift H
      simp only [Option.some.injEq, Prod.mk.injEq] at H
      obtain ⟨rfl, rfl, rfl⟩ := H
      have p3 : 0 ≤ 0 := (by omega)
      have q3 : 0 < a0.size := (by have : (0 : Int) < (a0.size : Int) := odt; omega)
      have hx3 : ∀ h : 0 < a0.size, ((a0[0]'h).toNat : Int) = bt a0 0 := bt_at a0 0
      clear p3
      have qi3 : (0 < (a0.size : Int)) = True := eq_true (odt)
      replace q3 := eq_true q3
      go_enter Try.func103, Try.ntmps103
      go_wp2_with (first | ((with_reducible refine gate_callee (f := 111) rfl ?_); refine gl 14 Try.func111 #[.int .u8 (bt a0 0)] (h := ?_); (with_reducible refine (token_letter.calls (bt a0 0) false _ A4.out).mono ?_); rintro e w' ⟨rfl, ⟨nd, rfl⟩⟩; refine ⟨_, rfl, ?_⟩) | ((with_reducible refine gate_callee (f := 114) rfl ?_); refine gl 22 Try.func114 #[.int .u8 (bt a0 0)] (h := ?_); (with_reducible refine (token_digit.calls (bt a0 0) false _ A8.out).mono ?_); rintro e w' ⟨rfl, ⟨nd, rfl⟩⟩; refine ⟨_, rfl, ?_⟩) | ((with_reducible refine gate_callee (f := 116) rfl ?_); refine gl 40 Try.func116 #[.string a0] (h := ?_); (with_reducible refine (token_pair.calls k a0 true _ A14.out).mono ?_); rintro e w16 ⟨rfl, hb⟩; refine ⟨_, rfl, ?_⟩; replace HB := bstep HB hb; (try clear hb); (try clear hb2); (try clear hk); (try clear hi)))
      go_ret3
      exact ⟨erf, bb HB⟩
     ·replace c15 := Bool.eq_false_iff.mpr c15
      subst c15
      replace H := iff_ H
      replace H := Option.bind_eq_some_iff.mp H
      obtain ⟨t130, A170, H⟩ := H
      replace H : (if t130 ≥ 0 then (some (4, 1, 0)) else (some (0, 0, 2))) = some (r1, r2, r3) := H
      have A17 := Aside0.mk A170
      clear A170
      by_cases c18 : t130 ≥ 0
      ·rw [if_pos c18] at H
       have c18b0 : decide (0 ≤ t130) = true := decide_eq_true c18
       clear c18
       simp only [Option.some.injEq, Prod.mk.injEq] at H
       obtain ⟨rfl, rfl, rfl⟩ := H
       have p3 : 0 ≤ 0 := (by omega)
       have q3 : 0 < a0.size := (by have : (0 : Int) < (a0.size : Int) := odt; omega)
       have hx3 : ∀ h : 0 < a0.size, ((a0[0]'h).toNat : Int) = bt a0 0 := bt_at a0 0
       clear p3
       have qi3 : (0 < (a0.size : Int)) = True := eq_true (odt)
       replace q3 := eq_true q3
       go_enter Try.func103, Try.ntmps103
       go_wp2_with (first | ((with_reducible refine gate_callee (f := 111) rfl ?_); refine gl 14 Try.func111 #[.int .u8 (bt a0 0)] (h := ?_); (with_reducible refine (token_letter.calls (bt a0 0) false _ A4.out).mono ?_); rintro e w' ⟨rfl, ⟨nd, rfl⟩⟩; refine ⟨_, rfl, ?_⟩) | ((with_reducible refine gate_callee (f := 114) rfl ?_); refine gl 22 Try.func114 #[.int .u8 (bt a0 0)] (h := ?_); (with_reducible refine (token_digit.calls (bt a0 0) false _ A8.out).mono ?_); rintro e w' ⟨rfl, ⟨nd, rfl⟩⟩; refine ⟨_, rfl, ?_⟩) | ((with_reducible refine gate_callee (f := 116) rfl ?_); refine gl 40 Try.func116 #[.string a0] (h := ?_); (with_reducible refine (token_pair.calls k a0 false _ A14.out).mono ?_); rintro e w19 ⟨rfl, hb⟩; refine ⟨_, rfl, ?_⟩; replace HB := bstep HB hb; (try clear hb); (try clear hb2); (try clear hk); (try clear hi)) | ((with_reducible refine gate_callee (f := 117) rfl ?_); refine gl 43 Try.func117 #[.string (⟨#[123, 125, 40, 41, 91, 93, 44, 59, 58, 61, 43, 45, 42, 60, 62, 33, 38, 124, 46, 63]⟩ : ByteArray), .int .u8 (bt a0 0)] (h := ?_); (with_reducible refine (strings_IndexByte.calls (⟨#[123, 125, 40, 41, 91, 93, 44, 59, 58, 61, 43, 45, 42, 60, 62, 33, 38, 124, 46, 63]⟩ : ByteArray) (bt a0 0) t130 _ A17.out).mono ?_); rintro e w' ⟨rfl, ⟨nd, rfl⟩⟩; refine ⟨_, rfl, ?_⟩))
       go_ret3
       exact ⟨erf, bb HB⟩
      ·rw [if_neg c18] at H
       have c18b0 : decide (0 ≤ t130) = false := decide_eq_false c18
       clear c18
       simp only [Option.some.injEq, Prod.mk.injEq] at H
       obtain ⟨rfl, rfl, rfl⟩ := H
       have p3 : 0 ≤ 0 := (by omega)
       have q3 : 0 < a0.size := (by have : (0 : Int) < (a0.size : Int) := odt; omega)
       have hx3 : ∀ h : 0 < a0.size, ((a0[0]'h).toNat : Int) = bt a0 0 := bt_at a0 0
       clear p3
       have qi3 : (0 < (a0.size : Int)) = True := eq_true (odt)
       replace q3 := eq_true q3
       go_enter Try.func103, Try.ntmps103
       go_wp2_with (first | ((with_reducible refine gate_callee (f := 111) rfl ?_); refine gl 14 Try.func111 #[.int .u8 (bt a0 0)] (h := ?_); (with_reducible refine (token_letter.calls (bt a0 0) false _ A4.out).mono ?_); rintro e w' ⟨rfl, ⟨nd, rfl⟩⟩; refine ⟨_, rfl, ?_⟩) | ((with_reducible refine gate_callee (f := 114) rfl ?_); refine gl 22 Try.func114 #[.int .u8 (bt a0 0)] (h := ?_); (with_reducible refine (token_digit.calls (bt a0 0) false _ A8.out).mono ?_); rintro e w' ⟨rfl, ⟨nd, rfl⟩⟩; refine ⟨_, rfl, ?_⟩) | ((with_reducible refine gate_callee (f := 116) rfl ?_); refine gl 40 Try.func116 #[.string a0] (h := ?_); (with_reducible refine (token_pair.calls k a0 false _ A14.out).mono ?_); rintro e w20 ⟨rfl, hb⟩; refine ⟨_, rfl, ?_⟩; replace HB := bstep HB hb; (try clear hb); (try clear hb2); (try clear hk); (try clear hi)) | ((with_reducible refine gate_callee (f := 117) rfl ?_); refine gl 43 Try.func117 #[.string (⟨#[123, 125, 40, 41, 91, 93, 44, 59, 58, 61, 43, 45, 42, 60, 62, 33, 38, 124, 46, 63]⟩ : ByteArray), .int .u8 (bt a0 0)] (h := ?_); (with_reducible refine (strings_IndexByte.calls (⟨#[123, 125, 40, 41, 91, 93, 44, 59, 58, 61, 43, 45, 42, 60, 62, 33, 38, 124, 46, 63]⟩ : ByteArray) (bt a0 0) t130 _ A17.out).mono ?_); rintro e w' ⟨rfl, ⟨nd, rfl⟩⟩; refine ⟨_, rfl, ?_⟩))
       go_ret3
       exact ⟨erf, bb HB⟩
 ·rw [if_neg c2] at H
  exact absurd H (by simp)
def token_whole.f (k : Nat) (a0_0 : Int) (a0_1 : ByteArray) (a0_2 : Int) : Option (ByteArray × Bool) := if a0_0 = 3 then (none) else (if a0_1.toList = ([] : List UInt8) then (some ((⟨#[]⟩ : ByteArray), false)) else ((token_next.f k a0_1).bind fun bt132 => (if bt132.2.2 = 0 then (if bt132.1 = a0_0 then (some (a0_1, (bt132.2.1 == (a0_1.size : Int)))) else (some (a0_1, false))) else (some (a0_1, false)))))
theorem token_whole.mono : ∀ a0 a1 a2 k, LeO (token_whole.f k a0 a1 a2) (token_whole.f (k + 1) a0 a1 a2) := by
 intro a0 a1 a2 k
 unfold token_whole.f
 repeat' first
   | (with_reducible exact token_next.mono _ _)
   | (with_reducible exact LeO.refl _)
   | (with_reducible exact LeO.none _)
   | (with_reducible refine LeO.ite ?_ ?_)
   | (with_reducible refine LeO.bind ?_ (fun _ => ?_))
   | exact token_next.mono _ _
   | exact LeO.none _
   | refine LeO.ite ?_ ?_
   | refine LeO.bind ?_ (fun _ => ?_)
set_option maxHeartbeats 8000000 in
set_option maxRecDepth 100000 in
theorem token_whole.calls (k : Nat) (a0_0 : Int) (a0_1 : ByteArray) (a0_2 : Int) (r1 : ByteArray) (r2 : Bool) (w : World) (h : token_whole.f k a0_0 a0_1 a0_2 = some (r1, r2)) :
  Calls Try.prog 83 #[.agg #[.int .i64 a0_0, .string a0_1, .int .i64 a0_2]] w fun e w' => e = .returned (.tuple #[.string r1, .bool r2]) ∧ Below w.heap.size w w' := by
 have hu119 := Try.underlying119
 have HB := Aside0.mk (Below.refl w.heap.size w)
 have H : (if a0_0 = 3 then (none) else (if a0_1.toList = ([] : List UInt8) then (some ((⟨#[]⟩ : ByteArray), false)) else ((token_next.f k a0_1).bind fun bt132 => (if bt132.2.2 = 0 then (if bt132.1 = a0_0 then (some (a0_1, (bt132.2.1 == (a0_1.size : Int)))) else (some (a0_1, false))) else (some (a0_1, false)))))) = some (r1, r2) := h
 clear h
 by_cases c2 : a0_0 = 3
 ·rw [if_pos c2] at H
  exact absurd H (by simp)
 ·rw [if_neg c2] at H
  have c2b0 : (a0_0 == 3) = false := beq_eq_false_iff_ne.mpr c2
  have c2b1 : (a0_0 != 3) = true := bne_iff_ne.mpr c2
  by_cases c3 : a0_1.toList = ([] : List UInt8)
  ·rw [if_pos c3] at H
   have c3b0 : (a0_1.toList == ([] : List UInt8)) = true := beq_iff_eq.mpr c3
   have c3b1 : (a0_1.toList != ([] : List UInt8)) = false := bne_eq_false_iff_eq.mpr c3
   clear c3
   simp only [Option.some.injEq, Prod.mk.injEq] at H
   obtain ⟨rfl, rfl⟩ := H
   go_enter Try.func83, Try.ntmps83
   go_wp2_with (first | ((with_reducible refine gate_dst (N := 1) rfl ?_); (try (refine gate_guard (by rfl) ?_; dsimp only)); refine box_event ?hg (N := 1) ?hd (cs := #[.int .i64 a0_0, .string a0_1, .int .i64 a0_2]) (t := 119) ?hr ?_; (case hd => rfl); (case hg => rfl); (case hr => first | (go_simp; done) | (go_simp; rfl)); intro gb131 hg w4 hbox hb; have BK131 := Aside0.mk (hbox); have GW131 := bsz HB hg; have GE131 := bsz HB hg; replace HB := bstep HB hb; clear hb hbox hg; obtain ⟨hcz5_0, hcz5_1, hcz5_2, hfz5_0, hfz5_1, hfz5_2⟩ := cz3 BK131))
   go_ret2
   exact ⟨erf, bb HB⟩
  ·rw [if_neg c3] at H
   have c3b0 : (a0_1.toList == ([] : List UInt8)) = false := beq_eq_false_iff_ne.mpr c3
   have c3b1 : (a0_1.toList != ([] : List UInt8)) = true := bne_iff_ne.mpr c3
   replace H := Option.bind_eq_some_iff.mp H
   obtain ⟨⟨t132, t133, t134⟩, A60, H⟩ := H
   replace H : (if t134 = 0 then (if t132 = a0_0 then (some (a0_1, (t133 == (a0_1.size : Int)))) else (some (a0_1, false))) else (some (a0_1, false))) = some (r1, r2) := H
   have A6 := Aside0.mk A60
   clear A60
   by_cases c7 : t134 = 0
   ·rw [if_pos c7] at H
    have c7b0 : (t134 == 0) = true := beq_iff_eq.mpr c7
    have c7b1 : (t134 != 0) = false := bne_eq_false_iff_eq.mpr c7
    clear c7
    by_cases c8 : t132 = a0_0
    ·rw [if_pos c8] at H
     have c8b0 : (t132 == a0_0) = true := beq_iff_eq.mpr c8
     have c8b1 : (t132 != a0_0) = false := bne_eq_false_iff_eq.mpr c8
     clear c8
     simp only [Option.some.injEq, Prod.mk.injEq] at H
     obtain ⟨rfl, rfl⟩ := H
     go_enter Try.func83, Try.ntmps83
     go_wp2_with (first | ((with_reducible refine gate_dst (N := 1) rfl ?_); (try (refine gate_guard (by rfl) ?_; dsimp only)); refine box_event ?hg (N := 1) ?hd (cs := #[.int .i64 a0_0, .string a0_1, .int .i64 a0_2]) (t := 119) ?hr ?_; (case hd => rfl); (case hg => rfl); (case hr => first | (go_simp; done) | (go_simp; rfl)); intro gb131 hg w9 hbox hb; have BK131 := Aside0.mk (hbox); have GW131 := bsz HB hg; have GE131 := bsz HB hg; replace HB := bstep HB hb; clear hb hbox hg; obtain ⟨hcz10_0, hcz10_1, hcz10_2, hfz10_0, hfz10_1, hfz10_2⟩ := cz3 BK131) | ((with_reducible refine gate_callee (f := 103) rfl ?_); refine gl 20 Try.func103 #[.string a0_1] (h := ?_); (with_reducible refine (token_next.calls k a0_1 t132 t133 t134 _ A6.out).mono ?_); rintro e w11 ⟨rfl, hb⟩; refine ⟨_, rfl, ?_⟩; replace BK131 := bkb BK131 hb; replace HB := bstep HB hb; (try clear hb); (try clear hb2); (try clear hk); (try clear hi); obtain ⟨hcz12_0, hcz12_1, hcz12_2, hfz12_0, hfz12_1, hfz12_2⟩ := cz3 BK131))
     go_ret2
     exact ⟨erf, bb HB⟩
    ·rw [if_neg c8] at H
     have c8b0 : (t132 == a0_0) = false := beq_eq_false_iff_ne.mpr c8
     have c8b1 : (t132 != a0_0) = true := bne_iff_ne.mpr c8
     simp only [Option.some.injEq, Prod.mk.injEq] at H
     obtain ⟨rfl, rfl⟩ := H
     go_enter Try.func83, Try.ntmps83
     go_wp2_with (first | ((with_reducible refine gate_dst (N := 1) rfl ?_); (try (refine gate_guard (by rfl) ?_; dsimp only)); refine box_event ?hg (N := 1) ?hd (cs := #[.int .i64 a0_0, .string a0_1, .int .i64 a0_2]) (t := 119) ?hr ?_; (case hd => rfl); (case hg => rfl); (case hr => first | (go_simp; done) | (go_simp; rfl)); intro gb131 hg w13 hbox hb; have BK131 := Aside0.mk (hbox); have GW131 := bsz HB hg; have GE131 := bsz HB hg; replace HB := bstep HB hb; clear hb hbox hg; obtain ⟨hcz14_0, hcz14_1, hcz14_2, hfz14_0, hfz14_1, hfz14_2⟩ := cz3 BK131) | ((with_reducible refine gate_callee (f := 103) rfl ?_); refine gl 20 Try.func103 #[.string a0_1] (h := ?_); (with_reducible refine (token_next.calls k a0_1 t132 t133 t134 _ A6.out).mono ?_); rintro e w15 ⟨rfl, hb⟩; refine ⟨_, rfl, ?_⟩; replace BK131 := bkb BK131 hb; replace HB := bstep HB hb; (try clear hb); (try clear hb2); (try clear hk); (try clear hi); obtain ⟨hcz16_0, hcz16_1, hcz16_2, hfz16_0, hfz16_1, hfz16_2⟩ := cz3 BK131))
     go_ret2
     exact ⟨erf, bb HB⟩
   ·rw [if_neg c7] at H
    have c7b0 : (t134 == 0) = false := beq_eq_false_iff_ne.mpr c7
    have c7b1 : (t134 != 0) = true := bne_iff_ne.mpr c7
    simp only [Option.some.injEq, Prod.mk.injEq] at H
    obtain ⟨rfl, rfl⟩ := H
    go_enter Try.func83, Try.ntmps83
    go_wp2_with (first | ((with_reducible refine gate_dst (N := 1) rfl ?_); (try (refine gate_guard (by rfl) ?_; dsimp only)); refine box_event ?hg (N := 1) ?hd (cs := #[.int .i64 a0_0, .string a0_1, .int .i64 a0_2]) (t := 119) ?hr ?_; (case hd => rfl); (case hg => rfl); (case hr => first | (go_simp; done) | (go_simp; rfl)); intro gb131 hg w17 hbox hb; have BK131 := Aside0.mk (hbox); have GW131 := bsz HB hg; have GE131 := bsz HB hg; replace HB := bstep HB hb; clear hb hbox hg; obtain ⟨hcz18_0, hcz18_1, hcz18_2, hfz18_0, hfz18_1, hfz18_2⟩ := cz3 BK131) | ((with_reducible refine gate_callee (f := 103) rfl ?_); refine gl 20 Try.func103 #[.string a0_1] (h := ?_); (with_reducible refine (token_next.calls k a0_1 t132 t133 t134 _ A6.out).mono ?_); rintro e w19 ⟨rfl, hb⟩; refine ⟨_, rfl, ?_⟩; replace BK131 := bkb BK131 hb; replace HB := bstep HB hb; (try clear hb); (try clear hb2); (try clear hk); (try clear hi)))
    go_ret2
    exact ⟨erf, bb HB⟩
def token_IsName.f (k : Nat) (a0 : ByteArray) : Option (Bool) := (token_whole.f k 1 a0 0).bind fun bt135 => (some bt135.2)
theorem token_IsName.mono : ∀ a0 k, LeO (token_IsName.f k a0) (token_IsName.f (k + 1) a0) := by
 intro a0 k
 unfold token_IsName.f
 repeat' first
   | (with_reducible exact token_whole.mono _ _ _ _)
   | (with_reducible exact LeO.refl _)
   | (with_reducible exact LeO.none _)
   | (with_reducible refine LeO.ite ?_ ?_)
   | (with_reducible refine LeO.bind ?_ (fun _ => ?_))
   | exact token_whole.mono _ _ _ _
   | exact LeO.none _
   | refine LeO.ite ?_ ?_
   | refine LeO.bind ?_ (fun _ => ?_)
set_option maxHeartbeats 8000000 in
set_option maxRecDepth 100000 in
theorem token_IsName.calls (k : Nat) (a0 : ByteArray) (r : Bool) (w : World) (h : token_IsName.f k a0 = some r) :
  Calls Try.prog 59 #[.string a0] w fun e w' => e = .returned (.bool r) ∧ Below w.heap.size w w' := by
 have hu119 := Try.underlying119
 have HB := Aside0.mk (Below.refl w.heap.size w)
 have H : ((token_whole.f k 1 a0 0).bind fun bt135 => (some bt135.2)) = some r := h
 clear h
 replace H := Option.bind_eq_some_iff.mp H
 obtain ⟨⟨t135, t136⟩, A20, H⟩ := H
 replace H : (some t136) = some r := H
 have A2 := Aside0.mk A20
 clear A20
 obtain rfl := Option.some.inj H
 go_enter Try.func59, Try.ntmps59
 go_wp2_with (first | ((with_reducible refine gate_callee (f := 83) rfl ?_); refine gl 8 Try.func83 #[.agg #[.int .i64 1, .string a0, .int .i64 0]] (h := ?_); (with_reducible refine (token_whole.calls k 1 a0 0 t135 t136 _ A2.out).mono ?_); rintro e w3 ⟨rfl, hb⟩; refine ⟨_, rfl, ?_⟩; replace HB := bstep HB hb; (try clear hb); (try clear hb2); (try clear hk); (try clear hi)))
 go_ret
 exact ⟨erf, bb HB⟩
def types_names.l0 : Nat → List ByteArray → List ByteArray → Int → Int → Option (Int)
 | 0, _, _, _, _ => none
 | k + 1, x0, x8, x9, x10 => if x10 < x9 then (if 0 ≤ x10 then (if x10 < (x8.length : Int) then ((token_IsName.f k (rdOf ByteArray.empty x8 x10)).bind fun t138 => (if t138 = true then (if x10 ≤ (x0.length : Int) then ((slices_Contains_string_string.f k (x0.take (x10 : Int).toNat) (rdOf ByteArray.empty x8 x10)).bind fun t140 => (if t140 = true then (some 5) else (types_names.l0 k x0 x8 x9 (wrap64 (x10 + 1))))) else (none)) else (some 2))) else (none)) else (none)) else (some 0)
def types_names.f (k : Nat) (l0 : List ByteArray) : Option (Int) := if (l0.length : Int) > 20 then (some 3) else (types_names.l0 k l0 l0 (l0.length : Int) 0)
theorem types_names.mono_l : ∀ k, (∀ y0 y1 y2 y3, LeO (types_names.l0 k y0 y1 y2 y3) (types_names.l0 (k + 1) y0 y1 y2 y3))
 | 0 => fun _ _ _ _ r h => by simp [types_names.l0] at h
 | k + 1 => by
  have ih0 := types_names.mono_l k
  ·intro y0 y1 y2 y3
   unfold types_names.l0
   repeat' first
   | (with_reducible exact ih0 _ _ _ _)
   | (with_reducible exact slices_Contains_string_string.mono _ _ _)
   | (with_reducible exact token_IsName.mono _ _)
   | (with_reducible exact LeO.refl _)
   | (with_reducible exact LeO.none _)
   | (with_reducible refine LeO.ite ?_ ?_)
   | (with_reducible refine LeO.bind ?_ (fun _ => ?_))
   | exact ih0 _ _ _ _
   | exact slices_Contains_string_string.mono _ _ _
   | exact token_IsName.mono _ _
   | exact LeO.none _
   | refine LeO.ite ?_ ?_
   | refine LeO.bind ?_ (fun _ => ?_)
theorem types_names.mono : ∀ a0 k, LeO (types_names.f k a0) (types_names.f (k + 1) a0) := by
 intro a0 k
 have ih0 := types_names.mono_l k
 unfold types_names.f
 repeat' first
   | (with_reducible exact ih0 _ _ _ _)
   | (with_reducible exact slices_Contains_string_string.mono _ _ _)
   | (with_reducible exact token_IsName.mono _ _)
   | (with_reducible exact LeO.refl _)
   | (with_reducible exact LeO.none _)
   | (with_reducible refine LeO.ite ?_ ?_)
   | (with_reducible refine LeO.bind ?_ (fun _ => ?_))
   | exact ih0 _ _ _ _
   | exact slices_Contains_string_string.mono _ _ _
   | exact token_IsName.mono _ _
   | exact LeO.none _
   | refine LeO.ite ?_ ?_
   | refine LeO.bind ?_ (fun _ => ?_)
set_option maxHeartbeats 8000000 in
set_option maxRecDepth 100000 in
theorem types_names.calls (k : Nat) (A0 : Option Addr) (c0 : Nat) (l0 : List ByteArray) (r : Int) (w : World) (hr0 : Kd.C Kd.string w A0 l0.length l0) (hc0 : l0.length ≤ c0) (h : types_names.f k l0 = some r) :
  Calls Try.prog 87 #[.slice A0 l0.length c0] w fun e w' => e = .returned (.int .i64 r) ∧ Below w.heap.size w w' := by
 have HR0 := Aside0.mk hr0
 have HC0 := Aside0.mk hc0
 clear hr0 hc0
 have HB := Aside0.mk (Below.refl w.heap.size w)
 have H : (if (l0.length : Int) > 20 then (some 3) else (types_names.l0 k l0 l0 (l0.length : Int) 0)) = some r := h
 clear h
 by_cases c2 : (l0.length : Int) > 20
 ·rw [if_pos c2] at H
  have c2b0 : decide (20 < (l0.length : Int)) = true := decide_eq_true c2
  have c2b1 : decide (20 < l0.length) = true := decide_eq_true (by omega)
  clear c2
  obtain rfl := Option.some.inj H
  go_enter Try.func87, Try.ntmps87
  go_wp2
  go_ret
  exact ⟨erf, bb HB⟩
 ·rw [if_neg c2] at H
  have c2b0 : decide (20 < (l0.length : Int)) = false := decide_eq_false c2
  have c2b1 : decide (20 < l0.length) = false := decide_eq_false (by omega)
  clear c2
  have H' := Aside0.mk H
  clear H
  go_enter Try.func87, Try.ntmps87
  go_wp2
  go_loopg [10] k (fun kq v10 w' => ∃ (x10_1 : Int), v10 = .int .i64 x10_1 ∧ Aside0 (types_names.l0 kq l0 l0 (l0.length : Int) x10_1 = some r) ∧ Aside0 (kq ≤ k) ∧ Aside0 (Below w.heap.size w w'))
  case atStart => exact ⟨(0), eqs, H', ⟨Nat.le_refl _⟩, ⟨bb HB⟩⟩
  case round =>
   clear H'
   try clear c2
   try clear c2b0
   try clear c2b1
   try clear p2
   obtain ⟨x10_1, rfl, HA, HK1, HB⟩ := hrel
   cases gk with
   | zero => exact absurd HA.out (by simp [types_names.l0])
   | succ k1 =>
    have H := HA.out
    clear HA
    simp only [types_names.l0] at H
    by_cases c3 : x10_1 < (l0.length : Int)
    ·rw [if_pos c3] at H
     have c3b0 : decide (x10_1 < (l0.length : Int)) = true := decide_eq_true c3
     clear c3
     by_cases c4 : 0 ≤ x10_1
     ·rw [if_pos c4] at H
      have c4b0 : decide (0 ≤ x10_1) = true := decide_eq_true c4
      clear c4
      by_cases c5 : x10_1 < (l0.length : Int)
      ·rw [if_pos c5] at H
       have c5b0 : decide (x10_1 < (l0.length : Int)) = true := decide_eq_true c5
       clear c5
       replace H := Option.bind_eq_some_iff.mp H
       obtain ⟨t138, A60, H⟩ := H
       replace H : (if t138 = true then (if x10_1 ≤ (l0.length : Int) then ((slices_Contains_string_string.f k1 (l0.take (x10_1 : Int).toNat) (rdOf ByteArray.empty l0 x10_1)).bind fun t140 => (if t140 = true then (some 5) else (types_names.l0 k1 l0 l0 (l0.length : Int) (wrap64 (x10_1 + 1))))) else (none)) else (some 2)) = some r := H
       have A6 := Aside0.mk A60
       clear A60
       by_cases c7 : t138 = true
       ·subst c7
        replace H := ift H
        have c8b0 := eq_true (odt : 0 ≤ x10_1)
        by_cases c9 : x10_1 ≤ (l0.length : Int)
        ·rw [if_pos c9] at H
         have c9b0 := eq_true c9
         have c9b1 : decide (x10_1 ≤ (l0.length : Int)) = true := decide_eq_true c9
         clear c9
         replace H := Option.bind_eq_some_iff.mp H
         obtain ⟨t140, A100, H⟩ := H
         replace H : (if t140 = true then (some 5) else (types_names.l0 k1 l0 l0 (l0.length : Int) (wrap64 (x10_1 + 1)))) = some r := H
         have A10 := Aside0.mk A100
         clear A100
         by_cases c11 : t140 = true
         ·subst c11
          replace H := ift H
          obtain rfl := Option.some.inj H
          have p137 : 0 ≤ x10_1 := odt
          have q137 : x10_1 < (l0.length : Int) := odt
          obtain ⟨ad137, e137, hx137_0⟩ := Kd.at_string HR0.out x10_1 p137 q137
          cases e137
          replace hx137_0 := hxc HB hx137_0
          replace p137 := eq_true p137
          replace q137 := eq_true q137
          go_wp2_with (first | ((with_reducible refine gate_callee (f := 59) rfl ?_); refine gl 17 Try.func59 #[.string (rdOf ByteArray.empty l0 x10_1)] (h := ?_); (with_reducible refine (token_IsName.calls k1 (rdOf ByteArray.empty l0 x10_1) true _ A6.out).mono ?_); rintro e w12 ⟨rfl, hb⟩; refine ⟨_, rfl, ?_⟩; replace HB := bstep HB hb; (try clear hb); (try clear hb2); (try clear hk); (try clear hi); obtain ⟨i013, hi013, _, hsz13, _⟩ := info_parts info9; obtain ⟨hcut13, hA13, hC13⟩ := print_take_of (P := Try.prog) Value.string (⟨#[]⟩ : ByteArray) 75 9 .i64 Try.underlying75 hi013 hsz13 (some ad137) c0 l0 x10_1 (odt) (odt) HC0.out; have HR139 := Aside0.mk (Kd.C_of_reads (h1 := fun _ => rfl) (hA13 _ (Kd.reads_of_C HR0.out))); have HC139 := Aside0.mk hC13; clear hA13 hC13 hi013 hsz13) | ((with_reducible refine gate_callee (f := 105) rfl ?_); refine goesL_ (some 24) rfl rfl Try.func105 (by kernel_rfl) rfl #[.slice (some ad137) (l0.take (x10_1 : Int).toNat).length c0, .string (rdOf ByteArray.empty l0 x10_1)] rfl (by (try simp only [List.map_toArray, List.map_cons, List.map_nil]); first | done | (rw [show (l0.take (x10_1 : Int).toNat).length = x10_1.toNat from (by rw [List.length_take]; have h_ : (x10_1 : Int) ≤ (l0.length : Int) := odt; omega)] <;> rfl) | rfl | (simp only [List.length_drop, List.length_take]; rfl)) ?_; (with_reducible refine (slices_Contains_string_string.calls k1 _ _ (l0.take (x10_1 : Int).toNat) (rdOf ByteArray.empty l0 x10_1) true _ ?side1 ?side2 A10.out).mono ?_); (case side1 => exact cb HR139 HB); (case side2 => exact HC139.out); rintro e w' ⟨rfl, ⟨nd, rfl⟩⟩; refine ⟨_, rfl, ?_⟩))
          go_ret
          exact ⟨erf, bb HB⟩
         ·replace c11 := Bool.eq_false_iff.mpr c11
          subst c11
          replace H := iff_ H
          have H' := Aside0.mk H
          clear H
          have p137 : 0 ≤ x10_1 := odt
          have q137 : x10_1 < (l0.length : Int) := odt
          obtain ⟨ad137, e137, hx137_0⟩ := Kd.at_string HR0.out x10_1 p137 q137
          cases e137
          replace hx137_0 := hxc HB hx137_0
          replace p137 := eq_true p137
          replace q137 := eq_true q137
          go_wp2_with (first | ((with_reducible refine gate_callee (f := 59) rfl ?_); refine gl 17 Try.func59 #[.string (rdOf ByteArray.empty l0 x10_1)] (h := ?_); (with_reducible refine (token_IsName.calls k1 (rdOf ByteArray.empty l0 x10_1) true _ A6.out).mono ?_); rintro e w14 ⟨rfl, hb⟩; refine ⟨_, rfl, ?_⟩; replace HB := bstep HB hb; (try clear hb); (try clear hb2); (try clear hk); (try clear hi); obtain ⟨i015, hi015, _, hsz15, _⟩ := info_parts info9; obtain ⟨hcut15, hA15, hC15⟩ := print_take_of (P := Try.prog) Value.string (⟨#[]⟩ : ByteArray) 75 9 .i64 Try.underlying75 hi015 hsz15 (some ad137) c0 l0 x10_1 (odt) (odt) HC0.out; have HR139 := Aside0.mk (Kd.C_of_reads (h1 := fun _ => rfl) (hA15 _ (Kd.reads_of_C HR0.out))); have HC139 := Aside0.mk hC15; clear hA15 hC15 hi015 hsz15) | ((with_reducible refine gate_callee (f := 105) rfl ?_); refine goesL_ (some 24) rfl rfl Try.func105 (by kernel_rfl) rfl #[.slice (some ad137) (l0.take (x10_1 : Int).toNat).length c0, .string (rdOf ByteArray.empty l0 x10_1)] rfl (by (try simp only [List.map_toArray, List.map_cons, List.map_nil]); first | done | (rw [show (l0.take (x10_1 : Int).toNat).length = x10_1.toNat from (by rw [List.length_take]; have h_ : (x10_1 : Int) ≤ (l0.length : Int) := odt; omega)] <;> rfl) | rfl | (simp only [List.length_drop, List.length_take]; rfl)) ?_; (with_reducible refine (slices_Contains_string_string.calls k1 _ _ (l0.take (x10_1 : Int).toNat) (rdOf ByteArray.empty l0 x10_1) false _ ?side1 ?side2 A10.out).mono ?_); (case side1 => exact cb HR139 HB); (case side2 => exact HC139.out); rintro e w' ⟨rfl, ⟨nd, rfl⟩⟩; refine ⟨_, rfl, ?_⟩))
          go_roundg k1
          case measure => have := HK1.out; omega
          case rel => exact ⟨(wrap64 (x10_1 + 1)), eqs, H', ⟨by have := HK1.out; omega⟩, ⟨bb HB⟩⟩
        ·rw [if_neg c9] at H
         exact absurd H (by simp)
       ·replace c7 := Bool.eq_false_iff.mpr c7
        subst c7
        replace H := iff_ H
        obtain rfl := Option.some.inj H
        have p137 : 0 ≤ x10_1 := odt
        have q137 : x10_1 < (l0.length : Int) := odt
        obtain ⟨ad137, e137, hx137_0⟩ := Kd.at_string HR0.out x10_1 p137 q137
        cases e137
        replace hx137_0 := hxc HB hx137_0
        replace p137 := eq_true p137
        replace q137 := eq_true q137
        go_wp2_with (first | ((with_reducible refine gate_callee (f := 59) rfl ?_); refine gl 17 Try.func59 #[.string (rdOf ByteArray.empty l0 x10_1)] (h := ?_); (with_reducible refine (token_IsName.calls k1 (rdOf ByteArray.empty l0 x10_1) false _ A6.out).mono ?_); rintro e w16 ⟨rfl, hb⟩; refine ⟨_, rfl, ?_⟩; replace HB := bstep HB hb; (try clear hb); (try clear hb2); (try clear hk); (try clear hi)))
        go_ret
        exact ⟨erf, bb HB⟩
      ·rw [if_neg c5] at H
       exact absurd H (by simp)
     ·rw [if_neg c4] at H
      exact absurd H (by simp)
    ·rw [if_neg c3] at H
     have c3b0 : decide (x10_1 < (l0.length : Int)) = false := decide_eq_false c3
     clear c3
     obtain rfl := Option.some.inj H
     go_wp2
     go_ret
     exact ⟨erf, bb HB⟩
end Go.Proofs.Ytfpianecohobjaa.P
