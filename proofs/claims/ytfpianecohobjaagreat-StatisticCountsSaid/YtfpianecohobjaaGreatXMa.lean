/- StatisticOf: a part of its proof. No condition. -/
import Derived.Test.YtfpianecohobjaaGreatXPx0
namespace Go.Proofs.YtfpianecohobjaaGreat.P
open Go.RowKit Go.Proofs.YtfpianecohobjaaGreatW.PrintWords Go.Proofs.YtfpianecohobjaaGreatW.PrintLast Go.Proofs.YtfpianecohobjaaGreatW.PrintMore
set_option maxHeartbeats 8000000
set_option maxRecDepth 100000
set_option linter.unusedVariables false
set_option linter.unusedSimpArgs false
theorem eqA75 (d : Nat) (w : World) (x0 y0 : Int) (x1 y1 : Int) (x2 y2 : Int) (x3 y3 : Int) :
  (Op.equalIn (d + 2) 75 (.agg #[.int .i64 x0, .int .i64 x1, .int .i64 x2, .int .i64 x3]) (.agg #[.int .i64 y0, .int .i64 y1, .int .i64 y2, .int .i64 y3])).run Tryz.prog w = .ok (x0 == y0 && (x1 == y1 && (x2 == y2 && (x3 == y3)))) w := by
 refine eqA_of Tryz.underlying75 (by kernel_rfl) ?_
 refine eqf_cons (by rfl) (by go_simp; rfl) (by go_simp; rfl) (by go_simp) ?_
 refine eqf_cons (by rfl) (by go_simp; rfl) (by go_simp; rfl) (by go_simp) ?_
 refine eqf_cons (by rfl) (by go_simp; rfl) (by go_simp; rfl) (by go_simp) ?_
 exact eqf_last (by rfl) (by go_simp; rfl) (by go_simp; rfl) (by go_simp)
def graph_within.f (a0 : Int) (a1 : Int) : Option (Bool) := if a0 ≥ 0 then (some (decide (a0 ≤ a1))) else (some false)
theorem graph_within.calls (a0 : Int) (a1 : Int) (r : Bool) (w : World) (h : graph_within.f a0 a1 = some r) :
  Calls Tryz.prog 43 #[.int .i64 a0, .int .i64 a1] w fun e w' => e = .returned (.bool r) ∧ Drawn0 w w' := by
 have H : (if a0 ≥ 0 then (some (decide (a0 ≤ a1))) else (some false)) = some r := h
 clear h
 by_cases c3 : a0 ≥ 0
 ·rw [if_pos c3] at H
  have a2 : decide (0 ≤ a0) = true := decide_eq_true c3
  clear c3
  obtain rfl := Option.some.inj H
  go_enter Tryz.func43, Tryz.ntmps43
  go_wp2
  go_ret
  exact ⟨by first | rfl | (simp; done) | (simp [*]; done), drw⟩
 rw [if_neg c3] at H
 have a2 : decide (0 ≤ a0) = false := decide_eq_false c3
 clear c3
 obtain rfl := Option.some.inj H
 go_enter Tryz.func43, Tryz.ntmps43
 go_wp2
 go_ret
 exact ⟨by first | rfl | (simp; done) | (simp [*]; done), drw⟩
def graph_fits.f (a0 : Int) (a2 : Int) (a3 : Int) (a1 : Int) : Option (Bool) := (graph_within.f a0 99).bind fun a7 => (if a7 = true then ((graph_within.f a2 (wrap64 (a1 - 1))).bind fun a6 => (if a6 = true then ((graph_within.f a3 (wrap64 (a1 - 1))).bind fun a5 => (some a5)) else (some false))) else (some false))
theorem graph_fits.calls (a0 : Int) (a2 : Int) (a3 : Int) (a1 : Int) (r : Bool) (w : World) (h : graph_fits.f a0 a2 a3 a1 = some r) :
  Calls Tryz.prog 52 #[.agg #[.int .i64 a0, .int .i64 a2, .int .i64 a3], .int .i64 a1] w fun e w' => e = .returned (.bool r) ∧ Below w.heap.size w w' := by
 have hu56 := Tryz.underlying56
 have HB := am (Below.refl w.heap.size w)
 have H : ((graph_within.f a0 99).bind fun a7 => (if a7 = true then ((graph_within.f a2 (wrap64 (a1 - 1))).bind fun a6 => (if a6 = true then ((graph_within.f a3 (wrap64 (a1 - 1))).bind fun a5 => (some a5)) else (some false))) else (some false))) = some r := h
 clear h
 obtain ⟨a7, A3, H⟩ := obA H
 by_cases c4 : a7 = true
 rotate_left
 ·replace c4 := Bool.eq_false_iff.mpr c4
  subst c4
  replace H := iff_ H
  obtain rfl := Option.some.inj H
  go_enter Tryz.func52, Tryz.ntmps52
  go_wp2_with (first | ((with_reducible refine gate_dst (N := 2) rfl ?_); refine be 2 #[.int .i64 a0, .int .i64 a2, .int .i64 a3] 56 ?_; intro a8 hg d0 hbox hb; have a4 := am (hbox); have a9 := bsz HB hg; replace HB := bstep HB hb; clear hb hbox hg; obtain ⟨b8, b7, b6, b2, b1, b0⟩ := cz3 a4) | ((with_reducible refine gate_callee (f := 43) rfl ?_); refine gl 7 Tryz.func43 #[.int .i64 a0, .int .i64 99] (h := ?_); (with_reducible refine (graph_within.calls a0 99 false _ A3.out).mono ?_); rintro e w' ⟨rfl, ⟨nd, rfl⟩⟩; refine ⟨_, rfl, ?_⟩))
  go_ret
  exact ⟨erf, bb HB⟩
 subst c4
 replace H := ift H
 obtain ⟨a6, A5, H⟩ := obA H
 by_cases c6 : a6 = true
 rotate_left
 ·replace c6 := Bool.eq_false_iff.mpr c6
  subst c6
  replace H := iff_ H
  obtain rfl := Option.some.inj H
  go_enter Tryz.func52, Tryz.ntmps52
  go_wp2_with (first | ((with_reducible refine gate_dst (N := 2) rfl ?_); refine be 2 #[.int .i64 a0, .int .i64 a2, .int .i64 a3] 56 ?_; intro a8 hg d1 hbox hb; have a4 := am (hbox); have a9 := bsz HB hg; replace HB := bstep HB hb; clear hb hbox hg; obtain ⟨c1, c0, b9, b5, b4, b3⟩ := cz3 a4) | ((with_reducible refine gate_callee (f := 43) rfl ?_); refine gl 7 Tryz.func43 #[.int .i64 a0, .int .i64 99] (h := ?_); (with_reducible refine (graph_within.calls a0 99 true _ A3.out).mono ?_); rintro e w' ⟨rfl, ⟨nd, rfl⟩⟩; refine ⟨_, rfl, ?_⟩) | (go_at_call 43; (with_reducible refine (graph_within.calls a2 (wrap64 (a1 - 1)) false _ A5.out).mono ?_); rintro e w' ⟨rfl, ⟨nd, rfl⟩⟩))
  go_ret
  exact ⟨erf, bb HB⟩
 subst c6
 replace H := ift H
 obtain ⟨a5, A7, H⟩ := obA H
 obtain rfl := Option.some.inj H
 go_enter Tryz.func52, Tryz.ntmps52
 go_wp2_with (first | ((with_reducible refine gate_dst (N := 2) rfl ?_); refine be 2 #[.int .i64 a0, .int .i64 a2, .int .i64 a3] 56 ?_; intro a8 hg w8 hbox hb; have a4 := am (hbox); have a9 := bsz HB hg; replace HB := bstep HB hb; clear hb hbox hg; obtain ⟨c9, c8, c7, c5, c3, c2⟩ := cz3 a4) | ((with_reducible refine gate_callee (f := 43) rfl ?_); refine gl 7 Tryz.func43 #[.int .i64 a0, .int .i64 99] (h := ?_); (with_reducible refine (graph_within.calls a0 99 true _ A3.out).mono ?_); rintro e w' ⟨rfl, ⟨nd, rfl⟩⟩; refine ⟨_, rfl, ?_⟩) | (go_at_call 43; (with_reducible refine (graph_within.calls a2 (wrap64 (a1 - 1)) true _ A5.out).mono ?_); rintro e w' ⟨rfl, ⟨nd, rfl⟩⟩) | (go_at_call 43; (with_reducible refine (graph_within.calls a3 (wrap64 (a1 - 1)) a5 _ A7.out).mono ?_); rintro e w' ⟨rfl, ⟨nd, rfl⟩⟩))
 go_ret
 exact ⟨erf, bb HB⟩
def slices_Index_int_int.l0 : Nat → List Int → Int → Int → Int → Option (Int)
 | 0, _, _, _, _ => none
 | k + 1, x0, x1, x7, x8 => if x8 < x7 then (if 0 ≤ x8 then (if x8 < (x0.length : Int) then (if x1 = (rd x0 x8) then (some x8) else (slices_Index_int_int.l0 k x0 x1 x7 (wrap64 (x8 + 1)))) else (none)) else (none)) else (some (-1))
def slices_Index_int_int.f (k : Nat) (l0 : List Int) (a1 : Int) : Option (Int) := slices_Index_int_int.l0 k l0 a1 (l0.length : Int) 0
theorem slices_Index_int_int.mono_l : ∀ k, (∀ y0 y1 y2 y3, LeO (slices_Index_int_int.l0 k y0 y1 y2 y3) (slices_Index_int_int.l0 (k + 1) y0 y1 y2 y3))
 | 0 => fun _ _ _ _ r h => by simp [slices_Index_int_int.l0] at h
 | k + 1 => by
  have ih0 := slices_Index_int_int.mono_l k
  ·intro y0 y1 y2 y3
   unfold slices_Index_int_int.l0
   repeat' first
   | (with_reducible exact ih0 _ _ _ _)
   | (with_reducible exact LeO.refl _)
   | (with_reducible exact LeO.none _)
   | (with_reducible refine LeO.ite ?_ ?_)
   | (with_reducible refine LeO.bind ?_ (fun _ => ?_))
theorem slices_Index_int_int.mono : ∀ a0 a1 k, LeO (slices_Index_int_int.f k a0 a1) (slices_Index_int_int.f (k + 1) a0 a1) := by
 intro a0 a1 k
 have ih0 := slices_Index_int_int.mono_l k
 unfold slices_Index_int_int.f
 repeat' first
   | (with_reducible exact ih0 _ _ _ _)
   | (with_reducible exact LeO.refl _)
   | (with_reducible exact LeO.none _)
   | (with_reducible refine LeO.ite ?_ ?_)
   | (with_reducible refine LeO.bind ?_ (fun _ => ?_))
theorem slices_Index_int_int.calls (k : Nat) (A0 : Option Addr) (c0 : Nat) (l0 : List Int) (a1 : Int) (r : Int) (w : World) (e3 : Kd.C (Kd.int .i64) w A0 l0.length l0) (e4 : l0.length ≤ c0) (h : slices_Index_int_int.f k l0 a1 = some r) :
  Calls Tryz.prog 93 #[.slice A0 l0.length c0, .int .i64 a1] w fun e w' => e = .returned (.int .i64 r) ∧ Drawn0 w w' := by
 have h3 := am e3
 have m4 := am e4
 clear e3 e4
 have H : (slices_Index_int_int.l0 k l0 a1 (l0.length : Int) 0) = some r := h
 clear h
 have H' := am H
 clear H
 go_enter Tryz.func93, Tryz.ntmps93
 go_wp2
 go_loopg [8] k (fun kq v8 w' => ∃ (b0 : Int), v8 = .int .i64 b0 ∧ Aside0 (slices_Index_int_int.l0 kq l0 a1 (l0.length : Int) b0 = some r) ∧ Aside0 (kq ≤ k) ∧ Drawn0 w w')
 case atStart => exact ⟨(0), eqs, H', ⟨Nat.le_refl _⟩, drw⟩
 case round =>
  clear H'
  try clear p2
  obtain ⟨b0, rfl, HA, c9, ⟨m1, rfl⟩⟩ := hrel
  cases gk with
  | zero => exact absurd HA.out (by simp [slices_Index_int_int.l0])
  | succ k1 =>
   have H := HA.out
   clear HA
   simp only [slices_Index_int_int.l0] at H
   by_cases c3 : b0 < (l0.length : Int)
   rotate_left
   ·rw [if_neg c3] at H
    have g6 := decide_eq_false c3
    clear c3
    obtain rfl := Option.some.inj H
    go_wp2
    go_ret
    exact ⟨by first | rfl | (simp; done) | (simp [*]; done), drw⟩
   rw [if_pos c3] at H
   have g6 := decide_eq_true c3
   clear c3
   obtain ⟨c4, H⟩ := itn H
   have g5 := decide_eq_true c4
   clear c4
   obtain ⟨c5, H⟩ := itn H
   have n0 := decide_eq_true c5
   clear c5
   by_cases c6 : a1 = (rd l0 b0)
   ·rw [if_pos c6] at H
    have g4 := beq_iff_eq.mpr c6
    have m9 := bne_eq_false_iff_eq.mpr c6
    clear c6
    obtain rfl := Option.some.inj H
    have b3 : 0 ≤ b0 := odt
    have b2 : b0 < (l0.length : Int) := odt
    obtain ⟨j3, g2, h5⟩ := Kd.at_int h3.out b0 b3 b2
    cases g2
    replace b3 := eq_true b3
    replace b2 := eq_true b2
    go_wp2
    go_ret
    exact ⟨by first | rfl | (simp; done) | (simp [*]; done), drw⟩
   rw [if_neg c6] at H
   have g4 := beq_eq_false_iff_ne.mpr c6
   have m9 := bne_iff_ne.mpr c6
   have H' := am H
   clear H
   have b3 : 0 ≤ b0 := odt
   have b2 : b0 < (l0.length : Int) := odt
   obtain ⟨j3, g2, h5⟩ := Kd.at_int h3.out b0 b3 b2
   cases g2
   replace b3 := eq_true b3
   replace b2 := eq_true b2
   go_wp2
   go_roundg k1
   case measure => have := c9.out; omega
   case rel => exact ⟨(wrap64 (b0 + 1)), eqs, H', ⟨by have := c9.out; omega⟩, drw⟩
def slices_Contains_int_int.f (k : Nat) (l0 : List Int) (a1 : Int) : Option (Bool) := (slices_Index_int_int.f k l0 a1).bind fun d0 => (some (decide (d0 ≥ 0)))
theorem slices_Contains_int_int.mono : ∀ a0 a1 k, LeO (slices_Contains_int_int.f k a0 a1) (slices_Contains_int_int.f (k + 1) a0 a1) := by
 intro a0 a1 k
 unfold slices_Contains_int_int.f
 repeat' first
   | (with_reducible exact slices_Index_int_int.mono _ _ _)
   | (with_reducible exact LeO.refl _)
   | (with_reducible exact LeO.none _)
   | (with_reducible refine LeO.ite ?_ ?_)
   | (with_reducible refine LeO.bind ?_ (fun _ => ?_))
theorem slices_Contains_int_int.calls (k : Nat) (A0 : Option Addr) (c0 : Nat) (l0 : List Int) (a1 : Int) (r : Bool) (w : World) (e3 : Kd.C (Kd.int .i64) w A0 l0.length l0) (e4 : l0.length ≤ c0) (h : slices_Contains_int_int.f k l0 a1 = some r) :
  Calls Tryz.prog 73 #[.slice A0 l0.length c0, .int .i64 a1] w fun e w' => e = .returned (.bool r) ∧ Drawn0 w w' := by
 have h3 := am e3
 have m4 := am e4
 clear e3 e4
 have H : ((slices_Index_int_int.f k l0 a1).bind fun d0 => (some (decide (d0 ≥ 0)))) = some r := h
 clear h
 obtain ⟨d0, A3, H⟩ := obA H
 obtain rfl := Option.some.inj H
 go_enter Tryz.func73, Tryz.ntmps73
 go_wp2_with (first | ((with_reducible refine gate_callee (f := 93) rfl ?_); refine gl 7 Tryz.func93 #[.slice A0 l0.length c0, .int .i64 a1] (h := ?_); (with_reducible refine (slices_Index_int_int.calls k _ _ l0 a1 d0 _ ?e2 ?e1 A3.out).mono ?_); (case e2 => repeat (first | exact h3.out | (with_reducible refine Kd.C_alloc ?_ _) | (with_reducible refine Kd.C_drewN ?_ _) | (with_reducible refine Kd.C_drew ?_))); (case e1 => exact m4.out); rintro e w' ⟨rfl, ⟨nd, rfl⟩⟩; refine ⟨_, rfl, ?_⟩))
 go_ret
 exact ⟨by first | rfl | (simp; done) | (simp [*]; done), drw⟩
def slices_Reverse_int_int.l0 : Nat → List Int → Int → Int → Option (List Int)
 | 0, _, _, _ => none
 | k + 1, x0, x2, x3 => if x2 < x3 then (if 0 ≤ x3 then (if x3 < (x0.length : Int) then (if 0 ≤ x2 then (if x2 < (x0.length : Int) then (slices_Reverse_int_int.l0 k ((x0.set (x2 : Int).toNat (rd x0 x3)).set (x3 : Int).toNat (rd x0 x2)) (wrap64 (x2 + 1)) (wrap64 (x3 - 1))) else (none)) else (none)) else (none)) else (none)) else (some x0)
def slices_Reverse_int_int.f (k : Nat) (l0 : List Int) : Option (List Int) := slices_Reverse_int_int.l0 k l0 0 (wrap64 ((l0.length : Int) - 1))
theorem slices_Reverse_int_int.mono_l : ∀ k, (∀ y0 y1 y2, LeO (slices_Reverse_int_int.l0 k y0 y1 y2) (slices_Reverse_int_int.l0 (k + 1) y0 y1 y2))
 | 0 => fun _ _ _ r h => by simp [slices_Reverse_int_int.l0] at h
 | k + 1 => by
  have ih0 := slices_Reverse_int_int.mono_l k
  ·intro y0 y1 y2
   unfold slices_Reverse_int_int.l0
   repeat' first
   | (with_reducible exact ih0 _ _ _)
   | (with_reducible exact LeO.refl _)
   | (with_reducible exact LeO.none _)
   | (with_reducible refine LeO.ite ?_ ?_)
   | (with_reducible refine LeO.bind ?_ (fun _ => ?_))
theorem slices_Reverse_int_int.mono : ∀ a0 k, LeO (slices_Reverse_int_int.f k a0) (slices_Reverse_int_int.f (k + 1) a0) := by
 intro a0 k
 have ih0 := slices_Reverse_int_int.mono_l k
 unfold slices_Reverse_int_int.f
 repeat' first
   | (with_reducible exact ih0 _ _ _)
   | (with_reducible exact LeO.refl _)
   | (with_reducible exact LeO.none _)
   | (with_reducible refine LeO.ite ?_ ?_)
   | (with_reducible refine LeO.bind ?_ (fun _ => ?_))
def slices_Reverse_int_int.T3 : Bool × List (List Nat × List Nat) := (true, [([], []), ([], []), ([], []), ([], []), ([], []), ([], []), ([4, 5], [4, 5]), ([6], [6]), ([], []), ([], []), ([8, 9], [8, 9]), ([10], [10]), ([0, 1, 0, 1, 4, 5, 6, 7, 11], [0, 1]), ([12, 7, 0, 1, 4, 5, 6, 7, 11], [7, 12]), ([2, 3, 0, 1, 2, 3, 4, 5, 6, 7, 8, 9, 10, 11, 12, 13], [2, 3]), ([14, 11, 13, 0, 1, 2, 3, 4, 5, 6, 7, 8, 9, 10, 11, 12, 13], [11, 14])])
def slices_Reverse_int_int.B3 : List Nat := [0, 0, 0, 0, 0, 0, 48, 112, 0, 0, 768, 1792, 4083, 8179, 16383, 32767]
theorem slices_Reverse_int_int.tab3 : rtab .any (opsOf Tryz.f114 3) = slices_Reverse_int_int.T3 := by kernel_rfl
theorem slices_Reverse_int_int.bits3 : waitsOk slices_Reverse_int_int.T3.2 slices_Reverse_int_int.B3 = true := by kernel_rfl
theorem slices_Reverse_int_int.calls (k : Nat) (P0_ : Nat → Prop) (b4 : Value) (l0 : List Int) (r : List Int) (w0 w : World) (hB : Below w0.heap.size w0 w) (n4 : Kd.R (Kd.int .i64) 3 w w0.heap.size P0_ b4 l0) (h : slices_Reverse_int_int.f k l0 = some r) :
  Calls Tryz.prog 114 #[b4] w fun e w' => e = .returned (.tuple #[]) ∧ Kd.R (Kd.int .i64) 3 w' w0.heap.size (fun k_ => (P0_ k_ ∨ w.heap.size ≤ k_)) b4 r ∧ Below w0.heap.size w0 w' ∧ Kept w w' (fun k_ => P0_ k_) := by
 have m3 := am (show Kd.R (Kd.int .i64) 3 w w0.heap.size (fun k_ => (P0_ k_ ∨ w.heap.size ≤ k_)) b4 l0 from Kd.R_mono n4 (fun k_ hk => (.inl hk)))
 have HK := am (Kept.refl w (fun k_ => P0_ k_))
 have HW0 := am hB.size
 have HB := am hB
 clear hB
 have H : (slices_Reverse_int_int.l0 k l0 0 (wrap64 ((l0.length : Int) - 1))) = some r := h
 clear h
 have H' := am H
 clear H
 obtain ⟨o1, n9, eo2⟩ := Kd.R_slice m3.out
 subst eo2
 go_enter Tryz.func114, Tryz.ntmps114
 go_wp2
 go_loopg [2, 3] k (fun kq v2 v3 w' => ∃ (a7 : List Int) (a4 : Int) (a3 : Int), v2 = .int .i64 a4 ∧ v3 = .int .i64 a3 ∧ Aside0 (slices_Reverse_int_int.l0 kq a7 a4 a3 = some r) ∧ Aside0 (kq ≤ k) ∧ Aside0 (Kd.R (Kd.int .i64) 3 w' w0.heap.size (fun k_ => (P0_ k_ ∨ w.heap.size ≤ k_)) (.slice o1 l0.length n9) a7) ∧ Aside0 (Kept w w' (fun k_ => P0_ k_)) ∧ Aside0 (Below w0.heap.size w0 w'))
 case atStart => exact ⟨(l0), (0), (wrap64 ((l0.length : Int) - 1)), eqs, eqs, H', ⟨Nat.le_refl _⟩, ⟨kR m3⟩, ⟨by repeat (first | (with_reducible first | exact HK.out | apply Kept.alloc | apply Kept.drewN | apply Kept.drew) | exact HK.out)⟩, ⟨bb HB⟩⟩
 case round =>
  clear H'
  try clear c1
  try clear p2
  obtain ⟨a7, a4, a3, rfl, rfl, HA, c9, HO_0, HK, HB⟩ := hrel
  have b8 := (Kd.R_reads' HO_0.out).1
  rw [b8] at HO_0
  (try simp only [b8])
  cases gk with
  | zero => exact absurd HA.out (by simp [slices_Reverse_int_int.l0])
  | succ k1 =>
   have H := HA.out
   clear HA
   simp only [slices_Reverse_int_int.l0] at H
   by_cases c3 : a4 < a3
   rotate_left
   ·rw [if_neg c3] at H
    have g6 := decide_eq_false c3
    clear c3
    obtain rfl := Option.some.inj H
    go_wp2
    first | go_end0 | ((try simp only [Exit.inBlock, Exit.then]); refine bodyPost_ret (results_none rfl _ _ _) rfl ?_)
    exact ⟨erf, (by first | exact (kR HO_0) | (simp only [b8]; exact (kR HO_0))), bb HB, by repeat (first | (with_reducible first | exact HK.out | apply Kept.alloc | apply Kept.drewN | apply Kept.drew) | exact HK.out)⟩
   rw [if_pos c3] at H
   have g6 := decide_eq_true c3
   clear c3
   obtain ⟨c4, H⟩ := itn H
   have g5 := decide_eq_true c4
   clear c4
   obtain ⟨c5, H⟩ := itn H
   have n0 := decide_eq_true c5
   clear c5
   obtain ⟨c6, H⟩ := itn H
   have g4 := decide_eq_true c6
   clear c6
   obtain ⟨c7, H⟩ := itn H
   have m8 := decide_eq_true c7
   clear c7
   obtain ⟨h8, j6⟩ := leq (α := List Int) (a7.set (a4 : Int).toNat (rd a7 a3))
   rw [← j6.out] at H
   obtain ⟨h7, j5⟩ := leq (α := List Int) (h8.set (a3 : Int).toNat (rd a7 a4))
   rw [← j5.out] at H
   have H' := am H
   clear H
   try go_wp2
   replace HO_0 := am (Kd.R_drew HO_0.out)
   replace HK := am (Kept.drew HK.out)
   replace HB := am (below_drew1 HB.out)
   have g1 : 0 ≤ a3 := odt
   have e8 : a3 < (a7.length : Int) := odt
   obtain ⟨j2, m7, c8⟩ := Kd.at_int (Kd.R_reads' HO_0.out).2.2 a3 g1 e8
   cases m7
   replace g1 := eq_true g1
   replace e8 := eq_true e8
   have g0 : 0 ≤ a4 := odt
   have e7 : a4 < (a7.length : Int) := odt
   obtain ⟨j1, m6, c2⟩ := Kd.at_int (Kd.R_reads' HO_0.out).2.2 a4 g0 e7
   obtain rfl : j2 = j1 := (by injection m6)
   replace g0 := eq_true g0
   replace e7 := eq_true e7
   have p8 : 0 ≤ a4 := odt
   have q8 : (a4 : Int) < ((a7.length : Int) : Int) := odt
   obtain ⟨go8, p3, eo8, m2, gl8, cl8, HG8⟩ := Kd.R_form HO_0.out (by omega)
   (first | cases eo8 | (injection eo8 with ea_ en_ ec_; (first | subst ea_ | (injection ea_ with ea_; subst ea_)); subst ec_; clear en_))
   have GB8 := am m2
   have GG8 := am HG8
   clear m2 gl8 HG8
   have HMgo8 := am (show (P0_ go8 ∨ w.heap.size ≤ go8) from (HO_0.out.1 _ rfl))
   (first | simp only [add_plain] at c8 | skip)
   (first | simp only [add_plain] at c2 | skip)
   obtain ⟨j0, hf8_0⟩ := Kd.R_celln 0 HO_0.out (a4 : Int) p8 q8
   replace p8 := eq_true p8
   replace q8 := eq_true q8
   have HP11 := Kd.R_putn HO_0.out (a4 : Int) (rd a7 a3)
   rw [← j6.out] at HP11
   have HQ11 := am HP11
   clear HP11
   have p9 : 0 ≤ a3 := odt
   have q9 : (a3 : Int) < ((a7.length : Int) : Int) := odt
   obtain ⟨h9, hf9_0⟩ := Kd.R_celln 0 HQ11.out (a3 : Int) p9 q9
   replace p9 := eq_true p9
   replace q9 := eq_true q9
   have HP12 := Kd.R_putn HQ11.out (a3 : Int) (rd a7 a4)
   rw [← j5.out] at HP12
   have HQ12 := am HP12
   clear HP12
   refine start_ (n := 16) (S := fun w' => w'.cell? ⟨go8, (a3).toNat, none⟩ = some (.int .i64 (rd a7 a3)) ∧ w'.cell? ⟨go8, (a4).toNat, none⟩ = some (.int .i64 (rd a7 a4))) (ds := [13, 15]) #[false, false, false, false, false, false, false, false, false, false, false, false, false, false, false, false] (by kernel_rfl) rfl rfl ⟨c8, c2⟩ (fun hHeld => ?_); refine with_tabW slices_Reverse_int_int.tab3 slices_Reverse_int_int.bits3 (fun HT_ HW_ => ?_)
   generalize wr.drew = p1 at HO_0 HK HB GG8 HQ11 HQ12 hf8_0 hf9_0 c8 c2 j0 h9 hHeld ⊢
   refine pu 0 14 (bits 16 0x1) HT_ (h := ?_)
   refine pu 1 15 (bits 16 0x3) HT_ (h := ?_)
   refine pu 2 16 (bits 16 0x7) HT_ (h := ?_)
   refine pu 3 17 (bits 16 0xf) HT_ (h := ?_)
   refine pu 4 18 (bits 16 0x1f) HT_ (h := ?_)
   refine pu 5 19 (bits 16 0x3f) HT_ (h := ?_)
   refine pu 6 20 (bits 16 0x7f) HT_ (h := ?_)
   refine pu 8 22 (bits 16 0x17f) HT_ (h := ?_)
   refine pu 9 23 (bits 16 0x37f) HT_ (h := ?_)
   refine pu 10 24 (bits 16 0x77f) HT_ (h := ?_)
   refine tk 7 21 (bits 16 0x7ff) HT_ HW_ hHeld (hy := by rintro w' ⟨s0, s1⟩; go_simp; with_reducible rfl) (h := ?_)
   refine tk 11 25 (bits 16 0xfff) HT_ HW_ hHeld (hy := by rintro w' ⟨s0, s1⟩; go_simp; with_reducible rfl) (h := ?_)
   refine pu 12 26 (bits 16 0x1fff) HT_ (h := ?_)
   refine last_ (i := 13) (N := none) #[true, true, true, true, true, true, true, true, true, true, true, true, true, true, false, false] rfl rfl (one_of HT_.out (by kernel_rfl)) (by decide) (fun K hK => ?_)
   refine skip_ (w1 := ?_) (by rfl) rfl ?_ ?_
   rotate_left
   ·go_simp
    rfl
   refine hK.out _ _ ?_
   clear hK K
   refine pu 14 27 (bits 16 0x7fff) HT_ (h := ?_)
   refine last_ (i := 15) (N := none) #[true, true, true, true, true, true, true, true, true, true, true, true, true, true, true, true] rfl rfl (one_of HT_.out (by kernel_rfl)) (by decide) (fun K hK => ?_)
   refine skip_ (w1 := ?_) (by rfl) rfl ?_ ?_
   rotate_left
   ·go_simp
    rfl
   refine hK.out _ _ ?_
   clear hK K
   refine done_ (done_of HT_.out (by kernel_rfl)) ?_
   try go_wp2
   (try simp only [← b8])
   go_roundg k1
   case measure => have := c9.out; omega
   case rel => exact ⟨(h7), (wrap64 (a4 + 1)), (wrap64 (a3 - 1)), eqs, eqs, H', ⟨by have := c9.out; omega⟩, ⟨by (try simp only [b8]); (with_reducible repeat (first | apply Kd.R_alloc | apply Kd.R_drewN | apply Kd.R_drew)); exact HQ12.out⟩, ⟨by repeat (first | (with_reducible first | exact HK.out | apply Kept.alloc | apply Kept.drewN | apply Kept.drew | refine Kept.setCell ?_ HMgo8.out _ | refine Kept.setCell ?_ HMgo8.out _) | exact HK.out)⟩, ⟨bb HB⟩⟩
def types_line.l0 : Nat → Int → List Int → List (S96) → List (S101) → Option (List Int)
 | 0, _, _, _, _ => none
 | k + 1, x1, x5, b9, h4 => if x1 ≥ 0 then (if x5.length < 17592186044416 then (if 0 ≤ x1 then (if x1 < (b9.length : Int) then (types_line.l0 k ((rd_T96 b9 x1).f1) (x5 ++ [x1]) b9 h4) else (none)) else (none)) else (none)) else ((slices_Reverse_int_int.f k x5).bind fun e5 => (some e5))
def types_line.f (k : Nat) (a5 : List (S96)) (a8 : List (S101)) (a1 : Int) : Option (List Int) := types_line.l0 k a1 ([] : List Int) a5 a8
theorem types_line.mono_l : ∀ k, (∀ y0 y1 y2 y3, LeO (types_line.l0 k y0 y1 y2 y3) (types_line.l0 (k + 1) y0 y1 y2 y3))
 | 0 => fun _ _ _ _ r h => by simp [types_line.l0] at h
 | k + 1 => by
  have ih0 := types_line.mono_l k
  ·intro y0 y1 y2 y3
   unfold types_line.l0
   repeat' first
   | (with_reducible exact ih0 _ _ _ _)
   | (with_reducible exact slices_Reverse_int_int.mono _ _)
   | (with_reducible exact LeO.refl _)
   | (with_reducible exact LeO.none _)
   | (with_reducible refine LeO.ite ?_ ?_)
   | (with_reducible refine LeO.bind ?_ (fun _ => ?_))
theorem types_line.mono : ∀ a0 a1 a2 k, LeO (types_line.f k a0 a1 a2) (types_line.f (k + 1) a0 a1 a2) := by
 intro a0 a1 a2 k
 have ih0 := types_line.mono_l k
 unfold types_line.f
 repeat' first
   | (with_reducible exact ih0 _ _ _ _)
   | (with_reducible exact slices_Reverse_int_int.mono _ _)
   | (with_reducible exact LeO.refl _)
   | (with_reducible exact LeO.none _)
   | (with_reducible refine LeO.ite ?_ ?_)
   | (with_reducible refine LeO.bind ?_ (fun _ => ?_))
theorem types_line.calls (k : Nat) (d4 : Option Addr) (d2 : Nat) (a5 : List (S96)) (d3 : Option Addr) (d1 : Nat) (a8 : List (S101)) (a1 : Int) (r : List Int) (w : World) (g9 : Kd.C k96 w d4 a5.length a5) (h1 : a5.length ≤ d2) (g8 : Kd.C k101 w d3 a8.length a8) (h0 : a8.length ≤ d1) (h : types_line.f k a5 a8 a1 = some r) :
  Calls Tryz.prog 97 #[.agg #[.slice d4 a5.length d2, .slice d3 a8.length d1], .int .i64 a1] w fun e w' => ∃ j9 : Value, e = .returned (j9) ∧ Kd.R (Kd.int .i64) 3 w' w.heap.size (fun _ => True) j9 r ∧ Below w.heap.size w w' := by
 have hu31 := Tryz.underlying31
 have j7 := am g9
 have o7 := am h1
 clear g9 h1
 have o5 := am g8
 have o6 := am h0
 clear g8 h0
 have HB := am (Below.refl w.heap.size w)
 have H : (types_line.l0 k a1 ([] : List Int) a5 a8) = some r := h
 clear h
 have H' := am H
 clear H
 go_enter Tryz.func97, Tryz.ntmps97
 go_wp2_with (first | ((with_reducible refine gate_dst (N := 2) rfl ?_); refine be 2 #[.slice d4 a5.length d2, .slice d3 a8.length d1] 31 ?_; intro h2 hg w3 hbox hb; have a9 := am (hbox); have o8 := bsz HB hg; replace HB := bstep HB hb; clear hb hbox hg))
 go_loopg [1, 5] k (fun kq v1 v5 w' => ∃ (a6 : Int) (b1 : List Int), v1 = .int .i64 a6 ∧ Aside0 (types_line.l0 kq a6 b1 a5 a8 = some r) ∧ Aside0 (kq ≤ k) ∧ Aside0 (Kd.R (Kd.int .i64) 3 w' w.heap.size (fun _ => True) v5 b1) ∧ Aside0 (w'.heap[h2]? = some (.cells #[(.slice d4 a5.length d2), (.slice d3 a8.length d1)] 31 (0, 0))) ∧ Aside0 (Below w.heap.size w w'))
 case atStart => exact ⟨(a1), (([] : List Int)), eqs, H', ⟨Nat.le_refl _⟩, ⟨by first | exact Kd.R_nil _ _ _ _ _ | exact Kd.N_nil _ _ _ _ _ | exact Kd.V_nil _ _ _ _ _ | exact Kd.Q_nil _ _ _ _ _ | exact Kd.S_nil _ _ _ _ _⟩, ⟨bk a9⟩, ⟨bb HB⟩⟩
 case round =>
  clear H'
  try clear p2
  obtain ⟨a6, b1, rfl, HA, c9, HO_5, a9, HB⟩ := hrel
  cases gk with
  | zero => exact absurd HA.out (by simp [types_line.l0])
  | succ k1 =>
   have H := HA.out
   clear HA
   simp only [types_line.l0] at H
   by_cases c4 : a6 ≥ 0
   rotate_left
   ·rw [if_neg c4] at H
    have g5 : decide (0 ≤ a6) = false := decide_eq_false c4
    clear c4
    obtain ⟨e5, o3, H⟩ := obA H
    obtain rfl := Option.some.inj H
    obtain ⟨g7, g3, eo11⟩ := Kd.R_slice HO_5.out
    subst eo11
    go_wp2_with (first | ((with_reducible refine gate_callee (f := 114) rfl ?_); refine gl 19 Tryz.func114 #[.slice g7 b1.length g3] (h := ?_); (with_reducible refine (slices_Reverse_int_int.calls k1 (fun k_ => some k_ = (.slice g7 b1.length g3 : Value).ownBlock) (.slice g7 b1.length g3) b1 e5 w _ ?e2 ?e1 o3.out).mono ?_); (case e2 => exact bb HB); (case e1 => exact Kd.R_tight rfl HO_5.out); rintro e p0 ⟨rfl, m0, hb, hkp⟩; refine ⟨_, rfl, ?_⟩; replace a9 := am (blk_kept (bk a9) hkp (fun hs_ => (fun e_ => (Kd.R_ne HO_5.out a9.out (by decide)) e_) hs_)); replace HO_5 := am (Kd.R_reok rfl m0 (fun k_ e_ => HO_5.out.1 k_ e_)); replace HB := am (hb); (try clear hb); (try clear hkp); (try clear m0)))
    go_ret
    exact ⟨_, erf, kR HO_5, bb HB⟩
   rw [if_pos c4] at H
   have g5 : decide (0 ≤ a6) = true := decide_eq_true c4
   clear c4
   obtain ⟨n1, H⟩ := ita H
   obtain ⟨h6, j4⟩ := leq (α := List Int) (b1 ++ [a6])
   rw [← j4.out] at H
   obtain ⟨c6, H⟩ := itn H
   have g4 := decide_eq_true c6
   clear c6
   obtain ⟨c7, H⟩ := itn H
   have m8 := decide_eq_true c7
   clear c7
   have H' := am H
   clear H
   go_wp2_with (first | ((with_reducible refine gate_builtin (b := .append) (xs := #[.tmp 14, .tmp 16]) rfl ?_); at_builtin; refine Kd.R_append (Kd.int .i64) (w0 := w) w.heap.size rfl (.tmp 14) (.tmp 16) 32 3 (.int .i64 0) 8 rfl Tryz.underlying32 info3 rfl (by decide) (by omega) u5 b1 a6 [.int .i64 a6] (fun _ => True) (fun _ => False) rfl rfl ?aP (fun _ hk => hk.elim) ?aF ?aO ?aB ?aS ?aL ?_; (case aP => exact rfl); (case aB => exact (bb HB)); (case aF => exact (fun _ _ => trivial)); (case aO => exact (kR HO_5)); (case aS => exact (below_size (bb HB))); (case aL => have := n1.out; omega); intro o9 w8 ho hb hg hat; rw [← j4.out] at ho; replace a9 := am (blk_grown (g := h2) (o := .cells #[.slice d4 a5.length d2, .slice d3 a8.length d1] 31 (0, 0)) (bk a9) hg (Kd.R_ne HO_5.out a9.out (by decide))); replace HB := am (hb); have j8 := am (ho); clear HO_5 ho hb hg hat; obtain ⟨n8, n7, n6, n5⟩ := cz2 a9; have e9 : 0 ≤ a6 := odt; have e6 : a6 < (a5.length : Int) := odt; obtain ⟨o4, o2, o0, m5, d8, d7, d6, d5, d9, e0⟩ := at_T96 j7.out a6 e9 e6; cases m5; replace d8 := hxc HB d8; replace d7 := hxc HB d7; replace d6 := hxc HB d6; replace d5 := hxc HB d5; have n2 := am e0; have n3 := am d9; clear e0 d9; replace e9 := eq_true e9; replace e6 := eq_true e6))
   go_roundg k1
   case measure => have := c9.out; omega
   case rel => exact ⟨((rd_T96 a5 a6).f1), (h6), eqs, H', ⟨by have := c9.out; omega⟩, ⟨kR j8⟩, ⟨bk a9⟩, ⟨bb HB⟩⟩
def types_is.f (k : Nat) (a5 : List (S96)) (a4 : List (S101)) (a1 : Int) (a2 : Int) : Option (Bool) := (types_line.f k a5 a4 a1).bind fun a6 => ((slices_Contains_int_int.f k a6 a2).bind fun a7 => (some a7))
theorem types_is.mono : ∀ a0 a1 a2 a3 k, LeO (types_is.f k a0 a1 a2 a3) (types_is.f (k + 1) a0 a1 a2 a3) := by
 intro a0 a1 a2 a3 k
 unfold types_is.f
 repeat' first
   | (with_reducible exact slices_Contains_int_int.mono _ _ _)
   | (with_reducible exact types_line.mono _ _ _ _)
   | (with_reducible exact LeO.refl _)
   | (with_reducible exact LeO.none _)
   | (with_reducible refine LeO.ite ?_ ?_)
   | (with_reducible refine LeO.bind ?_ (fun _ => ?_))
theorem types_is.calls (k : Nat) (b5 : Option Addr) (b1 : Nat) (a5 : List (S96)) (b4 : Option Addr) (b0 : Nat) (a4 : List (S101)) (a1 : Int) (a2 : Int) (r : Bool) (w : World) (b7 : Kd.C k96 w b5 a5.length a5) (b9 : a5.length ≤ b1) (b6 : Kd.C k101 w b4 a4.length a4) (b8 : a4.length ≤ b0) (h : types_is.f k a5 a4 a1 a2 = some r) :
  Calls Tryz.prog 80 #[.agg #[.slice b5 a5.length b1, .slice b4 a4.length b0], .int .i64 a1, .int .i64 a2] w fun e w' => e = .returned (.bool r) ∧ Below w.heap.size w w' := by
 have hu31 := Tryz.underlying31
 have c3 := am b7
 have c5 := am b9
 clear b7 b9
 have c2 := am b6
 have c4 := am b8
 clear b6 b8
 have HB := am (Below.refl w.heap.size w)
 have H : ((types_line.f k a5 a4 a1).bind fun a6 => ((slices_Contains_int_int.f k a6 a2).bind fun a7 => (some a7))) = some r := h
 clear h
 obtain ⟨a6, A4, H⟩ := obA H
 obtain ⟨a7, A5, H⟩ := obA H
 obtain rfl := Option.some.inj H
 go_enter Tryz.func80, Tryz.ntmps80
 go_wp2_with (first | ((with_reducible refine gate_dst (N := 3) rfl ?_); refine be 3 #[.slice b5 a5.length b1, .slice b4 a4.length b0] 31 ?_; intro d3 hg w6 hbox hb; have b3 := am (hbox); have d4 := bsz HB hg; replace HB := bstep HB hb; clear hb hbox hg; obtain ⟨d0, c9, c8, c7⟩ := cz2 b3) | ((with_reducible refine gate_callee (f := 97) rfl ?_); refine gl 9 Tryz.func97 #[.agg #[.slice b5 a5.length b1, .slice b4 a4.length b0], .int .i64 a1] (h := ?_); (with_reducible refine (types_line.calls k _ _ a5 _ _ a4 a1 a6 _ ?a9 ?a8 ?c1 ?c0 A4.out).mono ?_); (case a9 => exact cb c3 HB); (case a8 => exact c5.out); (case c1 => exact cb c2 HB); (case c0 => exact c4.out); rintro e w8 ⟨d5, rfl, c6, hb⟩; refine ⟨_, rfl, ?_⟩; have b2 := am (Kd.R_lower c6 (below_size (bb HB))); replace b3 := bkb b3 hb; replace HB := bstep HB hb; (try clear hb); (try clear hb2); (try clear hk); (try clear hi); (try clear c6); obtain ⟨d2, d1, eo9⟩ := Kd.R_slice b2.out; subst eo9) | ((with_reducible refine gate_callee (f := 73) rfl ?_); refine gl 11 Tryz.func73 #[.slice d2 a6.length d1, .int .i64 a2] (h := ?_); (with_reducible refine (slices_Contains_int_int.calls k _ _ a6 a2 a7 _ ?a9 ?a8 A5.out).mono ?_); (case a9 => repeat (first | exact (Kd.R_reads' b2.out).2.2 | (with_reducible refine Kd.C_alloc ?_ _) | (with_reducible refine Kd.C_drewN ?_ _) | (with_reducible refine Kd.C_drew ?_))); (case a8 => exact (Kd.R_reads' b2.out).2.1); rintro e w' ⟨rfl, ⟨nd, rfl⟩⟩; refine ⟨_, rfl, ?_⟩))
 go_ret
 exact ⟨erf, bb HB⟩
def cmp_Or_int.l0 : Nat → Int → List Int → Int → Int → Option (Int)
 | 0, _, _, _, _ => none
 | k + 1, x3, x6, x7, x8 => if x8 < x7 then (if 0 ≤ x8 then (if x8 < (x6.length : Int) then (if (rd x6 x8) = x3 then (cmp_Or_int.l0 k x3 x6 x7 (wrap64 (x8 + 1))) else (some (rd x6 x8))) else (none)) else (none)) else (some x3)
def cmp_Or_int.f (k : Nat) (l0 : List Int) : Option (Int) := cmp_Or_int.l0 k 0 l0 (l0.length : Int) 0
theorem cmp_Or_int.mono_l : ∀ k, (∀ y0 y1 y2 y3, LeO (cmp_Or_int.l0 k y0 y1 y2 y3) (cmp_Or_int.l0 (k + 1) y0 y1 y2 y3))
 | 0 => fun _ _ _ _ r h => by simp [cmp_Or_int.l0] at h
 | k + 1 => by
  have ih0 := cmp_Or_int.mono_l k
  ·intro y0 y1 y2 y3
   unfold cmp_Or_int.l0
   repeat' first
   | (with_reducible exact ih0 _ _ _ _)
   | (with_reducible exact LeO.refl _)
   | (with_reducible exact LeO.none _)
   | (with_reducible refine LeO.ite ?_ ?_)
   | (with_reducible refine LeO.bind ?_ (fun _ => ?_))
theorem cmp_Or_int.mono : ∀ a0 k, LeO (cmp_Or_int.f k a0) (cmp_Or_int.f (k + 1) a0) := by
 intro a0 k
 have ih0 := cmp_Or_int.mono_l k
 unfold cmp_Or_int.f
 repeat' first
   | (with_reducible exact ih0 _ _ _ _)
   | (with_reducible exact LeO.refl _)
   | (with_reducible exact LeO.none _)
   | (with_reducible refine LeO.ite ?_ ?_)
   | (with_reducible refine LeO.bind ?_ (fun _ => ?_))
theorem cmp_Or_int.calls (k : Nat) (A0 : Option Addr) (c0 : Nat) (l0 : List Int) (r : Int) (w : World) (d9 : Kd.C (Kd.int .i64) w A0 l0.length l0) (e0 : l0.length ≤ c0) (h : cmp_Or_int.f k l0 = some r) :
  Calls Tryz.prog 85 #[.slice A0 l0.length c0] w fun e w' => e = .returned (.int .i64 r) ∧ Drawn0 w w' := by
 have e1 := am d9
 have j3 := am e0
 clear d9 e0
 have H : (cmp_Or_int.l0 k 0 l0 (l0.length : Int) 0) = some r := h
 clear h
 have H' := am H
 clear H
 go_enter Tryz.func85, Tryz.ntmps85
 go_wp2
 go_loopg [8] k (fun kq v8 w' => ∃ (a8 : Int), v8 = .int .i64 a8 ∧ Aside0 (cmp_Or_int.l0 kq 0 l0 (l0.length : Int) a8 = some r) ∧ Aside0 (kq ≤ k) ∧ Drawn0 w w')
 case atStart => exact ⟨(0), eqs, H', ⟨Nat.le_refl _⟩, drw⟩
 case round =>
  clear H'
  obtain ⟨a8, rfl, HA, e2, ⟨m1, rfl⟩⟩ := hrel
  cases gk with
  | zero => exact absurd HA.out (by simp [cmp_Or_int.l0])
  | succ k1 =>
   have H := HA.out
   clear HA
   simp only [cmp_Or_int.l0] at H
   by_cases c2 : a8 < (l0.length : Int)
   rotate_left
   ·rw [if_neg c2] at H
    have e6 := decide_eq_false c2
    clear c2
    obtain rfl := Option.some.inj H
    go_wp2
    go_ret
    exact ⟨by first | rfl | (simp; done) | (simp [*]; done), drw⟩
   rw [if_pos c2] at H
   have e6 := decide_eq_true c2
   clear c2
   obtain ⟨c3, H⟩ := itn H
   have j2 := decide_eq_true c3
   clear c3
   obtain ⟨c4, H⟩ := itn H
   have j1 := decide_eq_true c4
   clear c4
   by_cases c5 : (rd l0 a8) = 0
   rotate_left
   ·rw [if_neg c5] at H
    have e5 := beq_eq_false_iff_ne.mpr c5
    have e4 := bne_iff_ne.mpr c5
    obtain rfl := Option.some.inj H
    have b8 : 0 ≤ a8 := odt
    have b7 : a8 < (l0.length : Int) := odt
    obtain ⟨d8, d3, d5⟩ := Kd.at_int e1.out a8 b8 b7
    cases d3
    replace b8 := eq_true b8
    replace b7 := eq_true b7
    go_wp2
    go_ret
    exact ⟨by first | rfl | (simp; done) | (simp [*]; done), drw⟩
   rw [if_pos c5] at H
   have e5 := beq_iff_eq.mpr c5
   have e4 := bne_eq_false_iff_eq.mpr c5
   clear c5
   have H' := am H
   clear H
   have b8 : 0 ≤ a8 := odt
   have b7 : a8 < (l0.length : Int) := odt
   obtain ⟨d8, d3, d5⟩ := Kd.at_int e1.out a8 b8 b7
   cases d3
   replace b8 := eq_true b8
   replace b7 := eq_true b7
   go_wp2
   go_roundg k1
   case measure => have := e2.out; omega
   case rel => exact ⟨(wrap64 (a8 + 1)), eqs, H', ⟨by have := e2.out; omega⟩, drw⟩
def statistic_compare.f (k : Nat) (b4 : Int) (b3 : Int) (b2 : Int) (c7 : Int) (b1 : Int) (b0 : Int) (a9 : Int) (c6 : Int) : Option (Int) := (cmp_Or_int.f k (([wrap64 (b4 - b1), wrap64 (b3 - b0), wrap64 (b2 - a9)] : List Int))).bind fun b6 => (some b6)
theorem statistic_compare.mono : ∀ a0 a1 a2 a3 a4 a5 a6 a7 k, LeO (statistic_compare.f k a0 a1 a2 a3 a4 a5 a6 a7) (statistic_compare.f (k + 1) a0 a1 a2 a3 a4 a5 a6 a7) := by
 intro a0 a1 a2 a3 a4 a5 a6 a7 k
 unfold statistic_compare.f
 repeat' first
   | (with_reducible exact cmp_Or_int.mono _ _)
   | (with_reducible exact LeO.refl _)
   | (with_reducible exact LeO.none _)
   | (with_reducible refine LeO.ite ?_ ?_)
   | (with_reducible refine LeO.bind ?_ (fun _ => ?_))
theorem statistic_compare.calls (k : Nat) (b4 : Int) (b3 : Int) (b2 : Int) (c7 : Int) (b1 : Int) (b0 : Int) (a9 : Int) (c6 : Int) (r : Int) (w : World) (h : statistic_compare.f k b4 b3 b2 c7 b1 b0 a9 c6 = some r) :
  Calls Tryz.prog 58 #[.agg #[.int .i64 b4, .int .i64 b3, .int .i64 b2, .int .i64 c7], .agg #[.int .i64 b1, .int .i64 b0, .int .i64 a9, .int .i64 c6]] w fun e w' => e = .returned (.int .i64 r) ∧ Below w.heap.size w w' := by
 have hu75 := Tryz.underlying75
 have HB := am (Below.refl w.heap.size w)
 have H : ((cmp_Or_int.f k (([wrap64 (b4 - b1), wrap64 (b3 - b0), wrap64 (b2 - a9)] : List Int))).bind fun b6 => (some b6)) = some r := h
 clear h
 obtain ⟨d2, d4⟩ := leq (α := List Int) (([wrap64 (b4 - b1), wrap64 (b3 - b0), wrap64 (b2 - a9)] : List Int))
 rw [← d4.out] at H
 obtain ⟨b6, A3, H⟩ := obA H
 obtain rfl := Option.some.inj H
 go_enter Tryz.func58, Tryz.ntmps58
 go_wp2_with (first | ((with_reducible refine gate_dst (N := 2) rfl ?_); refine be 2 #[.int .i64 b4, .int .i64 b3, .int .i64 b2, .int .i64 c7] 75 ?_; intro h5 hg w4 hbox hb; have b5 := am (hbox); have h7 := bsz HB hg; replace HB := bstep HB hb; clear hb hbox hg) | ((with_reducible refine gate_dst (N := 3) rfl ?_); refine be 3 #[.int .i64 b1, .int .i64 b0, .int .i64 a9, .int .i64 c6] 75 ?_; intro h4 hg w5 hbox hb; have c9 := am (hbox); have h6 := bsz HB hg; replace HB := bstep HB hb; have d1 := blt b5 hg; have d0 := bgt b5 hg; replace b5 := bkb b5 hb; clear hb hbox hg; have j0 := d1.out; have h9 := d0.out; obtain ⟨h3, h2, h1, h0, g5, g4, g3, g2⟩ := cz4 b5; obtain ⟨g9, g8, g7, g6, g1, g0, e9, e8⟩ := cz4 c9) | ((with_reducible refine gate_dst (N := 20) rfl ?_); refine Kd.R_lit (Kd.int .i64) _ 3 ?hg (N := 20) ?hd (xs := ([wrap64 (b4 - b1), wrap64 (b3 - b0), wrap64 (b2 - a9)] : List Int)) (inner := [.int .i64 (wrap64 (b4 - b1)), .int .i64 (wrap64 (b3 - b0)), .int .i64 (wrap64 (b2 - a9))]) (ok := fun _ => True) (okp := fun _ => True) ?hr ?hp (fun _ hk => hk) trivial (Below.refl _ _) (Nat.le_refl _) (by simp) ?_; (case hd => rfl); (case hg => rfl); (case hr => first | (go_simp; done) | (go_simp; rfl)); (case hp => exact (Reps.one (show Kd.M (Kd.int .i64) _ _ _ (wrap64 (b4 - b1)) [.int .i64 (wrap64 (b4 - b1))] from rfl) (Reps.one (show Kd.M (Kd.int .i64) _ _ _ (wrap64 (b3 - b0)) [.int .i64 (wrap64 (b3 - b0))] from rfl) (Reps.one (show Kd.M (Kd.int .i64) _ _ _ (wrap64 (b2 - a9)) [.int .i64 (wrap64 (b2 - a9))] from rfl) (Reps.none _ _))))); intro h8 w9 c1 hb hg_ hnew_; clear hg_ hnew_; (first | rw [← d4.out] at c1 | (simp only [Int.reduceToNat] at c1; rw [← d4.out] at c1)); have c8 := am (Kd.R_lower c1 (below_size (bb HB))); replace b5 := bkb b5 hb; replace c9 := bkb c9 hb; replace HB := bstep HB hb; clear hb c1; obtain ⟨e7, e3, eo11⟩ := Kd.R_slice c8.out; subst eo11) | ((with_reducible refine gate_callee (f := 85) rfl ?_); refine gl 21 Tryz.func85 #[.slice e7 d2.length e3] (h := ?_); (with_reducible refine (cmp_Or_int.calls k _ _ d2 b6 _ ?d7 ?d6 A3.out).mono ?_); (case d7 => repeat (first | exact (Kd.R_reads' c8.out).2.2 | (with_reducible refine Kd.C_alloc ?_ _) | (with_reducible refine Kd.C_drewN ?_ _) | (with_reducible refine Kd.C_drew ?_))); (case d6 => exact (Kd.R_reads' c8.out).2.1); rintro e w' ⟨rfl, ⟨nd, rfl⟩⟩; refine ⟨_, rfl, ?_⟩))
 go_ret
 exact ⟨erf, bb HB⟩

end Go.Proofs.YtfpianecohobjaaGreat.P
