/- typesOrder_holds, typesBounds_holds, typesInherit_holds: a part of the proof that the law returns true for every input. No condition. -/
import Derived.Test.YtfpianecohobjaaAPx0
import Derived.Test.YtfpianecohobjaaAPx7
import Derived.Test.YtfpianecohobjaaAPx9
namespace Go.Proofs.Ytfpianecohobjaa.P
open Go.RowKit Go.Proofs.YtfpianecohobjaaW.PrintWords Go.Proofs.YtfpianecohobjaaW.PrintLast Go.Proofs.YtfpianecohobjaaW.PrintMore
set_option linter.unusedVariables false
set_option linter.unusedSimpArgs false
def types_Fits.j0 : Nat → Int → Int → Int → Bool → List (S68) → List (S71) → Option (Bool)
 | 0, _, _, _, _, _, _ => none
 | k + 1, x1, x2, x3, x25, x480000, x480001 => if x25 = true then (some false) else (if 0 ≤ x1 then (if x1 < (x480001.length : Int) then ((types_is.f k x480000 x480001 x2 ((rd_T71 x480001 x1).f1)).bind fun t485 => (if t485 = true then ((types_is.f k x480000 x480001 x3 ((rd_T71 x480001 x1).f2)).bind fun t487 => (some t487)) else (some false))) else (none)) else (none))
def types_Fits.f (k : Nat) (l0_0 : List (S68)) (l0_1 : List (S71)) (a1 : Int) (a2 : Int) (a3 : Int) : Option (Bool) := (types_given.f k l0_0 l0_1 (([a2, a3] : List Int))).bind fun t483 => (if t483 = 0 then (if a1 < 0 then (types_Fits.j0 k a1 a2 a3 true l0_0 l0_1) else (types_Fits.j0 k a1 a2 a3 (decide (a1 ≥ (l0_1.length : Int))) l0_0 l0_1)) else (types_Fits.j0 k a1 a2 a3 true l0_0 l0_1))
def types_Fits.T3 : Bool × List (List Nat × List Nat) := (true, [([], []), ([], []), ([], []), ([2], [2]), ([], []), ([3, 4], [3, 4]), ([5], [5]), ([6], [6]), ([0, 1, 7], [0, 1, 7]), ([8, 8], [8]), ([9], [9]), ([9], [9]), ([9], [9]), ([12, 9], [9, 12]), ([9], [9]), ([13, 14, 9], [9, 13, 14]), ([15, 9], [9, 15]), ([16, 9], [9, 16]), ([10, 11, 17, 9, 9], [9, 10, 11, 17]), ([9, 18], [9, 18]), ([19, 18, 0, 1, 2, 3, 4, 5, 6, 7, 8, 9, 10, 11, 12, 13, 14, 15, 16, 17, 18, 19], [19])])
def types_Fits.B3 : List Nat := [0, 0, 0, 4, 0, 28, 60, 124, 255, 511, 1023, 1023, 1023, 5119, 1023, 29695, 62463, 127999, 262143, 524287, 1048575]
theorem types_Fits.tab3 : rtab .any (opsOf Try.f23 3) = types_Fits.T3 := by kernel_rfl
theorem types_Fits.bits3 : waitsOk types_Fits.T3.2 types_Fits.B3 = true := by kernel_rfl
set_option maxHeartbeats 8000000 in
set_option maxRecDepth 100000 in
theorem types_Fits.calls (k : Nat) (A0_0 : Option Addr) (c0_0 : Nat) (l0_0 : List (S68)) (A0_1 : Option Addr) (c0_1 : Nat) (l0_1 : List (S71)) (a1 : Int) (a2 : Int) (a3 : Int) (r : Bool) (w : World) (hr0_0 : Kd.C k68 w A0_0 l0_0.length l0_0) (hc0_0 : l0_0.length ≤ c0_0) (hr0_1 : Kd.C k71 w A0_1 l0_1.length l0_1) (hc0_1 : l0_1.length ≤ c0_1) (h : types_Fits.f k l0_0 l0_1 a1 a2 a3 = some r) :
  Calls Try.prog 23 #[.agg #[.slice A0_0 l0_0.length c0_0, .slice A0_1 l0_1.length c0_1], .int .i64 a1, .int .i64 a2, .int .i64 a3] w fun e w' => e = .returned (.bool r) ∧ Below w.heap.size w w' := by
 have hu25 := Try.underlying25
 have HR0_0 := Aside0.mk hr0_0
 have HC0_0 := Aside0.mk hc0_0
 clear hr0_0 hc0_0
 have HR0_1 := Aside0.mk hr0_1
 have HC0_1 := Aside0.mk hc0_1
 clear hr0_1 hc0_1
 have HB := Aside0.mk (Below.refl w.heap.size w)
 have H : ((types_given.f k l0_0 l0_1 (([a2, a3] : List Int))).bind fun t483 => (if t483 = 0 then (if a1 < 0 then (types_Fits.j0 k a1 a2 a3 true l0_0 l0_1) else (types_Fits.j0 k a1 a2 a3 (decide (a1 ≥ (l0_1.length : Int))) l0_0 l0_1)) else (types_Fits.j0 k a1 a2 a3 true l0_0 l0_1))) = some r := h
 clear h
 have HC5 := Aside0.mk H
 clear H
 go_enter Try.func23, Try.ntmps23
 go_upto_region 1 with (first | ((with_reducible refine gate_dst (N := 4) rfl ?_); (try (refine gate_guard (by rfl) ?_; dsimp only)); refine box_event ?hg (N := 4) ?hd (cs := #[.slice A0_0 l0_0.length c0_0, .slice A0_1 l0_1.length c0_1]) (t := 25) ?hr ?_; (case hd => rfl); (case hg => rfl); (case hr => first | (go_simp; done) | (go_simp; rfl)); intro gb479 hg w6 hbox hb; have BK479 := Aside0.mk (hbox); have GW479 := bsz HB hg; have GE479 := bsz HB hg; replace HB := bstep HB hb; clear hb hbox hg))
 (try simp only [Act.put, List.setIfInBounds_toArray, List.set_cons_zero, List.set_cons_succ])
 go_cut [25] (fun v25 wc => ∃ (kq : Nat) (x25_4 : Bool), v25 = .bool x25_4 ∧ Aside0 (types_Fits.j0 kq a1 a2 a3 x25_4 l0_0 l0_1 = some r) ∧ Aside0 (kq ≤ k) ∧ Aside0 (wc.heap[gb479]? = some (.cells #[(.slice A0_0 l0_0.length c0_0), (.slice A0_1 l0_1.length c0_1)] 25 (0, 0))) ∧ Aside0 (Below w.heap.size w wc))
 case first =>
  have H := HC5.out
  clear HC5
  obtain ⟨y480, hy480⟩ : ∃ y_ : List Int, y_ = (([a2, a3] : List Int)) := ⟨_, rfl⟩
  replace H : ((types_given.f k l0_0 l0_1 y480).bind fun t483 => (if t483 = 0 then (if a1 < 0 then (types_Fits.j0 k a1 a2 a3 true l0_0 l0_1) else (types_Fits.j0 k a1 a2 a3 (decide (a1 ≥ (l0_1.length : Int))) l0_0 l0_1)) else (types_Fits.j0 k a1 a2 a3 true l0_0 l0_1))) = some r := by first | (rw [hy480]; with_reducible exact H) | (have H2_ := (Option.bind_some _ _).symm.trans H; rw [hy480]; with_reducible exact H2_) | (have H2_ := (Option.bind_some _ _).symm.trans H; with_reducible exact H2_) | with_reducible exact H | (rw [hy480]; exact H) | exact H
  have Ny480 := Aside0.mk hy480
  clear hy480
  replace H := Option.bind_eq_some_iff.mp H
  obtain ⟨t483, A70, H⟩ := H
  replace H : (if t483 = 0 then (if a1 < 0 then (types_Fits.j0 k a1 a2 a3 true l0_0 l0_1) else (types_Fits.j0 k a1 a2 a3 (decide (a1 ≥ (l0_1.length : Int))) l0_0 l0_1)) else (types_Fits.j0 k a1 a2 a3 true l0_0 l0_1)) = some r := H
  have A7 := Aside0.mk A70
  clear A70
  by_cases c8 : t483 = 0
  ·rw [if_pos c8] at H
   have c8b0 : (t483 == 0) = true := beq_iff_eq.mpr c8
   have c8b1 : (t483 != 0) = false := bne_eq_false_iff_eq.mpr c8
   clear c8
   (first | rw [c8b0] | (simp only [i64_w, i32_w]; rw [c8b0]) | skip)
   by_cases c9 : a1 < 0
   ·rw [if_pos c9] at H
    have c9b0 : decide (a1 < 0) = true := decide_eq_true c9
    clear c9
    have H' := Aside0.mk H
    clear H
    obtain ⟨hcz10_0, hcz10_1, hfz10_0, hfz10_1⟩ := cz2 BK479
    go_wp2_with (first | ((with_reducible refine gate_dst (N := 12) rfl ?_); (try (refine gate_guard (by rfl) ?_; dsimp only)); refine Kd.R_lit (Kd.int .i64) _ 3 ?hg (N := 12) ?hd (xs := ([a2, a3] : List Int)) (inner := [.int .i64 a2, .int .i64 a3]) (ok := fun _ => True) (okp := fun _ => True) ?hr ?hp (fun _ hk => hk) trivial (Below.refl _ _) (Nat.le_refl _) (by simp) ?_; (case hd => rfl); (case hg => rfl); (case hr => first | (go_simp; done) | (go_simp; rfl)); (case hp => exact (Reps.one (show Kd.M (Kd.int .i64) _ _ _ a2 [.int .i64 a2] from rfl) (Reps.one (show Kd.M (Kd.int .i64) _ _ _ a3 [.int .i64 a3] from rfl) (Reps.none _ _)))); intro v481 w11 ho12 hb hg_ hnew_; clear hg_ hnew_; (first | rw [← Ny480.out] at ho12 | (simp only [Int.reduceToNat] at ho12; rw [← Ny480.out] at ho12)); have HO482 := Aside0.mk (Kd.R_lower ho12 (below_size (bb HB))); replace BK479 := bkb BK479 hb; replace HB := bstep HB hb; clear hb ho12; obtain ⟨Ao13, co13, eo13⟩ := Kd.R_slice HO482.out; subst eo13) | ((with_reducible refine gate_callee (f := 43) rfl ?_); refine gl 13 Try.func43 #[.agg #[.slice A0_0 l0_0.length c0_0, .slice A0_1 l0_1.length c0_1], .slice Ao13 y480.length co13] (h := ?_); (with_reducible refine (types_given.calls k _ _ l0_0 _ _ l0_1 _ _ y480 t483 _ ?side1 ?side2 ?side3 ?side4 ?side5 ?side6 A7.out).mono ?_); (case side1 => exact cb HR0_0 HB); (case side2 => exact HC0_0.out); (case side3 => exact cb HR0_1 HB); (case side4 => exact HC0_1.out); (case side5 => repeat (first | exact (Kd.R_reads' HO482.out).2.2 | (with_reducible refine Kd.C_alloc ?_ _) | (with_reducible refine Kd.C_drewN ?_ _) | (with_reducible refine Kd.C_drew ?_))); (case side6 => exact (Kd.R_reads' HO482.out).2.1); rintro e w14 ⟨rfl, hb⟩; refine ⟨_, rfl, ?_⟩; replace HO482 := kRb HO482 hb; replace BK479 := bkb BK479 hb; replace HB := bstep HB hb; (try clear hb); (try clear hb2); (try clear hk); (try clear hi)))
    go_meet
    case rel => exact ⟨_, (true), eqs, H', ⟨by first | omega | exact Nat.le_refl _⟩, ⟨bk BK479⟩, ⟨bb HB⟩⟩
   ·rw [if_neg c9] at H
    have c9b0 : decide (a1 < 0) = false := decide_eq_false c9
    clear c9
    have H' := Aside0.mk H
    clear H
    obtain ⟨hcz15_0, hcz15_1, hfz15_0, hfz15_1⟩ := cz2 BK479
    go_wp2_with (first | ((with_reducible refine gate_dst (N := 12) rfl ?_); (try (refine gate_guard (by rfl) ?_; dsimp only)); refine Kd.R_lit (Kd.int .i64) _ 3 ?hg (N := 12) ?hd (xs := ([a2, a3] : List Int)) (inner := [.int .i64 a2, .int .i64 a3]) (ok := fun _ => True) (okp := fun _ => True) ?hr ?hp (fun _ hk => hk) trivial (Below.refl _ _) (Nat.le_refl _) (by simp) ?_; (case hd => rfl); (case hg => rfl); (case hr => first | (go_simp; done) | (go_simp; rfl)); (case hp => exact (Reps.one (show Kd.M (Kd.int .i64) _ _ _ a2 [.int .i64 a2] from rfl) (Reps.one (show Kd.M (Kd.int .i64) _ _ _ a3 [.int .i64 a3] from rfl) (Reps.none _ _)))); intro v481 w16 ho17 hb hg_ hnew_; clear hg_ hnew_; (first | rw [← Ny480.out] at ho17 | (simp only [Int.reduceToNat] at ho17; rw [← Ny480.out] at ho17)); have HO482 := Aside0.mk (Kd.R_lower ho17 (below_size (bb HB))); replace BK479 := bkb BK479 hb; replace HB := bstep HB hb; clear hb ho17; obtain ⟨Ao18, co18, eo18⟩ := Kd.R_slice HO482.out; subst eo18) | ((with_reducible refine gate_callee (f := 43) rfl ?_); refine gl 13 Try.func43 #[.agg #[.slice A0_0 l0_0.length c0_0, .slice A0_1 l0_1.length c0_1], .slice Ao18 y480.length co18] (h := ?_); (with_reducible refine (types_given.calls k _ _ l0_0 _ _ l0_1 _ _ y480 t483 _ ?side1 ?side2 ?side3 ?side4 ?side5 ?side6 A7.out).mono ?_); (case side1 => exact cb HR0_0 HB); (case side2 => exact HC0_0.out); (case side3 => exact cb HR0_1 HB); (case side4 => exact HC0_1.out); (case side5 => repeat (first | exact (Kd.R_reads' HO482.out).2.2 | (with_reducible refine Kd.C_alloc ?_ _) | (with_reducible refine Kd.C_drewN ?_ _) | (with_reducible refine Kd.C_drew ?_))); (case side6 => exact (Kd.R_reads' HO482.out).2.1); rintro e w19 ⟨rfl, hb⟩; refine ⟨_, rfl, ?_⟩; replace HO482 := kRb HO482 hb; replace BK479 := bkb BK479 hb; replace HB := bstep HB hb; (try clear hb); (try clear hb2); (try clear hk); (try clear hi); obtain ⟨hcz20_0, hcz20_1, hfz20_0, hfz20_1⟩ := cz2 BK479))
    go_meet
    case rel => exact ⟨_, (decide (a1 ≥ (l0_1.length : Int))), eqs, H', ⟨by first | omega | exact Nat.le_refl _⟩, ⟨bk BK479⟩, ⟨bb HB⟩⟩
  ·rw [if_neg c8] at H
   have c8b0 : (t483 == 0) = false := beq_eq_false_iff_ne.mpr c8
   have c8b1 : (t483 != 0) = true := bne_iff_ne.mpr c8
   (first | rw [c8b0] | (simp only [i64_w, i32_w]; rw [c8b0]) | skip)
   have H' := Aside0.mk H
   clear H
   obtain ⟨hcz21_0, hcz21_1, hfz21_0, hfz21_1⟩ := cz2 BK479
   go_wp2_with (first | ((with_reducible refine gate_dst (N := 12) rfl ?_); (try (refine gate_guard (by rfl) ?_; dsimp only)); refine Kd.R_lit (Kd.int .i64) _ 3 ?hg (N := 12) ?hd (xs := ([a2, a3] : List Int)) (inner := [.int .i64 a2, .int .i64 a3]) (ok := fun _ => True) (okp := fun _ => True) ?hr ?hp (fun _ hk => hk) trivial (Below.refl _ _) (Nat.le_refl _) (by simp) ?_; (case hd => rfl); (case hg => rfl); (case hr => first | (go_simp; done) | (go_simp; rfl)); (case hp => exact (Reps.one (show Kd.M (Kd.int .i64) _ _ _ a2 [.int .i64 a2] from rfl) (Reps.one (show Kd.M (Kd.int .i64) _ _ _ a3 [.int .i64 a3] from rfl) (Reps.none _ _)))); intro v481 w22 ho23 hb hg_ hnew_; clear hg_ hnew_; (first | rw [← Ny480.out] at ho23 | (simp only [Int.reduceToNat] at ho23; rw [← Ny480.out] at ho23)); have HO482 := Aside0.mk (Kd.R_lower ho23 (below_size (bb HB))); replace BK479 := bkb BK479 hb; replace HB := bstep HB hb; clear hb ho23; obtain ⟨Ao24, co24, eo24⟩ := Kd.R_slice HO482.out; subst eo24) | ((with_reducible refine gate_callee (f := 43) rfl ?_); refine gl 13 Try.func43 #[.agg #[.slice A0_0 l0_0.length c0_0, .slice A0_1 l0_1.length c0_1], .slice Ao24 y480.length co24] (h := ?_); (with_reducible refine (types_given.calls k _ _ l0_0 _ _ l0_1 _ _ y480 t483 _ ?side1 ?side2 ?side3 ?side4 ?side5 ?side6 A7.out).mono ?_); (case side1 => exact cb HR0_0 HB); (case side2 => exact HC0_0.out); (case side3 => exact cb HR0_1 HB); (case side4 => exact HC0_1.out); (case side5 => repeat (first | exact (Kd.R_reads' HO482.out).2.2 | (with_reducible refine Kd.C_alloc ?_ _) | (with_reducible refine Kd.C_drewN ?_ _) | (with_reducible refine Kd.C_drew ?_))); (case side6 => exact (Kd.R_reads' HO482.out).2.1); rintro e w25 ⟨rfl, hb⟩; refine ⟨_, rfl, ?_⟩; replace HO482 := kRb HO482 hb; replace BK479 := bkb BK479 hb; replace HB := bstep HB hb; (try clear hb); (try clear hb2); (try clear hk); (try clear hi)))
   go_meet
   case rel => exact ⟨_, (true), eqs, H', ⟨by first | omega | exact Nat.le_refl _⟩, ⟨bk BK479⟩, ⟨bb HB⟩⟩
 case rest =>
  clear HC5
  try clear c2
  try clear p2
  try clear c4
  try clear c8
  try clear c8b0
  try clear c8b1
  try clear c9
  try clear c9b0
  try clear c23
  try clear hcz10_0
  try clear hcz10_1
  try clear hcz15_0
  try clear hcz15_1
  try clear hcz20_0
  try clear hcz20_1
  try clear hcz21_0
  try clear hcz21_1
  try clear hfz10_0
  try clear hfz10_1
  try clear hfz15_0
  try clear hfz15_1
  try clear hfz20_0
  try clear hfz20_1
  try clear hfz21_0
  try clear hfz21_1
  obtain ⟨kq, x25_4, rfl, HA, HJ4, BK479, HB⟩ := hcut
  cases kq with
  | zero => exact absurd HA.out (by simp [types_Fits.j0])
  | succ kj4 =>
   have H := HA.out
   clear HA
   simp only [types_Fits.j0] at H
   by_cases c26 : x25_4 = true
   ·subst c26
    replace H := ift H
    obtain rfl := Option.some.inj H
    go_wp2
    go_ret
    exact ⟨erf, bb HB⟩
   ·replace c26 := Bool.eq_false_iff.mpr c26
    subst c26
    replace H := iff_ H
    by_cases c27 : 0 ≤ a1
    ·rw [if_pos c27] at H
     have c27b0 : decide (0 ≤ a1) = true := decide_eq_true c27
     clear c27
     by_cases c28 : a1 < (l0_1.length : Int)
     ·rw [if_pos c28] at H
      have c28b0 : decide (a1 < (l0_1.length : Int)) = true := decide_eq_true c28
      clear c28
      replace H := Option.bind_eq_some_iff.mp H
      obtain ⟨t485, A290, H⟩ := H
      replace H : (if t485 = true then ((types_is.f kj4 l0_0 l0_1 a3 ((rd_T71 l0_1 a1).f2)).bind fun t487 => (some t487)) else (some false)) = some r := H
      have A29 := Aside0.mk A290
      clear A290
      by_cases c30 : t485 = true
      ·subst c30
       replace H := ift H
       replace H := Option.bind_eq_some_iff.mp H
       obtain ⟨t487, A310, H⟩ := H
       replace H : (some t487) = some r := H
       have A31 := Aside0.mk A310
       clear A310
       obtain rfl := Option.some.inj H
       try go_wp2
       replace BK479 := Aside0.mk (blk_drew BK479.out)
       replace HB := Aside0.mk (below_drew1 HB.out)
       have p484 : 0 ≤ a1 := odt
       have q484 : a1 < (l0_1.length : Int) := odt
       obtain ⟨ad484, e484, hx484_0, hx484_1, hx484_2, hx484_3, hx484_4, hx484_5, hx484_6⟩ := at_T71 HR0_1.out a1 p484 q484
       have hw484_6 := hx484_6
       have hw484_5 := hx484_5
       have hw484_4 := hx484_4
       have hw484_3 := hx484_3
       have hw484_2 := hx484_2
       have hw484_1 := hx484_1
       have hw484_0 := hx484_0
       cases e484
       replace hx484_0 := hxc HB hx484_0
       replace hx484_1 := hxc HB hx484_1
       replace hx484_2 := hxc HB hx484_2
       replace hx484_3 := hxc HB hx484_3
       replace hx484_4 := hxc HB hx484_4
       replace hx484_5 := hxc HB hx484_5
       replace hx484_6 := hxc HB hx484_6
       replace p484 := eq_true p484
       replace q484 := eq_true q484
       have p486 : 0 ≤ a1 := odt
       have q486 : a1 < (l0_1.length : Int) := odt
       obtain ⟨ad486, e486, hx486_0, hx486_1, hx486_2, hx486_3, hx486_4, hx486_5, hx486_6⟩ := at_T71 HR0_1.out a1 p486 q486
       have hw486_6 := hx486_6
       have hw486_5 := hx486_5
       have hw486_4 := hx486_4
       have hw486_3 := hx486_3
       have hw486_2 := hx486_2
       have hw486_1 := hx486_1
       have hw486_0 := hx486_0
       obtain rfl : ad484 = ad486 := (by injection e486)
       replace hx486_0 := hxc HB hx486_0
       replace hx486_1 := hxc HB hx486_1
       replace hx486_2 := hxc HB hx486_2
       replace hx486_3 := hxc HB hx486_3
       replace hx486_4 := hxc HB hx486_4
       replace hx486_5 := hxc HB hx486_5
       replace hx486_6 := hxc HB hx486_6
       replace p486 := eq_true p486
       replace q486 := eq_true q486
       refine start_ (n := 21) (S := fun w' => w'.cell? ⟨gb479, 0, none⟩ = some (.slice A0_0 l0_0.length c0_0) ∧ w'.cell? ⟨gb479, 1, none⟩ = some (.slice (some ad484) l0_1.length c0_1) ∧ w'.cell? (ad484.add ((a1).toNat * 7)) = some (.string ((rd_T71 l0_1 a1).f0)) ∧ w'.cell? ⟨(ad484.add ((a1).toNat * 7)).block, (ad484.add ((a1).toNat * 7)).off + 1, none⟩ = some (.int .i64 ((rd_T71 l0_1 a1).f1)) ∧ w'.cell? ⟨(ad484.add ((a1).toNat * 7)).block, (ad484.add ((a1).toNat * 7)).off + 2, none⟩ = some (.int .i64 ((rd_T71 l0_1 a1).f2)) ∧ w'.cell? ⟨(ad484.add ((a1).toNat * 7)).block, (ad484.add ((a1).toNat * 7)).off + 3, none⟩ = some (.int .i64 ((rd_T71 l0_1 a1).f3)) ∧ w'.cell? ⟨(ad484.add ((a1).toNat * 7)).block, (ad484.add ((a1).toNat * 7)).off + 4, none⟩ = some (.int .i64 ((rd_T71 l0_1 a1).f4)) ∧ w'.cell? ⟨(ad484.add ((a1).toNat * 7)).block, (ad484.add ((a1).toNat * 7)).off + 5, none⟩ = some (.int .i64 ((rd_T71 l0_1 a1).f5)) ∧ w'.cell? ⟨(ad484.add ((a1).toNat * 7)).block, (ad484.add ((a1).toNat * 7)).off + 6, none⟩ = some (.int .i64 ((rd_T71 l0_1 a1).f6)) ∧ w'.cell? (ad484.add ((a1).toNat * 7)) = some (.string ((rd_T71 l0_1 a1).f0)) ∧ w'.cell? ⟨(ad484.add ((a1).toNat * 7)).block, (ad484.add ((a1).toNat * 7)).off + 1, none⟩ = some (.int .i64 ((rd_T71 l0_1 a1).f1)) ∧ w'.cell? ⟨(ad484.add ((a1).toNat * 7)).block, (ad484.add ((a1).toNat * 7)).off + 2, none⟩ = some (.int .i64 ((rd_T71 l0_1 a1).f2)) ∧ w'.cell? ⟨(ad484.add ((a1).toNat * 7)).block, (ad484.add ((a1).toNat * 7)).off + 3, none⟩ = some (.int .i64 ((rd_T71 l0_1 a1).f3)) ∧ w'.cell? ⟨(ad484.add ((a1).toNat * 7)).block, (ad484.add ((a1).toNat * 7)).off + 4, none⟩ = some (.int .i64 ((rd_T71 l0_1 a1).f4)) ∧ w'.cell? ⟨(ad484.add ((a1).toNat * 7)).block, (ad484.add ((a1).toNat * 7)).off + 5, none⟩ = some (.int .i64 ((rd_T71 l0_1 a1).f5)) ∧ w'.cell? ⟨(ad484.add ((a1).toNat * 7)).block, (ad484.add ((a1).toNat * 7)).off + 6, none⟩ = some (.int .i64 ((rd_T71 l0_1 a1).f6))) (ds := []) #[false, false, false, false, false, false, false, false, false, false, false, false, false, false, false, false, false, false, false, false, false] (by kernel_rfl) rfl rfl ⟨(blk_cell BK479.out 0).trans rfl, (blk_cell BK479.out 1).trans rfl, ((HB.out.cell (World.block_lt_of_cell? w _ hw484_0)).trans hw484_0), ((HB.out.cell (World.block_lt_of_cell? w _ hw484_1)).trans hw484_1), ((HB.out.cell (World.block_lt_of_cell? w _ hw484_2)).trans hw484_2), ((HB.out.cell (World.block_lt_of_cell? w _ hw484_3)).trans hw484_3), ((HB.out.cell (World.block_lt_of_cell? w _ hw484_4)).trans hw484_4), ((HB.out.cell (World.block_lt_of_cell? w _ hw484_5)).trans hw484_5), ((HB.out.cell (World.block_lt_of_cell? w _ hw484_6)).trans hw484_6), ((HB.out.cell (World.block_lt_of_cell? w _ hw486_0)).trans hw486_0), ((HB.out.cell (World.block_lt_of_cell? w _ hw486_1)).trans hw486_1), ((HB.out.cell (World.block_lt_of_cell? w _ hw486_2)).trans hw486_2), ((HB.out.cell (World.block_lt_of_cell? w _ hw486_3)).trans hw486_3), ((HB.out.cell (World.block_lt_of_cell? w _ hw486_4)).trans hw486_4), ((HB.out.cell (World.block_lt_of_cell? w _ hw486_5)).trans hw486_5), ((HB.out.cell (World.block_lt_of_cell? w _ hw486_6)).trans hw486_6)⟩ (fun hHeld => ?_); refine with_tabW types_Fits.tab3 types_Fits.bits3 (fun HT_ HW_ => ?_)
       generalize wc.drew = w32 at BK479 HB hx484_0 hx484_1 hx484_2 hx484_3 hx484_4 hx484_5 hx484_6 hx486_0 hx486_1 hx486_2 hx486_3 hx486_4 hx486_5 hx486_6 hHeld ⊢
       refine pu 1 27 (bits 21 0x2) HT_ (h := ?_)
       refine pu 2 28 (bits 21 0x6) HT_ (h := ?_)
       refine pu 4 30 (bits 21 0x16) HT_ (h := ?_)
       refine tk 0 26 (bits 21 0x17) HT_ HW_ hHeld (hy := by rintro w' ⟨s0, s1, s2, s3, s4, s5, s6, s7, s8, s9, s10, s11, s12, s13, s14, s15⟩; go_simp; with_reducible rfl) (h := ?_)
       refine tk 3 29 (bits 21 0x1f) HT_ HW_ hHeld (hy := by rintro w' ⟨s0, s1, s2, s3, s4, s5, s6, s7, s8, s9, s10, s11, s12, s13, s14, s15⟩; go_simp; with_reducible rfl) (h := ?_)
       refine pu 5 31 (bits 21 0x3f) HT_ (h := ?_)
       refine pu 6 32 (bits 21 0x7f) HT_ (h := ?_)
       refine tk 7 33 (bits 21 0xff) HT_ HW_ hHeld (hy := by rintro w' ⟨s0, s1, s2, s3, s4, s5, s6, s7, s8, s9, s10, s11, s12, s13, s14, s15⟩; go_simp; with_reducible rfl) (h := ?_)
       refine one_ (i := 8) (N := some 34) #[true, true, true, true, true, true, true, true, true, false, false, false, false, false, false, false, false, false, false, false, false] rfl rfl (one_of HT_.out (by kernel_rfl)) (by decide) (fun K hK => ?_)
       refine goes_ Try.func44 (by kernel_rfl) rfl #[.agg #[.slice A0_0 l0_0.length c0_0, .slice (some ad484) l0_1.length c0_1], .int .i64 a2, .int .i64 ((rd_T71 l0_1 a1).f1)] (by rfl) rfl rfl (by (try simp only [List.map_toArray, List.map_cons, List.map_nil]); first | done | rfl | (simp only [List.length_drop, List.length_take]; rfl)) ?_
       with_reducible refine (types_is.calls kj4 _ _ l0_0 _ _ l0_1 a2 ((rd_T71 l0_1 a1).f1) true _ ?side1 ?side2 ?side3 ?side4 A29.out).mono ?_
       (case side1 => exact cb HR0_0 HB)
       (case side2 => exact HC0_0.out)
       (case side3 => exact cb HR0_1 HB)
       (case side4 => exact HC0_1.out)
       rintro e w33 ⟨rfl, hb⟩
       refine ⟨_, rfl, ?_⟩
       replace BK479 := bkb BK479 hb
       replace HB := bstep HB hb
       (try clear hb)
       (try clear hb2)
       (try clear hk)
       (try clear hi)
       refine hK.out _ _ ⟨(blk_cell BK479.out 0).trans rfl, (blk_cell BK479.out 1).trans rfl, ((HB.out.cell (World.block_lt_of_cell? w _ hw484_0)).trans hw484_0), ((HB.out.cell (World.block_lt_of_cell? w _ hw484_1)).trans hw484_1), ((HB.out.cell (World.block_lt_of_cell? w _ hw484_2)).trans hw484_2), ((HB.out.cell (World.block_lt_of_cell? w _ hw484_3)).trans hw484_3), ((HB.out.cell (World.block_lt_of_cell? w _ hw484_4)).trans hw484_4), ((HB.out.cell (World.block_lt_of_cell? w _ hw484_5)).trans hw484_5), ((HB.out.cell (World.block_lt_of_cell? w _ hw484_6)).trans hw484_6), ((HB.out.cell (World.block_lt_of_cell? w _ hw486_0)).trans hw486_0), ((HB.out.cell (World.block_lt_of_cell? w _ hw486_1)).trans hw486_1), ((HB.out.cell (World.block_lt_of_cell? w _ hw486_2)).trans hw486_2), ((HB.out.cell (World.block_lt_of_cell? w _ hw486_3)).trans hw486_3), ((HB.out.cell (World.block_lt_of_cell? w _ hw486_4)).trans hw486_4), ((HB.out.cell (World.block_lt_of_cell? w _ hw486_5)).trans hw486_5), ((HB.out.cell (World.block_lt_of_cell? w _ hw486_6)).trans hw486_6)⟩ (fun hHeld => ?_)
       clear hK K
       refine norm_ (a' := ?_) ?_ ?_
       rotate_left
       ·show Act.put _ (some 34) _ = _
        simp only [Act.put, List.setIfInBounds_toArray, List.set_cons_zero, List.set_cons_succ, i64_w, i32_w]
        rfl
       refine pu 9 35 (bits 21 0x3ff) HT_ (h := ?_)
       refine pu 11 37 (bits 21 0xbff) HT_ (h := ?_)
       refine pu 12 38 (bits 21 0x1bff) HT_ (h := ?_)
       refine pu 14 40 (bits 21 0x5bff) HT_ (h := ?_)
       refine tk 10 36 (bits 21 0x5fff) HT_ HW_ hHeld (hy := by rintro w' ⟨s0, s1, s2, s3, s4, s5, s6, s7, s8, s9, s10, s11, s12, s13, s14, s15⟩; go_simp; with_reducible rfl) (h := ?_)
       refine tk 13 39 (bits 21 0x7fff) HT_ HW_ hHeld (hy := by rintro w' ⟨s0, s1, s2, s3, s4, s5, s6, s7, s8, s9, s10, s11, s12, s13, s14, s15⟩; go_simp; with_reducible rfl) (h := ?_)
       refine pu 15 41 (bits 21 0xffff) HT_ (h := ?_)
       refine pu 16 42 (bits 21 0x1ffff) HT_ (h := ?_)
       refine tk 17 43 (bits 21 0x3ffff) HT_ HW_ hHeld (hy := by rintro w' ⟨s0, s1, s2, s3, s4, s5, s6, s7, s8, s9, s10, s11, s12, s13, s14, s15⟩; go_simp; with_reducible rfl) (h := ?_)
       refine one_ (i := 18) (N := some 44) #[true, true, true, true, true, true, true, true, true, true, true, true, true, true, true, true, true, true, true, false, false] rfl rfl (one_of HT_.out (by kernel_rfl)) (by decide) (fun K hK => ?_)
       refine goes_ Try.func44 (by kernel_rfl) rfl #[.agg #[.slice A0_0 l0_0.length c0_0, .slice (some ad484) l0_1.length c0_1], .int .i64 a3, .int .i64 ((rd_T71 l0_1 a1).f2)] (by rfl) rfl rfl (by (try simp only [List.map_toArray, List.map_cons, List.map_nil]); first | done | rfl | (simp only [List.length_drop, List.length_take]; rfl)) ?_
       with_reducible refine (types_is.calls kj4 _ _ l0_0 _ _ l0_1 a3 ((rd_T71 l0_1 a1).f2) t487 _ ?side1 ?side2 ?side3 ?side4 A31.out).mono ?_
       (case side1 => exact cb HR0_0 HB)
       (case side2 => exact HC0_0.out)
       (case side3 => exact cb HR0_1 HB)
       (case side4 => exact HC0_1.out)
       rintro e w34 ⟨rfl, hb⟩
       refine ⟨_, rfl, ?_⟩
       replace BK479 := bkb BK479 hb
       replace HB := bstep HB hb
       (try clear hb)
       (try clear hb2)
       (try clear hk)
       (try clear hi)
       refine hK.out _ _ ⟨(blk_cell BK479.out 0).trans rfl, (blk_cell BK479.out 1).trans rfl, ((HB.out.cell (World.block_lt_of_cell? w _ hw484_0)).trans hw484_0), ((HB.out.cell (World.block_lt_of_cell? w _ hw484_1)).trans hw484_1), ((HB.out.cell (World.block_lt_of_cell? w _ hw484_2)).trans hw484_2), ((HB.out.cell (World.block_lt_of_cell? w _ hw484_3)).trans hw484_3), ((HB.out.cell (World.block_lt_of_cell? w _ hw484_4)).trans hw484_4), ((HB.out.cell (World.block_lt_of_cell? w _ hw484_5)).trans hw484_5), ((HB.out.cell (World.block_lt_of_cell? w _ hw484_6)).trans hw484_6), ((HB.out.cell (World.block_lt_of_cell? w _ hw486_0)).trans hw486_0), ((HB.out.cell (World.block_lt_of_cell? w _ hw486_1)).trans hw486_1), ((HB.out.cell (World.block_lt_of_cell? w _ hw486_2)).trans hw486_2), ((HB.out.cell (World.block_lt_of_cell? w _ hw486_3)).trans hw486_3), ((HB.out.cell (World.block_lt_of_cell? w _ hw486_4)).trans hw486_4), ((HB.out.cell (World.block_lt_of_cell? w _ hw486_5)).trans hw486_5), ((HB.out.cell (World.block_lt_of_cell? w _ hw486_6)).trans hw486_6)⟩ (fun hHeld => ?_)
       clear hK K
       refine norm_ (a' := ?_) ?_ ?_
       rotate_left
       ·show Act.put _ (some 44) _ = _
        simp only [Act.put, List.setIfInBounds_toArray, List.set_cons_zero, List.set_cons_succ, i64_w, i32_w]
        rfl
       refine pu 19 45 (bits 21 0xfffff) HT_ (h := ?_)
       refine pu 20 8 (bits 21 0x1fffff) HT_ (h := ?_)
       refine done_ (done_of HT_.out (by kernel_rfl)) ?_
       try go_wp2
       go_ret
       exact ⟨erf, bb HB⟩
      ·replace c30 := Bool.eq_false_iff.mpr c30
       subst c30
       replace H := iff_ H
       obtain rfl := Option.some.inj H
       try go_wp2
       replace BK479 := Aside0.mk (blk_drew BK479.out)
       replace HB := Aside0.mk (below_drew1 HB.out)
       have p484 : 0 ≤ a1 := odt
       have q484 : a1 < (l0_1.length : Int) := odt
       obtain ⟨ad484, e484, hx484_0, hx484_1, hx484_2, hx484_3, hx484_4, hx484_5, hx484_6⟩ := at_T71 HR0_1.out a1 p484 q484
       have hw484_6 := hx484_6
       have hw484_5 := hx484_5
       have hw484_4 := hx484_4
       have hw484_3 := hx484_3
       have hw484_2 := hx484_2
       have hw484_1 := hx484_1
       have hw484_0 := hx484_0
       cases e484
       replace hx484_0 := hxc HB hx484_0
       replace hx484_1 := hxc HB hx484_1
       replace hx484_2 := hxc HB hx484_2
       replace hx484_3 := hxc HB hx484_3
       replace hx484_4 := hxc HB hx484_4
       replace hx484_5 := hxc HB hx484_5
       replace hx484_6 := hxc HB hx484_6
       replace p484 := eq_true p484
       replace q484 := eq_true q484
       refine start_ (n := 21) (S := fun w' => w'.cell? ⟨gb479, 0, none⟩ = some (.slice A0_0 l0_0.length c0_0) ∧ w'.cell? ⟨gb479, 1, none⟩ = some (.slice (some ad484) l0_1.length c0_1) ∧ w'.cell? (ad484.add ((a1).toNat * 7)) = some (.string ((rd_T71 l0_1 a1).f0)) ∧ w'.cell? ⟨(ad484.add ((a1).toNat * 7)).block, (ad484.add ((a1).toNat * 7)).off + 1, none⟩ = some (.int .i64 ((rd_T71 l0_1 a1).f1)) ∧ w'.cell? ⟨(ad484.add ((a1).toNat * 7)).block, (ad484.add ((a1).toNat * 7)).off + 2, none⟩ = some (.int .i64 ((rd_T71 l0_1 a1).f2)) ∧ w'.cell? ⟨(ad484.add ((a1).toNat * 7)).block, (ad484.add ((a1).toNat * 7)).off + 3, none⟩ = some (.int .i64 ((rd_T71 l0_1 a1).f3)) ∧ w'.cell? ⟨(ad484.add ((a1).toNat * 7)).block, (ad484.add ((a1).toNat * 7)).off + 4, none⟩ = some (.int .i64 ((rd_T71 l0_1 a1).f4)) ∧ w'.cell? ⟨(ad484.add ((a1).toNat * 7)).block, (ad484.add ((a1).toNat * 7)).off + 5, none⟩ = some (.int .i64 ((rd_T71 l0_1 a1).f5)) ∧ w'.cell? ⟨(ad484.add ((a1).toNat * 7)).block, (ad484.add ((a1).toNat * 7)).off + 6, none⟩ = some (.int .i64 ((rd_T71 l0_1 a1).f6))) (ds := []) #[false, false, false, false, false, false, false, false, false, false, false, false, false, false, false, false, false, false, false, false, false] (by kernel_rfl) rfl rfl ⟨(blk_cell BK479.out 0).trans rfl, (blk_cell BK479.out 1).trans rfl, ((HB.out.cell (World.block_lt_of_cell? w _ hw484_0)).trans hw484_0), ((HB.out.cell (World.block_lt_of_cell? w _ hw484_1)).trans hw484_1), ((HB.out.cell (World.block_lt_of_cell? w _ hw484_2)).trans hw484_2), ((HB.out.cell (World.block_lt_of_cell? w _ hw484_3)).trans hw484_3), ((HB.out.cell (World.block_lt_of_cell? w _ hw484_4)).trans hw484_4), ((HB.out.cell (World.block_lt_of_cell? w _ hw484_5)).trans hw484_5), ((HB.out.cell (World.block_lt_of_cell? w _ hw484_6)).trans hw484_6)⟩ (fun hHeld => ?_); refine with_tabW types_Fits.tab3 types_Fits.bits3 (fun HT_ HW_ => ?_)
       generalize wc.drew = w35 at BK479 HB hx484_0 hx484_1 hx484_2 hx484_3 hx484_4 hx484_5 hx484_6 hHeld ⊢
       refine pu 1 27 (bits 21 0x2) HT_ (h := ?_)
       refine pu 2 28 (bits 21 0x6) HT_ (h := ?_)
       refine pu 4 30 (bits 21 0x16) HT_ (h := ?_)
       refine tk 0 26 (bits 21 0x17) HT_ HW_ hHeld (hy := by rintro w' ⟨s0, s1, s2, s3, s4, s5, s6, s7, s8⟩; go_simp; with_reducible rfl) (h := ?_)
       refine tk 3 29 (bits 21 0x1f) HT_ HW_ hHeld (hy := by rintro w' ⟨s0, s1, s2, s3, s4, s5, s6, s7, s8⟩; go_simp; with_reducible rfl) (h := ?_)
       refine pu 5 31 (bits 21 0x3f) HT_ (h := ?_)
       refine pu 6 32 (bits 21 0x7f) HT_ (h := ?_)
       refine tk 7 33 (bits 21 0xff) HT_ HW_ hHeld (hy := by rintro w' ⟨s0, s1, s2, s3, s4, s5, s6, s7, s8⟩; go_simp; with_reducible rfl) (h := ?_)
       refine one_ (i := 8) (N := some 34) #[true, true, true, true, true, true, true, true, true, false, false, false, false, false, false, false, false, false, false, false, false] rfl rfl (one_of HT_.out (by kernel_rfl)) (by decide) (fun K hK => ?_)
       refine goes_ Try.func44 (by kernel_rfl) rfl #[.agg #[.slice A0_0 l0_0.length c0_0, .slice (some ad484) l0_1.length c0_1], .int .i64 a2, .int .i64 ((rd_T71 l0_1 a1).f1)] (by rfl) rfl rfl (by (try simp only [List.map_toArray, List.map_cons, List.map_nil]); first | done | rfl | (simp only [List.length_drop, List.length_take]; rfl)) ?_
       with_reducible refine (types_is.calls kj4 _ _ l0_0 _ _ l0_1 a2 ((rd_T71 l0_1 a1).f1) false _ ?side1 ?side2 ?side3 ?side4 A29.out).mono ?_
       (case side1 => exact cb HR0_0 HB)
       (case side2 => exact HC0_0.out)
       (case side3 => exact cb HR0_1 HB)
       (case side4 => exact HC0_1.out)
       rintro e w36 ⟨rfl, hb⟩
       refine ⟨_, rfl, ?_⟩
       replace BK479 := bkb BK479 hb
       replace HB := bstep HB hb
       (try clear hb)
       (try clear hb2)
       (try clear hk)
       (try clear hi)
       refine hK.out _ _ ⟨(blk_cell BK479.out 0).trans rfl, (blk_cell BK479.out 1).trans rfl, ((HB.out.cell (World.block_lt_of_cell? w _ hw484_0)).trans hw484_0), ((HB.out.cell (World.block_lt_of_cell? w _ hw484_1)).trans hw484_1), ((HB.out.cell (World.block_lt_of_cell? w _ hw484_2)).trans hw484_2), ((HB.out.cell (World.block_lt_of_cell? w _ hw484_3)).trans hw484_3), ((HB.out.cell (World.block_lt_of_cell? w _ hw484_4)).trans hw484_4), ((HB.out.cell (World.block_lt_of_cell? w _ hw484_5)).trans hw484_5), ((HB.out.cell (World.block_lt_of_cell? w _ hw484_6)).trans hw484_6)⟩ (fun hHeld => ?_)
       clear hK K
       refine norm_ (a' := ?_) ?_ ?_
       rotate_left
       ·show Act.put _ (some 34) _ = _
        simp only [Act.put, List.setIfInBounds_toArray, List.set_cons_zero, List.set_cons_succ, i64_w, i32_w]
        rfl
       refine pu 9 35 (bits 21 0x3ff) HT_ (h := ?_)
       refine pn 10 36 (bits 21 0x7ff) HT_ (h := ?_)
       refine pn 11 37 (bits 21 0xfff) HT_ (h := ?_)
       refine pn 12 38 (bits 21 0x1fff) HT_ (h := ?_)
       refine pn 13 39 (bits 21 0x3fff) HT_ (h := ?_)
       refine pn 14 40 (bits 21 0x7fff) HT_ (h := ?_)
       refine pn 15 41 (bits 21 0xffff) HT_ (h := ?_)
       refine pn 16 42 (bits 21 0x1ffff) HT_ (h := ?_)
       refine pn 17 43 (bits 21 0x3ffff) HT_ (h := ?_)
       refine pn 18 44 (bits 21 0x7ffff) HT_ (h := ?_)
       refine pu 19 45 (bits 21 0xfffff) HT_ (h := ?_)
       refine pu 20 8 (bits 21 0x1fffff) HT_ (h := ?_)
       refine done_ (done_of HT_.out (by kernel_rfl)) ?_
       try go_wp2
       go_ret
       exact ⟨erf, bb HB⟩
     ·rw [if_neg c28] at H
      exact absurd H (by simp)
    ·rw [if_neg c27] at H
     exact absurd H (by simp)
end Go.Proofs.Ytfpianecohobjaa.P
