/- typesLists_holds: a part of the proof that the law returns true for every input. No condition. -/
import Derived.Test.YtfpianecohobjaaVPx0
import Derived.Test.YtfpianecohobjaaVPx10
import Derived.Test.YtfpianecohobjaaVPx11
import Derived.Test.YtfpianecohobjaaVPx20
import Derived.Test.YtfpianecohobjaaVPx21
import Derived.Test.YtfpianecohobjaaVPx27
import Derived.Test.YtfpianecohobjaaVPx28
import Derived.Test.YtfpianecohobjaaVPx7
import Derived.Test.YtfpianecohobjaaVPx8
namespace Go.Proofs.Ytfpianecohobjaa.P
open Go.RowKit Go.Proofs.YtfpianecohobjaaW.PrintWords Go.Proofs.YtfpianecohobjaaW.PrintLast Go.Proofs.YtfpianecohobjaaW.PrintMore
set_option linter.unusedVariables false
set_option linter.unusedSimpArgs false
def types_Ancestors.f (k : Nat) (l0_0 : List (S68)) (l0_1 : List (S71)) (a1 : Int) : Option (List Int × Int) := (types_given.f k l0_0 l0_1 (([a1] : List Int))).bind fun t506 => (if t506 = 0 then ((types_line.f k l0_0 l0_1 a1).bind fun t507 => (some (t507, 0))) else (some (([] : List Int), t506)))
set_option maxHeartbeats 8000000 in
set_option maxRecDepth 100000 in
theorem types_Ancestors.calls (k : Nat) (A0_0 : Option Addr) (c0_0 : Nat) (l0_0 : List (S68)) (A0_1 : Option Addr) (c0_1 : Nat) (l0_1 : List (S71)) (a1 : Int) (r1 : List Int) (r2 : Int) (w : World) (hr0_0 : Kd.C k68 w A0_0 l0_0.length l0_0) (hc0_0 : l0_0.length ≤ c0_0) (hr0_1 : Kd.C k71 w A0_1 l0_1.length l0_1) (hc0_1 : l0_1.length ≤ c0_1) (h : types_Ancestors.f k l0_0 l0_1 a1 = some (r1, r2)) :
  Calls Try.prog 25 #[.agg #[.slice A0_0 l0_0.length c0_0, .slice A0_1 l0_1.length c0_1], .int .i64 a1] w fun e w' => ∃ v0_ : Value, e = .returned (.tuple #[v0_, .int .i64 r2]) ∧ Kd.R (Kd.int .i64) 3 w' w.heap.size (fun _ => True) v0_ r1 ∧ Below w.heap.size w w' := by
 have hu25 := Try.underlying25
 have HR0_0 := Aside0.mk hr0_0
 have HC0_0 := Aside0.mk hc0_0
 clear hr0_0 hc0_0
 have HR0_1 := Aside0.mk hr0_1
 have HC0_1 := Aside0.mk hc0_1
 clear hr0_1 hc0_1
 have HB := Aside0.mk (Below.refl w.heap.size w)
 have H : ((types_given.f k l0_0 l0_1 (([a1] : List Int))).bind fun t506 => (if t506 = 0 then ((types_line.f k l0_0 l0_1 a1).bind fun t507 => (some (t507, 0))) else (some (([] : List Int), t506)))) = some (r1, r2) := h
 clear h
 obtain ⟨y503, hy503⟩ : ∃ y_ : List Int, y_ = (([a1] : List Int)) := ⟨_, rfl⟩
 replace H : ((types_given.f k l0_0 l0_1 y503).bind fun t506 => (if t506 = 0 then ((types_line.f k l0_0 l0_1 a1).bind fun t507 => (some (t507, 0))) else (some (([] : List Int), t506)))) = some (r1, r2) := by first | (rw [hy503]; with_reducible exact H) | (have H2_ := (Option.bind_some _ _).symm.trans H; rw [hy503]; with_reducible exact H2_) | (have H2_ := (Option.bind_some _ _).symm.trans H; with_reducible exact H2_) | with_reducible exact H | (rw [hy503]; exact H) | exact H
 have Ny503 := Aside0.mk hy503
 clear hy503
 replace H := Option.bind_eq_some_iff.mp H
 obtain ⟨t506, A30, H⟩ := H
 replace H : (if t506 = 0 then ((types_line.f k l0_0 l0_1 a1).bind fun t507 => (some (t507, 0))) else (some (([] : List Int), t506))) = some (r1, r2) := H
 have A3 := Aside0.mk A30
 clear A30
 by_cases c4 : t506 = 0
 ·rw [if_pos c4] at H
  have c4b0 : (t506 == 0) = true := beq_iff_eq.mpr c4
  have c4b1 : (t506 != 0) = false := bne_eq_false_iff_eq.mpr c4
  clear c4
  replace H := Option.bind_eq_some_iff.mp H
  obtain ⟨t507, A50, H⟩ := H
  replace H : (some (t507, 0)) = some (r1, r2) := H
  have A5 := Aside0.mk A50
  clear A50
  simp only [Option.some.injEq, Prod.mk.injEq] at H
  obtain ⟨rfl, rfl⟩ := H
  go_enter Try.func25, Try.ntmps25
  go_wp2_with (first | ((with_reducible refine gate_dst (N := 2) rfl ?_); refine box_event ?hg (N := 2) ?hd (cs := #[.slice A0_0 l0_0.length c0_0, .slice A0_1 l0_1.length c0_1]) (t := 25) ?hr ?_; (case hd => rfl); (case hg => rfl); (case hr => first | (go_simp; done) | (go_simp; rfl)); intro gb502 hg w6 hbox hb; have BK502 := Aside0.mk (hbox); have GW502 := bsz HB hg; have GE502 := bsz HB hg; replace HB := bstep HB hb; clear hb hbox hg; obtain ⟨hcz7_0, hcz7_1, hfz7_0, hfz7_1⟩ := cz2 BK502) | ((with_reducible refine gate_dst (N := 9) rfl ?_); refine Kd.R_lit (Kd.int .i64) _ 3 ?hg (N := 9) ?hd (xs := ([a1] : List Int)) (inner := [.int .i64 a1]) (ok := fun _ => True) (okp := fun _ => True) ?hr ?hp (fun _ hk => hk) trivial (Below.refl _ _) (Nat.le_refl _) (by simp) ?_; (case hd => rfl); (case hg => rfl); (case hr => first | (go_simp; done) | (go_simp; rfl)); (case hp => exact (Reps.one (show Kd.M (Kd.int .i64) _ _ _ a1 [.int .i64 a1] from rfl) (Reps.none _ _))); intro v504 w8 ho9 hb hg_ hnew_; clear hg_ hnew_; (first | rw [← Ny503.out] at ho9 | (simp only [Int.reduceToNat] at ho9; rw [← Ny503.out] at ho9)); have HO505 := Aside0.mk (Kd.R_lower ho9 (below_size (bb HB))); replace BK502 := bkb BK502 hb; replace HB := bstep HB hb; clear hb ho9; obtain ⟨Ao10, co10, eo10⟩ := Kd.R_slice HO505.out; subst eo10) | ((with_reducible refine gate_callee (f := 43) rfl ?_); refine gl 10 Try.func43 #[.agg #[.slice A0_0 l0_0.length c0_0, .slice A0_1 l0_1.length c0_1], .slice Ao10 y503.length co10] (h := ?_); (with_reducible refine (types_given.calls k _ _ l0_0 _ _ l0_1 _ _ y503 t506 _ ?side1 ?side2 ?side3 ?side4 ?side5 ?side6 A3.out).mono ?_); (case side1 => exact cb HR0_0 HB); (case side2 => exact HC0_0.out); (case side3 => exact cb HR0_1 HB); (case side4 => exact HC0_1.out); (case side5 => repeat (first | exact (Kd.R_reads' HO505.out).2.2 | (with_reducible refine Kd.C_alloc ?_ _) | (with_reducible refine Kd.C_drewN ?_ _) | (with_reducible refine Kd.C_drew ?_))); (case side6 => exact (Kd.R_reads' HO505.out).2.1); rintro e w11 ⟨rfl, hb⟩; refine ⟨_, rfl, ?_⟩; replace HO505 := kRb HO505 hb; replace BK502 := bkb BK502 hb; replace HB := bstep HB hb; (try clear hb); (try clear hb2); (try clear hk); (try clear hi); obtain ⟨hcz12_0, hcz12_1, hfz12_0, hfz12_1⟩ := cz2 BK502) | ((with_reducible refine gate_callee (f := 48) rfl ?_); refine gl 16 Try.func48 #[.agg #[.slice A0_0 l0_0.length c0_0, .slice A0_1 l0_1.length c0_1], .int .i64 a1] (h := ?_); (with_reducible refine (types_line.calls k _ _ l0_0 _ _ l0_1 a1 t507 _ ?side1 ?side2 ?side3 ?side4 A5.out).mono ?_); (case side1 => exact cb HR0_0 HB); (case side2 => exact HC0_0.out); (case side3 => exact cb HR0_1 HB); (case side4 => exact HC0_1.out); rintro e w13 ⟨v508, rfl, ho0, hb⟩; refine ⟨_, rfl, ?_⟩; have HO509 := Aside0.mk (Kd.R_lower (Kd.R_new' ho0 (Kd.R_lt (kR HO505))) (below_size (bb HB))); replace HO505 := Aside0.mk (Kd.R_elder' (kR HO505) (Kd.R_base ho0) hb); replace BK502 := bkb BK502 hb; replace HB := bstep HB hb; (try clear hb); (try clear hb2); (try clear hk); (try clear hi); (try clear ho0)))
  go_ret2
  exact ⟨_, erf, by (with_reducible repeat (first | apply Kd.R_alloc | apply Kd.R_drewN | apply Kd.R_drew)); exact Kd.R_mono HO509.out (fun _ hk => trivial), bb HB⟩
 ·rw [if_neg c4] at H
  have c4b0 : (t506 == 0) = false := beq_eq_false_iff_ne.mpr c4
  have c4b1 : (t506 != 0) = true := bne_iff_ne.mpr c4
  simp only [Option.some.injEq, Prod.mk.injEq] at H
  obtain ⟨rfl, rfl⟩ := H
  go_enter Try.func25, Try.ntmps25
  go_wp2_with (first | ((with_reducible refine gate_dst (N := 2) rfl ?_); refine box_event ?hg (N := 2) ?hd (cs := #[.slice A0_0 l0_0.length c0_0, .slice A0_1 l0_1.length c0_1]) (t := 25) ?hr ?_; (case hd => rfl); (case hg => rfl); (case hr => first | (go_simp; done) | (go_simp; rfl)); intro gb502 hg w14 hbox hb; have BK502 := Aside0.mk (hbox); have GW502 := bsz HB hg; have GE502 := bsz HB hg; replace HB := bstep HB hb; clear hb hbox hg; obtain ⟨hcz15_0, hcz15_1, hfz15_0, hfz15_1⟩ := cz2 BK502) | ((with_reducible refine gate_dst (N := 9) rfl ?_); refine Kd.R_lit (Kd.int .i64) _ 3 ?hg (N := 9) ?hd (xs := ([a1] : List Int)) (inner := [.int .i64 a1]) (ok := fun _ => True) (okp := fun _ => True) ?hr ?hp (fun _ hk => hk) trivial (Below.refl _ _) (Nat.le_refl _) (by simp) ?_; (case hd => rfl); (case hg => rfl); (case hr => first | (go_simp; done) | (go_simp; rfl)); (case hp => exact (Reps.one (show Kd.M (Kd.int .i64) _ _ _ a1 [.int .i64 a1] from rfl) (Reps.none _ _))); intro v504 w16 ho17 hb hg_ hnew_; clear hg_ hnew_; (first | rw [← Ny503.out] at ho17 | (simp only [Int.reduceToNat] at ho17; rw [← Ny503.out] at ho17)); have HO505 := Aside0.mk (Kd.R_lower ho17 (below_size (bb HB))); replace BK502 := bkb BK502 hb; replace HB := bstep HB hb; clear hb ho17; obtain ⟨Ao18, co18, eo18⟩ := Kd.R_slice HO505.out; subst eo18) | ((with_reducible refine gate_callee (f := 43) rfl ?_); refine gl 10 Try.func43 #[.agg #[.slice A0_0 l0_0.length c0_0, .slice A0_1 l0_1.length c0_1], .slice Ao18 y503.length co18] (h := ?_); (with_reducible refine (types_given.calls k _ _ l0_0 _ _ l0_1 _ _ y503 t506 _ ?side1 ?side2 ?side3 ?side4 ?side5 ?side6 A3.out).mono ?_); (case side1 => exact cb HR0_0 HB); (case side2 => exact HC0_0.out); (case side3 => exact cb HR0_1 HB); (case side4 => exact HC0_1.out); (case side5 => repeat (first | exact (Kd.R_reads' HO505.out).2.2 | (with_reducible refine Kd.C_alloc ?_ _) | (with_reducible refine Kd.C_drewN ?_ _) | (with_reducible refine Kd.C_drew ?_))); (case side6 => exact (Kd.R_reads' HO505.out).2.1); rintro e w19 ⟨rfl, hb⟩; refine ⟨_, rfl, ?_⟩; replace HO505 := kRb HO505 hb; replace BK502 := bkb BK502 hb; replace HB := bstep HB hb; (try clear hb); (try clear hb2); (try clear hk); (try clear hi)))
  go_ret2
  exact ⟨_, erf, by first | exact Kd.R_nil _ _ _ _ _ | exact Kd.N_nil _ _ _ _ _ | exact Kd.V_nil _ _ _ _ _ | exact Kd.Q_nil _ _ _ _ _ | exact Kd.S_nil _ _ _ _ _, bb HB⟩
def q4_Ancestors.l0 : Nat → Int → List Int → Int → List (S68) → List (S71) → Option (List Int × Int)
 | 0, _, _, _, _, _ => none
 | k + 1, x1, x7, x8, x511000, x511001 => if x8 ≤ x1 then ((q4_Below1.f k x511000 x511001 x1 x8).bind fun t512 => (if t512 = true then (if x7.length < 17592186044416 then (q4_Ancestors.l0 k x1 (x7 ++ [x8]) (wrap64 (x8 + 1)) x511000 x511001) else (none)) else (q4_Ancestors.l0 k x1 x7 (wrap64 (x8 + 1)) x511000 x511001))) else (some (x7, 0))
def q4_Ancestors.f (k : Nat) (l0_0 : List (S68)) (l0_1 : List (S71)) (a1 : Int) : Option (List Int × Int) := (q4_given.f k l0_0 l0_1 a1 a1).bind fun t511 => (if t511 = 0 then (q4_Ancestors.l0 k a1 ([] : List Int) 0 l0_0 l0_1) else (some (([] : List Int), t511)))
set_option maxHeartbeats 8000000 in
set_option maxRecDepth 100000 in
theorem q4_Ancestors.calls (k : Nat) (A0_0 : Option Addr) (c0_0 : Nat) (l0_0 : List (S68)) (A0_1 : Option Addr) (c0_1 : Nat) (l0_1 : List (S71)) (a1 : Int) (r1 : List Int) (r2 : Int) (w : World) (hr0_0 : Kd.C k68 w A0_0 l0_0.length l0_0) (hc0_0 : l0_0.length ≤ c0_0) (hr0_1 : Kd.C k71 w A0_1 l0_1.length l0_1) (hc0_1 : l0_1.length ≤ c0_1) (h : q4_Ancestors.f k l0_0 l0_1 a1 = some (r1, r2)) :
  Calls Try.prog 26 #[.agg #[.slice A0_0 l0_0.length c0_0, .slice A0_1 l0_1.length c0_1], .int .i64 a1] w fun e w' => ∃ v0_ : Value, e = .returned (.tuple #[v0_, .int .i64 r2]) ∧ Kd.R (Kd.int .i64) 3 w' w.heap.size (fun _ => True) v0_ r1 ∧ Below w.heap.size w w' := by
 have hu25 := Try.underlying25
 have HR0_0 := Aside0.mk hr0_0
 have HC0_0 := Aside0.mk hc0_0
 clear hr0_0 hc0_0
 have HR0_1 := Aside0.mk hr0_1
 have HC0_1 := Aside0.mk hc0_1
 clear hr0_1 hc0_1
 have HB := Aside0.mk (Below.refl w.heap.size w)
 have H : ((q4_given.f k l0_0 l0_1 a1 a1).bind fun t511 => (if t511 = 0 then (q4_Ancestors.l0 k a1 ([] : List Int) 0 l0_0 l0_1) else (some (([] : List Int), t511)))) = some (r1, r2) := h
 clear h
 replace H := Option.bind_eq_some_iff.mp H
 obtain ⟨t511, A30, H⟩ := H
 replace H : (if t511 = 0 then (q4_Ancestors.l0 k a1 ([] : List Int) 0 l0_0 l0_1) else (some (([] : List Int), t511))) = some (r1, r2) := H
 have A3 := Aside0.mk A30
 clear A30
 by_cases c4 : t511 = 0
 ·rw [if_pos c4] at H
  have c4b0 : (t511 == 0) = true := beq_iff_eq.mpr c4
  have c4b1 : (t511 != 0) = false := bne_eq_false_iff_eq.mpr c4
  clear c4
  have H' := Aside0.mk H
  clear H
  go_enter Try.func26, Try.ntmps26
  go_wp2_with (first | ((with_reducible refine gate_dst (N := 2) rfl ?_); refine box_event ?hg (N := 2) ?hd (cs := #[.slice A0_0 l0_0.length c0_0, .slice A0_1 l0_1.length c0_1]) (t := 25) ?hr ?_; (case hd => rfl); (case hg => rfl); (case hr => first | (go_simp; done) | (go_simp; rfl)); intro gb510 hg w5 hbox hb; have BK510 := Aside0.mk (hbox); have GW510 := bsz HB hg; have GE510 := bsz HB hg; replace HB := bstep HB hb; clear hb hbox hg; obtain ⟨hcz6_0, hcz6_1, hfz6_0, hfz6_1⟩ := cz2 BK510) | ((with_reducible refine gate_callee (f := 45) rfl ?_); refine gl 12 Try.func45 #[.agg #[.slice A0_0 l0_0.length c0_0, .slice A0_1 l0_1.length c0_1], .int .i64 a1, .int .i64 a1] (h := ?_); (with_reducible refine (q4_given.calls k _ _ l0_0 _ _ l0_1 a1 a1 t511 _ ?side1 ?side2 ?side3 ?side4 A3.out).mono ?_); (case side1 => exact cb HR0_0 HB); (case side2 => exact HC0_0.out); (case side3 => exact cb HR0_1 HB); (case side4 => exact HC0_1.out); rintro e w7 ⟨rfl, hb⟩; refine ⟨_, rfl, ?_⟩; replace BK510 := bkb BK510 hb; replace HB := bstep HB hb; (try clear hb); (try clear hb2); (try clear hk); (try clear hi)))
  go_loopg [7, 8] k (fun kq v7 v8 w' => ∃ (x7_1 : List Int) (x8_1 : Int), v8 = .int .i64 x8_1 ∧ Aside0 (q4_Ancestors.l0 kq a1 x7_1 x8_1 l0_0 l0_1 = some (r1, r2)) ∧ Aside0 (kq ≤ k) ∧ Aside0 (Kd.R (Kd.int .i64) 3 w' w.heap.size (fun _ => True) v7 x7_1) ∧ Aside0 (w'.heap[gb510]? = some (.cells #[(.slice A0_0 l0_0.length c0_0), (.slice A0_1 l0_1.length c0_1)] 25 (0, 0))) ∧ Aside0 (Below w.heap.size w w'))
  case atStart => exact ⟨(([] : List Int)), (0), eqs, H', ⟨Nat.le_refl _⟩, ⟨by first | exact Kd.R_nil _ _ _ _ _ | exact Kd.N_nil _ _ _ _ _ | exact Kd.V_nil _ _ _ _ _ | exact Kd.Q_nil _ _ _ _ _ | exact Kd.S_nil _ _ _ _ _⟩, ⟨bk BK510⟩, ⟨bb HB⟩⟩
  case round =>
   clear H'
   clear c4b0 c4b1 hcz6_0 hcz6_1 hfz6_0 hfz6_1
   obtain ⟨x7_1, x8_1, rfl, HA, HK1, HO_7, BK510, HB⟩ := hrel
   cases gk with
   | zero => exact absurd HA.out (by simp [q4_Ancestors.l0])
   | succ k1 =>
    have H := HA.out
    clear HA
    simp only [q4_Ancestors.l0] at H
    by_cases c8 : x8_1 ≤ a1
    ·rw [if_pos c8] at H
     have c8b0 : decide (x8_1 ≤ a1) = true := decide_eq_true c8
     clear c8
     replace H := Option.bind_eq_some_iff.mp H
     obtain ⟨t512, A90, H⟩ := H
     replace H : (if t512 = true then (if x7_1.length < 17592186044416 then (q4_Ancestors.l0 k1 a1 (x7_1 ++ [x8_1]) (wrap64 (x8_1 + 1)) l0_0 l0_1) else (none)) else (q4_Ancestors.l0 k1 a1 x7_1 (wrap64 (x8_1 + 1)) l0_0 l0_1)) = some (r1, r2) := H
     have A9 := Aside0.mk A90
     clear A90
     by_cases c10 : t512 = true
     ·subst c10
      replace H := ift H
      by_cases c11 : x7_1.length < 17592186044416
      ·rw [if_pos c11] at H
       have LMc11 := Aside0.mk c11
       clear c11
       obtain ⟨y513, hy513⟩ : ∃ y_ : List Int, y_ = (x7_1 ++ [x8_1]) := ⟨_, rfl⟩
       replace H : (q4_Ancestors.l0 k1 a1 y513 (wrap64 (x8_1 + 1)) l0_0 l0_1) = some (r1, r2) := by first | (rw [hy513]; with_reducible exact H) | (have H2_ := (Option.bind_some _ _).symm.trans H; rw [hy513]; with_reducible exact H2_) | (have H2_ := (Option.bind_some _ _).symm.trans H; with_reducible exact H2_) | with_reducible exact H | (rw [hy513]; exact H) | exact H
       have Ny513 := Aside0.mk hy513
       clear hy513
       have H' := Aside0.mk H
       clear H
       obtain ⟨hcz12_0, hcz12_1, hfz12_0, hfz12_1⟩ := cz2 BK510
       go_wp2_with (first | ((with_reducible refine gate_callee (f := 46) rfl ?_); refine gl 24 Try.func46 #[.agg #[.slice A0_0 l0_0.length c0_0, .slice A0_1 l0_1.length c0_1], .int .i64 a1, .int .i64 x8_1] (h := ?_); (with_reducible refine (q4_Below1.calls k1 _ _ l0_0 _ _ l0_1 a1 x8_1 true _ ?side1 ?side2 ?side3 ?side4 A9.out).mono ?_); (case side1 => exact cb HR0_0 HB); (case side2 => exact HC0_0.out); (case side3 => exact cb HR0_1 HB); (case side4 => exact HC0_1.out); rintro e w13 ⟨rfl, hb⟩; refine ⟨_, rfl, ?_⟩; replace HO_7 := kRb HO_7 hb; replace BK510 := bkb BK510 hb; replace HB := bstep HB hb; (try clear hb); (try clear hb2); (try clear hk); (try clear hi)) | ((with_reducible refine gate_builtin (b := .append) (xs := #[.tmp 25, .tmp 27]) rfl ?_); at_builtin; refine Kd.R_append (Kd.int .i64) (w0 := w) w.heap.size rfl (.tmp 25) (.tmp 27) 42 3 (.int .i64 0) 8 rfl Try.underlying42 info3 rfl (by decide) (by omega) u7 x7_1 x8_1 [.int .i64 x8_1] (fun _ => True) (fun _ => False) rfl rfl ?aP (fun _ hk => hk.elim) ?aF ?aO ?aB ?aS ?aL ?_; (case aP => exact rfl); (case aB => exact (bb HB)); (case aF => exact (fun _ _ => trivial)); (case aO => exact (kR HO_7)); (case aS => exact (below_size (bb HB))); (case aL => have := LMc11.out; omega); intro v514 w14 ho hb hg hat; rw [← Ny513.out] at ho; replace BK510 := Aside0.mk (blk_grown (g := gb510) (o := .cells #[.slice A0_0 l0_0.length c0_0, .slice A0_1 l0_1.length c0_1] 25 (0, 0)) (bk BK510) hg (Kd.R_ne HO_7.out BK510.out (by decide))); replace HB := Aside0.mk (hb); have HO515 := Aside0.mk (ho); clear HO_7 ho hb hg hat))
       go_roundg k1
       case measure => have := HK1.out; omega
       case rel => exact ⟨(y513), (wrap64 (x8_1 + 1)), eqs, H', ⟨by have := HK1.out; omega⟩, ⟨kR HO515⟩, ⟨bk BK510⟩, ⟨bb HB⟩⟩
      ·rw [if_neg c11] at H
       exact absurd H (by simp)
     ·replace c10 := Bool.eq_false_iff.mpr c10
      subst c10
      replace H := iff_ H
      have H' := Aside0.mk H
      clear H
      obtain ⟨hcz15_0, hcz15_1, hfz15_0, hfz15_1⟩ := cz2 BK510
      go_wp2_with ((with_reducible refine gate_callee (f := 46) rfl ?_); refine gl 24 Try.func46 #[.agg #[.slice A0_0 l0_0.length c0_0, .slice A0_1 l0_1.length c0_1], .int .i64 a1, .int .i64 x8_1] (h := ?_); (with_reducible refine (q4_Below1.calls k1 _ _ l0_0 _ _ l0_1 a1 x8_1 false _ ?side1 ?side2 ?side3 ?side4 A9.out).mono ?_); (case side1 => exact cb HR0_0 HB); (case side2 => exact HC0_0.out); (case side3 => exact cb HR0_1 HB); (case side4 => exact HC0_1.out); rintro e w16 ⟨rfl, hb⟩; refine ⟨_, rfl, ?_⟩; replace HO_7 := kRb HO_7 hb; replace BK510 := bkb BK510 hb; replace HB := bstep HB hb; (try clear hb); (try clear hb2); (try clear hk); (try clear hi))
      go_roundg k1
      case measure => have := HK1.out; omega
      case rel => exact ⟨(x7_1), (wrap64 (x8_1 + 1)), eqs, H', ⟨by have := HK1.out; omega⟩, ⟨kR HO_7⟩, ⟨bk BK510⟩, ⟨bb HB⟩⟩
    ·rw [if_neg c8] at H
     have c8b0 : decide (x8_1 ≤ a1) = false := decide_eq_false c8
     clear c8
     simp only [Option.some.injEq, Prod.mk.injEq] at H
     obtain ⟨rfl, rfl⟩ := H
     go_wp2
     go_ret2
     exact ⟨_, erf, kR HO_7, bb HB⟩
 ·rw [if_neg c4] at H
  have c4b0 : (t511 == 0) = false := beq_eq_false_iff_ne.mpr c4
  have c4b1 : (t511 != 0) = true := bne_iff_ne.mpr c4
  simp only [Option.some.injEq, Prod.mk.injEq] at H
  obtain ⟨rfl, rfl⟩ := H
  go_enter Try.func26, Try.ntmps26
  go_wp2_with (first | ((with_reducible refine gate_dst (N := 2) rfl ?_); refine box_event ?hg (N := 2) ?hd (cs := #[.slice A0_0 l0_0.length c0_0, .slice A0_1 l0_1.length c0_1]) (t := 25) ?hr ?_; (case hd => rfl); (case hg => rfl); (case hr => first | (go_simp; done) | (go_simp; rfl)); intro gb510 hg w17 hbox hb; have BK510 := Aside0.mk (hbox); have GW510 := bsz HB hg; have GE510 := bsz HB hg; replace HB := bstep HB hb; clear hb hbox hg; obtain ⟨hcz18_0, hcz18_1, hfz18_0, hfz18_1⟩ := cz2 BK510) | ((with_reducible refine gate_callee (f := 45) rfl ?_); refine gl 12 Try.func45 #[.agg #[.slice A0_0 l0_0.length c0_0, .slice A0_1 l0_1.length c0_1], .int .i64 a1, .int .i64 a1] (h := ?_); (with_reducible refine (q4_given.calls k _ _ l0_0 _ _ l0_1 a1 a1 t511 _ ?side1 ?side2 ?side3 ?side4 A3.out).mono ?_); (case side1 => exact cb HR0_0 HB); (case side2 => exact HC0_0.out); (case side3 => exact cb HR0_1 HB); (case side4 => exact HC0_1.out); rintro e w19 ⟨rfl, hb⟩; refine ⟨_, rfl, ?_⟩; replace BK510 := bkb BK510 hb; replace HB := bstep HB hb; (try clear hb); (try clear hb2); (try clear hk); (try clear hi)))
  go_ret2
  exact ⟨_, erf, by first | exact Kd.R_nil _ _ _ _ _ | exact Kd.N_nil _ _ _ _ _ | exact Kd.V_nil _ _ _ _ _ | exact Kd.Q_nil _ _ _ _ _ | exact Kd.S_nil _ _ _ _ _, bb HB⟩
end Go.Proofs.Ytfpianecohobjaa.P
