/- typesOrder_holds, typesBounds_holds, typesInherit_holds: a part of the proof that the law returns true for every input. No condition. -/
import Derived.Test.YtfpianecohobjaaAPx0
import Derived.Test.YtfpianecohobjaaAPx7
import Derived.Test.YtfpianecohobjaaAPx8
namespace Go.Proofs.Ytfpianecohobjaa.P
open Go.RowKit Go.Proofs.YtfpianecohobjaaW.PrintWords Go.Proofs.YtfpianecohobjaaW.PrintLast Go.Proofs.YtfpianecohobjaaW.PrintMore
set_option linter.unusedVariables false
set_option linter.unusedSimpArgs false
def types_is.f (k : Nat) (l0_0 : List (S68)) (l0_1 : List (S71)) (a1 : Int) (a2 : Int) : Option (Bool) := (types_line.f k l0_0 l0_1 a1).bind fun t201 => ((slices_Contains_int_int.f k t201 a2).bind fun t204 => (some t204))
theorem types_is.mono : ∀ a0 a1 a2 a3 k, LeO (types_is.f k a0 a1 a2 a3) (types_is.f (k + 1) a0 a1 a2 a3) := by
 intro a0 a1 a2 a3 k
 unfold types_is.f
 repeat' first
   | (with_reducible exact slices_Contains_int_int.mono _ _ _)
   | (with_reducible exact types_line.mono _ _ _ _)
   | (with_reducible exact LeO.refl _)
   | (with_reducible exact LeO.none _)
   | (with_reducible refine LeO.ite ?_ ?_)
   | (with_reducible refine LeO.bind ?_ (fun _ => ?_))
   | exact slices_Contains_int_int.mono _ _ _
   | exact types_line.mono _ _ _ _
   | exact LeO.none _
   | refine LeO.ite ?_ ?_
   | refine LeO.bind ?_ (fun _ => ?_)
set_option maxHeartbeats 8000000 in
set_option maxRecDepth 100000 in
theorem types_is.calls (k : Nat) (A0_0 : Option Addr) (c0_0 : Nat) (l0_0 : List (S68)) (A0_1 : Option Addr) (c0_1 : Nat) (l0_1 : List (S71)) (a1 : Int) (a2 : Int) (r : Bool) (w : World) (hr0_0 : Kd.C k68 w A0_0 l0_0.length l0_0) (hc0_0 : l0_0.length ≤ c0_0) (hr0_1 : Kd.C k71 w A0_1 l0_1.length l0_1) (hc0_1 : l0_1.length ≤ c0_1) (h : types_is.f k l0_0 l0_1 a1 a2 = some r) :
  Calls Try.prog 44 #[.agg #[.slice A0_0 l0_0.length c0_0, .slice A0_1 l0_1.length c0_1], .int .i64 a1, .int .i64 a2] w fun e w' => e = .returned (.bool r) ∧ Below w.heap.size w w' := by
 have hu25 := Try.underlying25
 have HR0_0 := Aside0.mk hr0_0
 have HC0_0 := Aside0.mk hc0_0
 clear hr0_0 hc0_0
 have HR0_1 := Aside0.mk hr0_1
 have HC0_1 := Aside0.mk hc0_1
 clear hr0_1 hc0_1
 have HB := Aside0.mk (Below.refl w.heap.size w)
 have H : ((types_line.f k l0_0 l0_1 a1).bind fun t201 => ((slices_Contains_int_int.f k t201 a2).bind fun t204 => (some t204))) = some r := h
 clear h
 replace H := Option.bind_eq_some_iff.mp H
 obtain ⟨t201, A40, H⟩ := H
 replace H : ((slices_Contains_int_int.f k t201 a2).bind fun t204 => (some t204)) = some r := H
 have A4 := Aside0.mk A40
 clear A40
 replace H := Option.bind_eq_some_iff.mp H
 obtain ⟨t204, A50, H⟩ := H
 replace H : (some t204) = some r := H
 have A5 := Aside0.mk A50
 clear A50
 obtain rfl := Option.some.inj H
 go_enter Try.func44, Try.ntmps44
 go_wp2_with (first | ((with_reducible refine gate_dst (N := 3) rfl ?_); refine box_event ?hg (N := 3) ?hd (cs := #[.slice A0_0 l0_0.length c0_0, .slice A0_1 l0_1.length c0_1]) (t := 25) ?hr ?_; (case hd => rfl); (case hg => rfl); (case hr => first | (go_simp; done) | (go_simp; rfl)); intro gb200 hg w6 hbox hb; have BK200 := Aside0.mk (hbox); have GW200 := bsz HB hg; have GE200 := bsz HB hg; replace HB := bstep HB hb; clear hb hbox hg; obtain ⟨hcz7_0, hcz7_1, hfz7_0, hfz7_1⟩ := cz2 BK200) | ((with_reducible refine gate_callee (f := 48) rfl ?_); refine gl 9 Try.func48 #[.agg #[.slice A0_0 l0_0.length c0_0, .slice A0_1 l0_1.length c0_1], .int .i64 a1] (h := ?_); (with_reducible refine (types_line.calls k _ _ l0_0 _ _ l0_1 a1 t201 _ ?side1 ?side2 ?side3 ?side4 A4.out).mono ?_); (case side1 => exact cb HR0_0 HB); (case side2 => exact HC0_0.out); (case side3 => exact cb HR0_1 HB); (case side4 => exact HC0_1.out); rintro e w8 ⟨v202, rfl, ho0, hb⟩; refine ⟨_, rfl, ?_⟩; have HO203 := Aside0.mk (Kd.R_lower ho0 (below_size (bb HB))); replace BK200 := bkb BK200 hb; replace HB := bstep HB hb; (try clear hb); (try clear hb2); (try clear hk); (try clear hi); (try clear ho0); obtain ⟨Ao9, co9, eo9⟩ := Kd.R_slice HO203.out; subst eo9) | ((with_reducible refine gate_callee (f := 72) rfl ?_); refine gl 11 Try.func72 #[.slice Ao9 t201.length co9, .int .i64 a2] (h := ?_); (with_reducible refine (slices_Contains_int_int.calls k _ _ t201 a2 t204 _ ?side1 ?side2 A5.out).mono ?_); (case side1 => repeat (first | exact (Kd.R_reads' HO203.out).2.2 | (with_reducible refine Kd.C_alloc ?_ _) | (with_reducible refine Kd.C_drewN ?_ _) | (with_reducible refine Kd.C_drew ?_))); (case side2 => exact (Kd.R_reads' HO203.out).2.1); rintro e w' ⟨rfl, ⟨nd, rfl⟩⟩; refine ⟨_, rfl, ?_⟩))
 go_ret
 exact ⟨erf, bb HB⟩
def types_Meet.f (k : Nat) (l0_0 : List (S68)) (l0_1 : List (S71)) (a1 : Int) (a2 : Int) : Option (Int × Int) := (types_given.f k l0_0 l0_1 (([a1, a2] : List Int))).bind fun t209 => (if t209 = 0 then ((types_is.f k l0_0 l0_1 a1 a2).bind fun t210 => (if t210 = true then (some (a1, 0)) else ((types_is.f k l0_0 l0_1 a2 a1).bind fun t211 => (if t211 = true then (some (a2, 0)) else (some (0, 13)))))) else (some (0, t209)))
theorem types_Meet.mono : ∀ a0 a1 a2 a3 k, LeO (types_Meet.f k a0 a1 a2 a3) (types_Meet.f (k + 1) a0 a1 a2 a3) := by
 intro a0 a1 a2 a3 k
 unfold types_Meet.f
 repeat' first
   | (with_reducible exact types_given.mono _ _ _ _)
   | (with_reducible exact types_is.mono _ _ _ _ _)
   | (with_reducible exact LeO.refl _)
   | (with_reducible exact LeO.none _)
   | (with_reducible refine LeO.ite ?_ ?_)
   | (with_reducible refine LeO.bind ?_ (fun _ => ?_))
   | exact types_given.mono _ _ _ _
   | exact types_is.mono _ _ _ _ _
   | exact LeO.none _
   | refine LeO.ite ?_ ?_
   | refine LeO.bind ?_ (fun _ => ?_)
set_option maxHeartbeats 8000000 in
set_option maxRecDepth 100000 in
theorem types_Meet.calls (k : Nat) (A0_0 : Option Addr) (c0_0 : Nat) (l0_0 : List (S68)) (A0_1 : Option Addr) (c0_1 : Nat) (l0_1 : List (S71)) (a1 : Int) (a2 : Int) (r1 : Int) (r2 : Int) (w : World) (hr0_0 : Kd.C k68 w A0_0 l0_0.length l0_0) (hc0_0 : l0_0.length ≤ c0_0) (hr0_1 : Kd.C k71 w A0_1 l0_1.length l0_1) (hc0_1 : l0_1.length ≤ c0_1) (h : types_Meet.f k l0_0 l0_1 a1 a2 = some (r1, r2)) :
  Calls Try.prog 16 #[.agg #[.slice A0_0 l0_0.length c0_0, .slice A0_1 l0_1.length c0_1], .int .i64 a1, .int .i64 a2] w fun e w' => e = .returned (.tuple #[.int .i64 r1, .int .i64 r2]) ∧ Below w.heap.size w w' := by
 have hu25 := Try.underlying25
 have HR0_0 := Aside0.mk hr0_0
 have HC0_0 := Aside0.mk hc0_0
 clear hr0_0 hc0_0
 have HR0_1 := Aside0.mk hr0_1
 have HC0_1 := Aside0.mk hc0_1
 clear hr0_1 hc0_1
 have HB := Aside0.mk (Below.refl w.heap.size w)
 have H : ((types_given.f k l0_0 l0_1 (([a1, a2] : List Int))).bind fun t209 => (if t209 = 0 then ((types_is.f k l0_0 l0_1 a1 a2).bind fun t210 => (if t210 = true then (some (a1, 0)) else ((types_is.f k l0_0 l0_1 a2 a1).bind fun t211 => (if t211 = true then (some (a2, 0)) else (some (0, 13)))))) else (some (0, t209)))) = some (r1, r2) := h
 clear h
 obtain ⟨y206, hy206⟩ : ∃ y_ : List Int, y_ = (([a1, a2] : List Int)) := ⟨_, rfl⟩
 replace H : ((types_given.f k l0_0 l0_1 y206).bind fun t209 => (if t209 = 0 then ((types_is.f k l0_0 l0_1 a1 a2).bind fun t210 => (if t210 = true then (some (a1, 0)) else ((types_is.f k l0_0 l0_1 a2 a1).bind fun t211 => (if t211 = true then (some (a2, 0)) else (some (0, 13)))))) else (some (0, t209)))) = some (r1, r2) := by first | (rw [hy206]; with_reducible exact H) | (have H2_ := (Option.bind_some _ _).symm.trans H; rw [hy206]; with_reducible exact H2_) | (have H2_ := (Option.bind_some _ _).symm.trans H; with_reducible exact H2_) | with_reducible exact H | (rw [hy206]; exact H) | exact H
 have Ny206 := Aside0.mk hy206
 clear hy206
 replace H := Option.bind_eq_some_iff.mp H
 obtain ⟨t209, A40, H⟩ := H
 replace H : (if t209 = 0 then ((types_is.f k l0_0 l0_1 a1 a2).bind fun t210 => (if t210 = true then (some (a1, 0)) else ((types_is.f k l0_0 l0_1 a2 a1).bind fun t211 => (if t211 = true then (some (a2, 0)) else (some (0, 13)))))) else (some (0, t209))) = some (r1, r2) := H
 have A4 := Aside0.mk A40
 clear A40
 by_cases c5 : t209 = 0
 ·rw [if_pos c5] at H
  have c5b0 : (t209 == 0) = true := beq_iff_eq.mpr c5
  have c5b1 : (t209 != 0) = false := bne_eq_false_iff_eq.mpr c5
  clear c5
  replace H := Option.bind_eq_some_iff.mp H
  obtain ⟨t210, A60, H⟩ := H
  replace H : (if t210 = true then (some (a1, 0)) else ((types_is.f k l0_0 l0_1 a2 a1).bind fun t211 => (if t211 = true then (some (a2, 0)) else (some (0, 13))))) = some (r1, r2) := H
  have A6 := Aside0.mk A60
  clear A60
  by_cases c7 : t210 = true
  ·subst c7
   replace H := ift H
   simp only [Option.some.injEq, Prod.mk.injEq] at H
   obtain ⟨rfl, rfl⟩ := H
   go_enter Try.func16, Try.ntmps16
   go_wp2_with (first | ((with_reducible refine gate_dst (N := 3) rfl ?_); refine box_event ?hg (N := 3) ?hd (cs := #[.slice A0_0 l0_0.length c0_0, .slice A0_1 l0_1.length c0_1]) (t := 25) ?hr ?_; (case hd => rfl); (case hg => rfl); (case hr => first | (go_simp; done) | (go_simp; rfl)); intro gb205 hg w8 hbox hb; have BK205 := Aside0.mk (hbox); have GW205 := bsz HB hg; have GE205 := bsz HB hg; replace HB := bstep HB hb; clear hb hbox hg; obtain ⟨hcz9_0, hcz9_1, hfz9_0, hfz9_1⟩ := cz2 BK205) | ((with_reducible refine gate_dst (N := 12) rfl ?_); refine Kd.R_lit (Kd.int .i64) _ 3 ?hg (N := 12) ?hd (xs := ([a1, a2] : List Int)) (inner := [.int .i64 a1, .int .i64 a2]) (ok := fun _ => True) (okp := fun _ => True) ?hr ?hp (fun _ hk => hk) trivial (Below.refl _ _) (Nat.le_refl _) (by simp) ?_; (case hd => rfl); (case hg => rfl); (case hr => first | (go_simp; done) | (go_simp; rfl)); (case hp => exact (Reps.one (show Kd.M (Kd.int .i64) _ _ _ a1 [.int .i64 a1] from rfl) (Reps.one (show Kd.M (Kd.int .i64) _ _ _ a2 [.int .i64 a2] from rfl) (Reps.none _ _)))); intro v207 w10 ho11 hb hg_ hnew_; clear hg_ hnew_; (first | rw [← Ny206.out] at ho11 | (simp only [Int.reduceToNat] at ho11; rw [← Ny206.out] at ho11)); have HO208 := Aside0.mk (Kd.R_lower ho11 (below_size (bb HB))); replace BK205 := bkb BK205 hb; replace HB := bstep HB hb; clear hb ho11; obtain ⟨Ao12, co12, eo12⟩ := Kd.R_slice HO208.out; subst eo12) | ((with_reducible refine gate_callee (f := 43) rfl ?_); refine gl 13 Try.func43 #[.agg #[.slice A0_0 l0_0.length c0_0, .slice A0_1 l0_1.length c0_1], .slice Ao12 y206.length co12] (h := ?_); (with_reducible refine (types_given.calls k _ _ l0_0 _ _ l0_1 _ _ y206 t209 _ ?side1 ?side2 ?side3 ?side4 ?side5 ?side6 A4.out).mono ?_); (case side1 => exact cb HR0_0 HB); (case side2 => exact HC0_0.out); (case side3 => exact cb HR0_1 HB); (case side4 => exact HC0_1.out); (case side5 => repeat (first | exact (Kd.R_reads' HO208.out).2.2 | (with_reducible refine Kd.C_alloc ?_ _) | (with_reducible refine Kd.C_drewN ?_ _) | (with_reducible refine Kd.C_drew ?_))); (case side6 => exact (Kd.R_reads' HO208.out).2.1); rintro e w13 ⟨rfl, hb⟩; refine ⟨_, rfl, ?_⟩; replace HO208 := kRb HO208 hb; replace BK205 := bkb BK205 hb; replace HB := bstep HB hb; (try clear hb); (try clear hb2); (try clear hk); (try clear hi); obtain ⟨hcz14_0, hcz14_1, hfz14_0, hfz14_1⟩ := cz2 BK205) | ((with_reducible refine gate_callee (f := 44) rfl ?_); refine gl 21 Try.func44 #[.agg #[.slice A0_0 l0_0.length c0_0, .slice A0_1 l0_1.length c0_1], .int .i64 a1, .int .i64 a2] (h := ?_); (with_reducible refine (types_is.calls k _ _ l0_0 _ _ l0_1 a1 a2 true _ ?side1 ?side2 ?side3 ?side4 A6.out).mono ?_); (case side1 => exact cb HR0_0 HB); (case side2 => exact HC0_0.out); (case side3 => exact cb HR0_1 HB); (case side4 => exact HC0_1.out); rintro e w15 ⟨rfl, hb⟩; refine ⟨_, rfl, ?_⟩; replace HO208 := kRb HO208 hb; replace BK205 := bkb BK205 hb; replace HB := bstep HB hb; (try clear hb); (try clear hb2); (try clear hk); (try clear hi)))
   go_ret2
   exact ⟨erf, bb HB⟩
  ·replace c7 := Bool.eq_false_iff.mpr c7
   subst c7
   replace H := iff_ H
   replace H := Option.bind_eq_some_iff.mp H
   obtain ⟨t211, A160, H⟩ := H
   replace H : (if t211 = true then (some (a2, 0)) else (some (0, 13))) = some (r1, r2) := H
   have A16 := Aside0.mk A160
   clear A160
   by_cases c17 : t211 = true
   ·subst c17
    replace H := ift H
    simp only [Option.some.injEq, Prod.mk.injEq] at H
    obtain ⟨rfl, rfl⟩ := H
    go_enter Try.func16, Try.ntmps16
    go_wp2_with (first | ((with_reducible refine gate_dst (N := 3) rfl ?_); refine box_event ?hg (N := 3) ?hd (cs := #[.slice A0_0 l0_0.length c0_0, .slice A0_1 l0_1.length c0_1]) (t := 25) ?hr ?_; (case hd => rfl); (case hg => rfl); (case hr => first | (go_simp; done) | (go_simp; rfl)); intro gb205 hg w18 hbox hb; have BK205 := Aside0.mk (hbox); have GW205 := bsz HB hg; have GE205 := bsz HB hg; replace HB := bstep HB hb; clear hb hbox hg; obtain ⟨hcz19_0, hcz19_1, hfz19_0, hfz19_1⟩ := cz2 BK205) | ((with_reducible refine gate_dst (N := 12) rfl ?_); refine Kd.R_lit (Kd.int .i64) _ 3 ?hg (N := 12) ?hd (xs := ([a1, a2] : List Int)) (inner := [.int .i64 a1, .int .i64 a2]) (ok := fun _ => True) (okp := fun _ => True) ?hr ?hp (fun _ hk => hk) trivial (Below.refl _ _) (Nat.le_refl _) (by simp) ?_; (case hd => rfl); (case hg => rfl); (case hr => first | (go_simp; done) | (go_simp; rfl)); (case hp => exact (Reps.one (show Kd.M (Kd.int .i64) _ _ _ a1 [.int .i64 a1] from rfl) (Reps.one (show Kd.M (Kd.int .i64) _ _ _ a2 [.int .i64 a2] from rfl) (Reps.none _ _)))); intro v207 w20 ho21 hb hg_ hnew_; clear hg_ hnew_; (first | rw [← Ny206.out] at ho21 | (simp only [Int.reduceToNat] at ho21; rw [← Ny206.out] at ho21)); have HO208 := Aside0.mk (Kd.R_lower ho21 (below_size (bb HB))); replace BK205 := bkb BK205 hb; replace HB := bstep HB hb; clear hb ho21; obtain ⟨Ao22, co22, eo22⟩ := Kd.R_slice HO208.out; subst eo22) | ((with_reducible refine gate_callee (f := 43) rfl ?_); refine gl 13 Try.func43 #[.agg #[.slice A0_0 l0_0.length c0_0, .slice A0_1 l0_1.length c0_1], .slice Ao22 y206.length co22] (h := ?_); (with_reducible refine (types_given.calls k _ _ l0_0 _ _ l0_1 _ _ y206 t209 _ ?side1 ?side2 ?side3 ?side4 ?side5 ?side6 A4.out).mono ?_); (case side1 => exact cb HR0_0 HB); (case side2 => exact HC0_0.out); (case side3 => exact cb HR0_1 HB); (case side4 => exact HC0_1.out); (case side5 => repeat (first | exact (Kd.R_reads' HO208.out).2.2 | (with_reducible refine Kd.C_alloc ?_ _) | (with_reducible refine Kd.C_drewN ?_ _) | (with_reducible refine Kd.C_drew ?_))); (case side6 => exact (Kd.R_reads' HO208.out).2.1); rintro e w23 ⟨rfl, hb⟩; refine ⟨_, rfl, ?_⟩; replace HO208 := kRb HO208 hb; replace BK205 := bkb BK205 hb; replace HB := bstep HB hb; (try clear hb); (try clear hb2); (try clear hk); (try clear hi); obtain ⟨hcz24_0, hcz24_1, hfz24_0, hfz24_1⟩ := cz2 BK205) | ((with_reducible refine gate_callee (f := 44) rfl ?_); refine gl 21 Try.func44 #[.agg #[.slice A0_0 l0_0.length c0_0, .slice A0_1 l0_1.length c0_1], .int .i64 a1, .int .i64 a2] (h := ?_); (with_reducible refine (types_is.calls k _ _ l0_0 _ _ l0_1 a1 a2 false _ ?side1 ?side2 ?side3 ?side4 A6.out).mono ?_); (case side1 => exact cb HR0_0 HB); (case side2 => exact HC0_0.out); (case side3 => exact cb HR0_1 HB); (case side4 => exact HC0_1.out); rintro e w25 ⟨rfl, hb⟩; refine ⟨_, rfl, ?_⟩; replace HO208 := kRb HO208 hb; replace BK205 := bkb BK205 hb; replace HB := bstep HB hb; (try clear hb); (try clear hb2); (try clear hk); (try clear hi); obtain ⟨hcz26_0, hcz26_1, hfz26_0, hfz26_1⟩ := cz2 BK205) | ((with_reducible refine gate_callee (f := 44) rfl ?_); refine gl 27 Try.func44 #[.agg #[.slice A0_0 l0_0.length c0_0, .slice A0_1 l0_1.length c0_1], .int .i64 a2, .int .i64 a1] (h := ?_); (with_reducible refine (types_is.calls k _ _ l0_0 _ _ l0_1 a2 a1 true _ ?side1 ?side2 ?side3 ?side4 A16.out).mono ?_); (case side1 => exact cb HR0_0 HB); (case side2 => exact HC0_0.out); (case side3 => exact cb HR0_1 HB); (case side4 => exact HC0_1.out); rintro e w27 ⟨rfl, hb⟩; refine ⟨_, rfl, ?_⟩; replace HO208 := kRb HO208 hb; replace BK205 := bkb BK205 hb; replace HB := bstep HB hb; (try clear hb); (try clear hb2); (try clear hk); (try clear hi)))
    go_ret2
    exact ⟨erf, bb HB⟩
   ·replace c17 := Bool.eq_false_iff.mpr c17
    subst c17
    replace H := iff_ H
    simp only [Option.some.injEq, Prod.mk.injEq] at H
    obtain ⟨rfl, rfl⟩ := H
    go_enter Try.func16, Try.ntmps16
    go_wp2_with (first | ((with_reducible refine gate_dst (N := 3) rfl ?_); refine box_event ?hg (N := 3) ?hd (cs := #[.slice A0_0 l0_0.length c0_0, .slice A0_1 l0_1.length c0_1]) (t := 25) ?hr ?_; (case hd => rfl); (case hg => rfl); (case hr => first | (go_simp; done) | (go_simp; rfl)); intro gb205 hg w28 hbox hb; have BK205 := Aside0.mk (hbox); have GW205 := bsz HB hg; have GE205 := bsz HB hg; replace HB := bstep HB hb; clear hb hbox hg; obtain ⟨hcz29_0, hcz29_1, hfz29_0, hfz29_1⟩ := cz2 BK205) | ((with_reducible refine gate_dst (N := 12) rfl ?_); refine Kd.R_lit (Kd.int .i64) _ 3 ?hg (N := 12) ?hd (xs := ([a1, a2] : List Int)) (inner := [.int .i64 a1, .int .i64 a2]) (ok := fun _ => True) (okp := fun _ => True) ?hr ?hp (fun _ hk => hk) trivial (Below.refl _ _) (Nat.le_refl _) (by simp) ?_; (case hd => rfl); (case hg => rfl); (case hr => first | (go_simp; done) | (go_simp; rfl)); (case hp => exact (Reps.one (show Kd.M (Kd.int .i64) _ _ _ a1 [.int .i64 a1] from rfl) (Reps.one (show Kd.M (Kd.int .i64) _ _ _ a2 [.int .i64 a2] from rfl) (Reps.none _ _)))); intro v207 w30 ho31 hb hg_ hnew_; clear hg_ hnew_; (first | rw [← Ny206.out] at ho31 | (simp only [Int.reduceToNat] at ho31; rw [← Ny206.out] at ho31)); have HO208 := Aside0.mk (Kd.R_lower ho31 (below_size (bb HB))); replace BK205 := bkb BK205 hb; replace HB := bstep HB hb; clear hb ho31; obtain ⟨Ao32, co32, eo32⟩ := Kd.R_slice HO208.out; subst eo32) | ((with_reducible refine gate_callee (f := 43) rfl ?_); refine gl 13 Try.func43 #[.agg #[.slice A0_0 l0_0.length c0_0, .slice A0_1 l0_1.length c0_1], .slice Ao32 y206.length co32] (h := ?_); (with_reducible refine (types_given.calls k _ _ l0_0 _ _ l0_1 _ _ y206 t209 _ ?side1 ?side2 ?side3 ?side4 ?side5 ?side6 A4.out).mono ?_); (case side1 => exact cb HR0_0 HB); (case side2 => exact HC0_0.out); (case side3 => exact cb HR0_1 HB); (case side4 => exact HC0_1.out); (case side5 => repeat (first | exact (Kd.R_reads' HO208.out).2.2 | (with_reducible refine Kd.C_alloc ?_ _) | (with_reducible refine Kd.C_drewN ?_ _) | (with_reducible refine Kd.C_drew ?_))); (case side6 => exact (Kd.R_reads' HO208.out).2.1); rintro e w33 ⟨rfl, hb⟩; refine ⟨_, rfl, ?_⟩; replace HO208 := kRb HO208 hb; replace BK205 := bkb BK205 hb; replace HB := bstep HB hb; (try clear hb); (try clear hb2); (try clear hk); (try clear hi); obtain ⟨hcz34_0, hcz34_1, hfz34_0, hfz34_1⟩ := cz2 BK205) | ((with_reducible refine gate_callee (f := 44) rfl ?_); refine gl 21 Try.func44 #[.agg #[.slice A0_0 l0_0.length c0_0, .slice A0_1 l0_1.length c0_1], .int .i64 a1, .int .i64 a2] (h := ?_); (with_reducible refine (types_is.calls k _ _ l0_0 _ _ l0_1 a1 a2 false _ ?side1 ?side2 ?side3 ?side4 A6.out).mono ?_); (case side1 => exact cb HR0_0 HB); (case side2 => exact HC0_0.out); (case side3 => exact cb HR0_1 HB); (case side4 => exact HC0_1.out); rintro e w35 ⟨rfl, hb⟩; refine ⟨_, rfl, ?_⟩; replace HO208 := kRb HO208 hb; replace BK205 := bkb BK205 hb; replace HB := bstep HB hb; (try clear hb); (try clear hb2); (try clear hk); (try clear hi); obtain ⟨hcz36_0, hcz36_1, hfz36_0, hfz36_1⟩ := cz2 BK205) | ((with_reducible refine gate_callee (f := 44) rfl ?_); refine gl 27 Try.func44 #[.agg #[.slice A0_0 l0_0.length c0_0, .slice A0_1 l0_1.length c0_1], .int .i64 a2, .int .i64 a1] (h := ?_); (with_reducible refine (types_is.calls k _ _ l0_0 _ _ l0_1 a2 a1 false _ ?side1 ?side2 ?side3 ?side4 A16.out).mono ?_); (case side1 => exact cb HR0_0 HB); (case side2 => exact HC0_0.out); (case side3 => exact cb HR0_1 HB); (case side4 => exact HC0_1.out); rintro e w37 ⟨rfl, hb⟩; refine ⟨_, rfl, ?_⟩; replace HO208 := kRb HO208 hb; replace BK205 := bkb BK205 hb; replace HB := bstep HB hb; (try clear hb); (try clear hb2); (try clear hk); (try clear hi)))
    go_ret2
    exact ⟨erf, bb HB⟩
 ·rw [if_neg c5] at H
  have c5b0 : (t209 == 0) = false := beq_eq_false_iff_ne.mpr c5
  have c5b1 : (t209 != 0) = true := bne_iff_ne.mpr c5
  simp only [Option.some.injEq, Prod.mk.injEq] at H
  obtain ⟨rfl, rfl⟩ := H
  go_enter Try.func16, Try.ntmps16
  go_wp2_with (first | ((with_reducible refine gate_dst (N := 3) rfl ?_); refine box_event ?hg (N := 3) ?hd (cs := #[.slice A0_0 l0_0.length c0_0, .slice A0_1 l0_1.length c0_1]) (t := 25) ?hr ?_; (case hd => rfl); (case hg => rfl); (case hr => first | (go_simp; done) | (go_simp; rfl)); intro gb205 hg w38 hbox hb; have BK205 := Aside0.mk (hbox); have GW205 := bsz HB hg; have GE205 := bsz HB hg; replace HB := bstep HB hb; clear hb hbox hg; obtain ⟨hcz39_0, hcz39_1, hfz39_0, hfz39_1⟩ := cz2 BK205) | ((with_reducible refine gate_dst (N := 12) rfl ?_); refine Kd.R_lit (Kd.int .i64) _ 3 ?hg (N := 12) ?hd (xs := ([a1, a2] : List Int)) (inner := [.int .i64 a1, .int .i64 a2]) (ok := fun _ => True) (okp := fun _ => True) ?hr ?hp (fun _ hk => hk) trivial (Below.refl _ _) (Nat.le_refl _) (by simp) ?_; (case hd => rfl); (case hg => rfl); (case hr => first | (go_simp; done) | (go_simp; rfl)); (case hp => exact (Reps.one (show Kd.M (Kd.int .i64) _ _ _ a1 [.int .i64 a1] from rfl) (Reps.one (show Kd.M (Kd.int .i64) _ _ _ a2 [.int .i64 a2] from rfl) (Reps.none _ _)))); intro v207 w40 ho41 hb hg_ hnew_; clear hg_ hnew_; (first | rw [← Ny206.out] at ho41 | (simp only [Int.reduceToNat] at ho41; rw [← Ny206.out] at ho41)); have HO208 := Aside0.mk (Kd.R_lower ho41 (below_size (bb HB))); replace BK205 := bkb BK205 hb; replace HB := bstep HB hb; clear hb ho41; obtain ⟨Ao42, co42, eo42⟩ := Kd.R_slice HO208.out; subst eo42) | ((with_reducible refine gate_callee (f := 43) rfl ?_); refine gl 13 Try.func43 #[.agg #[.slice A0_0 l0_0.length c0_0, .slice A0_1 l0_1.length c0_1], .slice Ao42 y206.length co42] (h := ?_); (with_reducible refine (types_given.calls k _ _ l0_0 _ _ l0_1 _ _ y206 t209 _ ?side1 ?side2 ?side3 ?side4 ?side5 ?side6 A4.out).mono ?_); (case side1 => exact cb HR0_0 HB); (case side2 => exact HC0_0.out); (case side3 => exact cb HR0_1 HB); (case side4 => exact HC0_1.out); (case side5 => repeat (first | exact (Kd.R_reads' HO208.out).2.2 | (with_reducible refine Kd.C_alloc ?_ _) | (with_reducible refine Kd.C_drewN ?_ _) | (with_reducible refine Kd.C_drew ?_))); (case side6 => exact (Kd.R_reads' HO208.out).2.1); rintro e w43 ⟨rfl, hb⟩; refine ⟨_, rfl, ?_⟩; replace HO208 := kRb HO208 hb; replace BK205 := bkb BK205 hb; replace HB := bstep HB hb; (try clear hb); (try clear hb2); (try clear hk); (try clear hi)))
  go_ret2
  exact ⟨erf, bb HB⟩
def types_Join.l0 : Nat → Int → Int → List (S68) → List (S71) → Option (Int × Int)
 | 0, _, _, _, _ => none
 | k + 1, x2, x9, x213000, x213001 => if x9 ≥ 0 then ((types_is.f k x213000 x213001 x2 x9).bind fun t217 => (if t217 = true then (some (x9, 0)) else (if 0 ≤ x9 then (if x9 < (x213000.length : Int) then (types_Join.l0 k x2 ((rd_T68 x213000 x9).f1) x213000 x213001) else (none)) else (none)))) else (some (0, 10))
def types_Join.f (k : Nat) (l0_0 : List (S68)) (l0_1 : List (S71)) (a1 : Int) (a2 : Int) : Option (Int × Int) := (types_given.f k l0_0 l0_1 (([a1, a2] : List Int))).bind fun t216 => (if t216 = 0 then (types_Join.l0 k a2 a1 l0_0 l0_1) else (some (0, t216)))
theorem types_Join.mono_l : ∀ k, (∀ y0 y1 y2 y3, LeO (types_Join.l0 k y0 y1 y2 y3) (types_Join.l0 (k + 1) y0 y1 y2 y3))
 | 0 => fun _ _ _ _ r h => by simp [types_Join.l0] at h
 | k + 1 => by
  have ih0 := types_Join.mono_l k
  ·intro y0 y1 y2 y3
   unfold types_Join.l0
   repeat' first
   | (with_reducible exact ih0 _ _ _ _)
   | (with_reducible exact types_given.mono _ _ _ _)
   | (with_reducible exact types_is.mono _ _ _ _ _)
   | (with_reducible exact LeO.refl _)
   | (with_reducible exact LeO.none _)
   | (with_reducible refine LeO.ite ?_ ?_)
   | (with_reducible refine LeO.bind ?_ (fun _ => ?_))
   | exact ih0 _ _ _ _
   | exact types_given.mono _ _ _ _
   | exact types_is.mono _ _ _ _ _
   | exact LeO.none _
   | refine LeO.ite ?_ ?_
   | refine LeO.bind ?_ (fun _ => ?_)
theorem types_Join.mono : ∀ a0 a1 a2 a3 k, LeO (types_Join.f k a0 a1 a2 a3) (types_Join.f (k + 1) a0 a1 a2 a3) := by
 intro a0 a1 a2 a3 k
 have ih0 := types_Join.mono_l k
 unfold types_Join.f
 repeat' first
   | (with_reducible exact ih0 _ _ _ _)
   | (with_reducible exact types_given.mono _ _ _ _)
   | (with_reducible exact types_is.mono _ _ _ _ _)
   | (with_reducible exact LeO.refl _)
   | (with_reducible exact LeO.none _)
   | (with_reducible refine LeO.ite ?_ ?_)
   | (with_reducible refine LeO.bind ?_ (fun _ => ?_))
   | exact ih0 _ _ _ _
   | exact types_given.mono _ _ _ _
   | exact types_is.mono _ _ _ _ _
   | exact LeO.none _
   | refine LeO.ite ?_ ?_
   | refine LeO.bind ?_ (fun _ => ?_)
set_option maxHeartbeats 8000000 in
set_option maxRecDepth 100000 in
theorem types_Join.calls (k : Nat) (A0_0 : Option Addr) (c0_0 : Nat) (l0_0 : List (S68)) (A0_1 : Option Addr) (c0_1 : Nat) (l0_1 : List (S71)) (a1 : Int) (a2 : Int) (r1 : Int) (r2 : Int) (w : World) (hr0_0 : Kd.C k68 w A0_0 l0_0.length l0_0) (hc0_0 : l0_0.length ≤ c0_0) (hr0_1 : Kd.C k71 w A0_1 l0_1.length l0_1) (hc0_1 : l0_1.length ≤ c0_1) (h : types_Join.f k l0_0 l0_1 a1 a2 = some (r1, r2)) :
  Calls Try.prog 18 #[.agg #[.slice A0_0 l0_0.length c0_0, .slice A0_1 l0_1.length c0_1], .int .i64 a1, .int .i64 a2] w fun e w' => e = .returned (.tuple #[.int .i64 r1, .int .i64 r2]) ∧ Below w.heap.size w w' := by
 have hu25 := Try.underlying25
 have HR0_0 := Aside0.mk hr0_0
 have HC0_0 := Aside0.mk hc0_0
 clear hr0_0 hc0_0
 have HR0_1 := Aside0.mk hr0_1
 have HC0_1 := Aside0.mk hc0_1
 clear hr0_1 hc0_1
 have HB := Aside0.mk (Below.refl w.heap.size w)
 have H : ((types_given.f k l0_0 l0_1 (([a1, a2] : List Int))).bind fun t216 => (if t216 = 0 then (types_Join.l0 k a2 a1 l0_0 l0_1) else (some (0, t216)))) = some (r1, r2) := h
 clear h
 obtain ⟨y213, hy213⟩ : ∃ y_ : List Int, y_ = (([a1, a2] : List Int)) := ⟨_, rfl⟩
 replace H : ((types_given.f k l0_0 l0_1 y213).bind fun t216 => (if t216 = 0 then (types_Join.l0 k a2 a1 l0_0 l0_1) else (some (0, t216)))) = some (r1, r2) := by first | (rw [hy213]; with_reducible exact H) | (have H2_ := (Option.bind_some _ _).symm.trans H; rw [hy213]; with_reducible exact H2_) | (have H2_ := (Option.bind_some _ _).symm.trans H; with_reducible exact H2_) | with_reducible exact H | (rw [hy213]; exact H) | exact H
 have Ny213 := Aside0.mk hy213
 clear hy213
 replace H := Option.bind_eq_some_iff.mp H
 obtain ⟨t216, A40, H⟩ := H
 replace H : (if t216 = 0 then (types_Join.l0 k a2 a1 l0_0 l0_1) else (some (0, t216))) = some (r1, r2) := H
 have A4 := Aside0.mk A40
 clear A40
 by_cases c5 : t216 = 0
 ·rw [if_pos c5] at H
  have c5b0 : (t216 == 0) = true := beq_iff_eq.mpr c5
  have c5b1 : (t216 != 0) = false := bne_eq_false_iff_eq.mpr c5
  clear c5
  have H' := Aside0.mk H
  clear H
  go_enter Try.func18, Try.ntmps18
  go_wp2_with (first | ((with_reducible refine gate_dst (N := 3) rfl ?_); refine box_event ?hg (N := 3) ?hd (cs := #[.slice A0_0 l0_0.length c0_0, .slice A0_1 l0_1.length c0_1]) (t := 25) ?hr ?_; (case hd => rfl); (case hg => rfl); (case hr => first | (go_simp; done) | (go_simp; rfl)); intro gb212 hg w6 hbox hb; have BK212 := Aside0.mk (hbox); have GW212 := bsz HB hg; have GE212 := bsz HB hg; replace HB := bstep HB hb; clear hb hbox hg; obtain ⟨hcz7_0, hcz7_1, hfz7_0, hfz7_1⟩ := cz2 BK212) | ((with_reducible refine gate_dst (N := 13) rfl ?_); refine Kd.R_lit (Kd.int .i64) _ 3 ?hg (N := 13) ?hd (xs := ([a1, a2] : List Int)) (inner := [.int .i64 a1, .int .i64 a2]) (ok := fun _ => True) (okp := fun _ => True) ?hr ?hp (fun _ hk => hk) trivial (Below.refl _ _) (Nat.le_refl _) (by simp) ?_; (case hd => rfl); (case hg => rfl); (case hr => first | (go_simp; done) | (go_simp; rfl)); (case hp => exact (Reps.one (show Kd.M (Kd.int .i64) _ _ _ a1 [.int .i64 a1] from rfl) (Reps.one (show Kd.M (Kd.int .i64) _ _ _ a2 [.int .i64 a2] from rfl) (Reps.none _ _)))); intro v214 w8 ho9 hb hg_ hnew_; clear hg_ hnew_; (first | rw [← Ny213.out] at ho9 | (simp only [Int.reduceToNat] at ho9; rw [← Ny213.out] at ho9)); have HO215 := Aside0.mk (Kd.R_lower ho9 (below_size (bb HB))); replace BK212 := bkb BK212 hb; replace HB := bstep HB hb; clear hb ho9; obtain ⟨Ao10, co10, eo10⟩ := Kd.R_slice HO215.out; subst eo10) | ((with_reducible refine gate_callee (f := 43) rfl ?_); refine gl 14 Try.func43 #[.agg #[.slice A0_0 l0_0.length c0_0, .slice A0_1 l0_1.length c0_1], .slice Ao10 y213.length co10] (h := ?_); (with_reducible refine (types_given.calls k _ _ l0_0 _ _ l0_1 _ _ y213 t216 _ ?side1 ?side2 ?side3 ?side4 ?side5 ?side6 A4.out).mono ?_); (case side1 => exact cb HR0_0 HB); (case side2 => exact HC0_0.out); (case side3 => exact cb HR0_1 HB); (case side4 => exact HC0_1.out); (case side5 => repeat (first | exact (Kd.R_reads' HO215.out).2.2 | (with_reducible refine Kd.C_alloc ?_ _) | (with_reducible refine Kd.C_drewN ?_ _) | (with_reducible refine Kd.C_drew ?_))); (case side6 => exact (Kd.R_reads' HO215.out).2.1); rintro e w11 ⟨rfl, hb⟩; refine ⟨_, rfl, ?_⟩; replace HO215 := kRb HO215 hb; replace BK212 := bkb BK212 hb; replace HB := bstep HB hb; (try clear hb); (try clear hb2); (try clear hk); (try clear hi)))
  go_loopg [9] k (fun kq v9 w' => ∃ (x9_1 : Int), v9 = .int .i64 x9_1 ∧ Aside0 (types_Join.l0 kq a2 x9_1 l0_0 l0_1 = some (r1, r2)) ∧ Aside0 (kq ≤ k) ∧ Aside0 (w'.heap[gb212]? = some (.cells #[(.slice A0_0 l0_0.length c0_0), (.slice A0_1 l0_1.length c0_1)] 25 (0, 0))) ∧ Aside0 (Below w.heap.size w w'))
  case atStart => exact ⟨(a1), eqs, H', ⟨Nat.le_refl _⟩, ⟨bk BK212⟩, ⟨bb HB⟩⟩
  case round =>
   clear H'
   try clear c1
   try clear p2
   try clear c4
   try clear c5
   try clear c5b0
   try clear c5b1
   try clear hcz7_0
   try clear hcz7_1
   try clear hfz7_0
   try clear hfz7_1
   obtain ⟨x9_1, rfl, HA, HK1, BK212, HB⟩ := hrel
   cases gk with
   | zero => exact absurd HA.out (by simp [types_Join.l0])
   | succ k1 =>
    have H := HA.out
    clear HA
    simp only [types_Join.l0] at H
    by_cases c12 : x9_1 ≥ 0
    ·rw [if_pos c12] at H
     have c12b0 : decide (0 ≤ x9_1) = true := decide_eq_true c12
     clear c12
     replace H := Option.bind_eq_some_iff.mp H
     obtain ⟨t217, A130, H⟩ := H
     replace H : (if t217 = true then (some (x9_1, 0)) else (if 0 ≤ x9_1 then (if x9_1 < (l0_0.length : Int) then (types_Join.l0 k1 a2 ((rd_T68 l0_0 x9_1).f1) l0_0 l0_1) else (none)) else (none))) = some (r1, r2) := H
     have A13 := Aside0.mk A130
     clear A130
     by_cases c14 : t217 = true
     ·subst c14
      replace H := ift H
      simp only [Option.some.injEq, Prod.mk.injEq] at H
      obtain ⟨rfl, rfl⟩ := H
      obtain ⟨hcz15_0, hcz15_1, hfz15_0, hfz15_1⟩ := cz2 BK212
      go_wp2_with (first | ((with_reducible refine gate_callee (f := 44) rfl ?_); refine gl 30 Try.func44 #[.agg #[.slice A0_0 l0_0.length c0_0, .slice A0_1 l0_1.length c0_1], .int .i64 a2, .int .i64 x9_1] (h := ?_); (with_reducible refine (types_is.calls k1 _ _ l0_0 _ _ l0_1 a2 x9_1 true _ ?side1 ?side2 ?side3 ?side4 A13.out).mono ?_); (case side1 => exact cb HR0_0 HB); (case side2 => exact HC0_0.out); (case side3 => exact cb HR0_1 HB); (case side4 => exact HC0_1.out); rintro e w16 ⟨rfl, hb⟩; refine ⟨_, rfl, ?_⟩; replace BK212 := bkb BK212 hb; replace HB := bstep HB hb; (try clear hb); (try clear hb2); (try clear hk); (try clear hi)))
      go_ret2
      exact ⟨erf, bb HB⟩
     ·replace c14 := Bool.eq_false_iff.mpr c14
      subst c14
      replace H := iff_ H
      by_cases c17 : 0 ≤ x9_1
      ·rw [if_pos c17] at H
       have c17b0 : decide (0 ≤ x9_1) = true := decide_eq_true c17
       clear c17
       by_cases c18 : x9_1 < (l0_0.length : Int)
       ·rw [if_pos c18] at H
        have c18b0 : decide (x9_1 < (l0_0.length : Int)) = true := decide_eq_true c18
        clear c18
        have H' := Aside0.mk H
        clear H
        obtain ⟨hcz19_0, hcz19_1, hfz19_0, hfz19_1⟩ := cz2 BK212
        go_wp2_with (first | ((with_reducible refine gate_callee (f := 44) rfl ?_); refine gl 30 Try.func44 #[.agg #[.slice A0_0 l0_0.length c0_0, .slice A0_1 l0_1.length c0_1], .int .i64 a2, .int .i64 x9_1] (h := ?_); (with_reducible refine (types_is.calls k1 _ _ l0_0 _ _ l0_1 a2 x9_1 false _ ?side1 ?side2 ?side3 ?side4 A13.out).mono ?_); (case side1 => exact cb HR0_0 HB); (case side2 => exact HC0_0.out); (case side3 => exact cb HR0_1 HB); (case side4 => exact HC0_1.out); rintro e w20 ⟨rfl, hb⟩; refine ⟨_, rfl, ?_⟩; replace BK212 := bkb BK212 hb; replace HB := bstep HB hb; (try clear hb); (try clear hb2); (try clear hk); (try clear hi); obtain ⟨hcz21_0, hcz21_1, hfz21_0, hfz21_1⟩ := cz2 BK212; have p218 : 0 ≤ x9_1 := odt; have q218 : x9_1 < (l0_0.length : Int) := odt; obtain ⟨ad218, A218_3, c218_3, e218, hx218_0, hx218_1, hx218_2, hx218_3, hl218_3, hi218_3⟩ := at_T68 HR0_0.out x9_1 p218 q218; cases e218; replace hx218_0 := hxc HB hx218_0; replace hx218_1 := hxc HB hx218_1; replace hx218_2 := hxc HB hx218_2; replace hx218_3 := hxc HB hx218_3; have HR218_3 := Aside0.mk hi218_3; have HC218_3 := Aside0.mk hl218_3; clear hi218_3 hl218_3; replace p218 := eq_true p218; replace q218 := eq_true q218))
        go_roundg k1
        case measure => have := HK1.out; omega
        case rel => exact ⟨((rd_T68 l0_0 x9_1).f1), eqs, H', ⟨by have := HK1.out; omega⟩, ⟨bk BK212⟩, ⟨bb HB⟩⟩
       ·rw [if_neg c18] at H
        exact absurd H (by simp)
      ·rw [if_neg c17] at H
       exact absurd H (by simp)
    ·rw [if_neg c12] at H
     have c12b0 : decide (0 ≤ x9_1) = false := decide_eq_false c12
     clear c12
     simp only [Option.some.injEq, Prod.mk.injEq] at H
     obtain ⟨rfl, rfl⟩ := H
     go_wp2
     go_ret2
     exact ⟨erf, bb HB⟩
 ·rw [if_neg c5] at H
  have c5b0 : (t216 == 0) = false := beq_eq_false_iff_ne.mpr c5
  have c5b1 : (t216 != 0) = true := bne_iff_ne.mpr c5
  simp only [Option.some.injEq, Prod.mk.injEq] at H
  obtain ⟨rfl, rfl⟩ := H
  go_enter Try.func18, Try.ntmps18
  go_wp2_with (first | ((with_reducible refine gate_dst (N := 3) rfl ?_); refine box_event ?hg (N := 3) ?hd (cs := #[.slice A0_0 l0_0.length c0_0, .slice A0_1 l0_1.length c0_1]) (t := 25) ?hr ?_; (case hd => rfl); (case hg => rfl); (case hr => first | (go_simp; done) | (go_simp; rfl)); intro gb212 hg w22 hbox hb; have BK212 := Aside0.mk (hbox); have GW212 := bsz HB hg; have GE212 := bsz HB hg; replace HB := bstep HB hb; clear hb hbox hg; obtain ⟨hcz23_0, hcz23_1, hfz23_0, hfz23_1⟩ := cz2 BK212) | ((with_reducible refine gate_dst (N := 13) rfl ?_); refine Kd.R_lit (Kd.int .i64) _ 3 ?hg (N := 13) ?hd (xs := ([a1, a2] : List Int)) (inner := [.int .i64 a1, .int .i64 a2]) (ok := fun _ => True) (okp := fun _ => True) ?hr ?hp (fun _ hk => hk) trivial (Below.refl _ _) (Nat.le_refl _) (by simp) ?_; (case hd => rfl); (case hg => rfl); (case hr => first | (go_simp; done) | (go_simp; rfl)); (case hp => exact (Reps.one (show Kd.M (Kd.int .i64) _ _ _ a1 [.int .i64 a1] from rfl) (Reps.one (show Kd.M (Kd.int .i64) _ _ _ a2 [.int .i64 a2] from rfl) (Reps.none _ _)))); intro v214 w24 ho25 hb hg_ hnew_; clear hg_ hnew_; (first | rw [← Ny213.out] at ho25 | (simp only [Int.reduceToNat] at ho25; rw [← Ny213.out] at ho25)); have HO215 := Aside0.mk (Kd.R_lower ho25 (below_size (bb HB))); replace BK212 := bkb BK212 hb; replace HB := bstep HB hb; clear hb ho25; obtain ⟨Ao26, co26, eo26⟩ := Kd.R_slice HO215.out; subst eo26) | ((with_reducible refine gate_callee (f := 43) rfl ?_); refine gl 14 Try.func43 #[.agg #[.slice A0_0 l0_0.length c0_0, .slice A0_1 l0_1.length c0_1], .slice Ao26 y213.length co26] (h := ?_); (with_reducible refine (types_given.calls k _ _ l0_0 _ _ l0_1 _ _ y213 t216 _ ?side1 ?side2 ?side3 ?side4 ?side5 ?side6 A4.out).mono ?_); (case side1 => exact cb HR0_0 HB); (case side2 => exact HC0_0.out); (case side3 => exact cb HR0_1 HB); (case side4 => exact HC0_1.out); (case side5 => repeat (first | exact (Kd.R_reads' HO215.out).2.2 | (with_reducible refine Kd.C_alloc ?_ _) | (with_reducible refine Kd.C_drewN ?_ _) | (with_reducible refine Kd.C_drew ?_))); (case side6 => exact (Kd.R_reads' HO215.out).2.1); rintro e w27 ⟨rfl, hb⟩; refine ⟨_, rfl, ?_⟩; replace HO215 := kRb HO215 hb; replace BK212 := bkb BK212 hb; replace HB := bstep HB hb; (try clear hb); (try clear hb2); (try clear hk); (try clear hi)))
  go_ret2
  exact ⟨erf, bb HB⟩
def types_Below.l0 : Nat → Int → List Int → Int → Int → List (S68) → List (S71) → Option (List Int × Int)
 | 0, _, _, _, _, _, _ => none
 | k + 1, x1, x7, x18, x19, x220000, x220001 => if x19 < x18 then ((types_is.f k x220000 x220001 x19 x1).bind fun t224 => (if t224 = true then (if x7.length < 17592186044416 then (types_Below.l0 k x1 (x7 ++ [x19]) x18 (wrap64 (x19 + 1)) x220000 x220001) else (none)) else (types_Below.l0 k x1 x7 x18 (wrap64 (x19 + 1)) x220000 x220001))) else (some (x7, 0))
def types_Below.f (k : Nat) (l0_0 : List (S68)) (l0_1 : List (S71)) (a1 : Int) : Option (List Int × Int) := (types_given.f k l0_0 l0_1 (([a1] : List Int))).bind fun t223 => (if t223 = 0 then (types_Below.l0 k a1 ([] : List Int) (l0_0.length : Int) 0 l0_0 l0_1) else (some (([] : List Int), t223)))
theorem types_Below.mono_l : ∀ k, (∀ y0 y1 y2 y3 y4 y5, LeO (types_Below.l0 k y0 y1 y2 y3 y4 y5) (types_Below.l0 (k + 1) y0 y1 y2 y3 y4 y5))
 | 0 => fun _ _ _ _ _ _ r h => by simp [types_Below.l0] at h
 | k + 1 => by
  have ih0 := types_Below.mono_l k
  ·intro y0 y1 y2 y3 y4 y5
   unfold types_Below.l0
   repeat' first
   | (with_reducible exact ih0 _ _ _ _ _ _)
   | (with_reducible exact types_given.mono _ _ _ _)
   | (with_reducible exact types_is.mono _ _ _ _ _)
   | (with_reducible exact LeO.refl _)
   | (with_reducible exact LeO.none _)
   | (with_reducible refine LeO.ite ?_ ?_)
   | (with_reducible refine LeO.bind ?_ (fun _ => ?_))
   | exact ih0 _ _ _ _ _ _
   | exact types_given.mono _ _ _ _
   | exact types_is.mono _ _ _ _ _
   | exact LeO.none _
   | refine LeO.ite ?_ ?_
   | refine LeO.bind ?_ (fun _ => ?_)
theorem types_Below.mono : ∀ a0 a1 a2 k, LeO (types_Below.f k a0 a1 a2) (types_Below.f (k + 1) a0 a1 a2) := by
 intro a0 a1 a2 k
 have ih0 := types_Below.mono_l k
 unfold types_Below.f
 repeat' first
   | (with_reducible exact ih0 _ _ _ _ _ _)
   | (with_reducible exact types_given.mono _ _ _ _)
   | (with_reducible exact types_is.mono _ _ _ _ _)
   | (with_reducible exact LeO.refl _)
   | (with_reducible exact LeO.none _)
   | (with_reducible refine LeO.ite ?_ ?_)
   | (with_reducible refine LeO.bind ?_ (fun _ => ?_))
   | exact ih0 _ _ _ _ _ _
   | exact types_given.mono _ _ _ _
   | exact types_is.mono _ _ _ _ _
   | exact LeO.none _
   | refine LeO.ite ?_ ?_
   | refine LeO.bind ?_ (fun _ => ?_)
set_option maxHeartbeats 8000000 in
set_option maxRecDepth 100000 in
theorem types_Below.calls (k : Nat) (A0_0 : Option Addr) (c0_0 : Nat) (l0_0 : List (S68)) (A0_1 : Option Addr) (c0_1 : Nat) (l0_1 : List (S71)) (a1 : Int) (r1 : List Int) (r2 : Int) (w : World) (hr0_0 : Kd.C k68 w A0_0 l0_0.length l0_0) (hc0_0 : l0_0.length ≤ c0_0) (hr0_1 : Kd.C k71 w A0_1 l0_1.length l0_1) (hc0_1 : l0_1.length ≤ c0_1) (h : types_Below.f k l0_0 l0_1 a1 = some (r1, r2)) :
  Calls Try.prog 27 #[.agg #[.slice A0_0 l0_0.length c0_0, .slice A0_1 l0_1.length c0_1], .int .i64 a1] w fun e w' => ∃ v0_ : Value, e = .returned (.tuple #[v0_, .int .i64 r2]) ∧ Kd.R (Kd.int .i64) 3 w' w.heap.size (fun _ => True) v0_ r1 ∧ Below w.heap.size w w' := by
 have hu25 := Try.underlying25
 have HR0_0 := Aside0.mk hr0_0
 have HC0_0 := Aside0.mk hc0_0
 clear hr0_0 hc0_0
 have HR0_1 := Aside0.mk hr0_1
 have HC0_1 := Aside0.mk hc0_1
 clear hr0_1 hc0_1
 have HB := Aside0.mk (Below.refl w.heap.size w)
 have H : ((types_given.f k l0_0 l0_1 (([a1] : List Int))).bind fun t223 => (if t223 = 0 then (types_Below.l0 k a1 ([] : List Int) (l0_0.length : Int) 0 l0_0 l0_1) else (some (([] : List Int), t223)))) = some (r1, r2) := h
 clear h
 obtain ⟨y220, hy220⟩ : ∃ y_ : List Int, y_ = (([a1] : List Int)) := ⟨_, rfl⟩
 replace H : ((types_given.f k l0_0 l0_1 y220).bind fun t223 => (if t223 = 0 then (types_Below.l0 k a1 ([] : List Int) (l0_0.length : Int) 0 l0_0 l0_1) else (some (([] : List Int), t223)))) = some (r1, r2) := by first | (rw [hy220]; with_reducible exact H) | (have H2_ := (Option.bind_some _ _).symm.trans H; rw [hy220]; with_reducible exact H2_) | (have H2_ := (Option.bind_some _ _).symm.trans H; with_reducible exact H2_) | with_reducible exact H | (rw [hy220]; exact H) | exact H
 have Ny220 := Aside0.mk hy220
 clear hy220
 replace H := Option.bind_eq_some_iff.mp H
 obtain ⟨t223, A30, H⟩ := H
 replace H : (if t223 = 0 then (types_Below.l0 k a1 ([] : List Int) (l0_0.length : Int) 0 l0_0 l0_1) else (some (([] : List Int), t223))) = some (r1, r2) := H
 have A3 := Aside0.mk A30
 clear A30
 by_cases c4 : t223 = 0
 ·rw [if_pos c4] at H
  have c4b0 : (t223 == 0) = true := beq_iff_eq.mpr c4
  have c4b1 : (t223 != 0) = false := bne_eq_false_iff_eq.mpr c4
  clear c4
  have H' := Aside0.mk H
  clear H
  go_enter Try.func27, Try.ntmps27
  go_wp2_with (first | ((with_reducible refine gate_dst (N := 2) rfl ?_); refine box_event ?hg (N := 2) ?hd (cs := #[.slice A0_0 l0_0.length c0_0, .slice A0_1 l0_1.length c0_1]) (t := 25) ?hr ?_; (case hd => rfl); (case hg => rfl); (case hr => first | (go_simp; done) | (go_simp; rfl)); intro gb219 hg w5 hbox hb; have BK219 := Aside0.mk (hbox); have GW219 := bsz HB hg; have GE219 := bsz HB hg; replace HB := bstep HB hb; clear hb hbox hg; obtain ⟨hcz6_0, hcz6_1, hfz6_0, hfz6_1⟩ := cz2 BK219) | ((with_reducible refine gate_dst (N := 11) rfl ?_); refine Kd.R_lit (Kd.int .i64) _ 3 ?hg (N := 11) ?hd (xs := ([a1] : List Int)) (inner := [.int .i64 a1]) (ok := fun _ => True) (okp := fun _ => True) ?hr ?hp (fun _ hk => hk) trivial (Below.refl _ _) (Nat.le_refl _) (by simp) ?_; (case hd => rfl); (case hg => rfl); (case hr => first | (go_simp; done) | (go_simp; rfl)); (case hp => exact (Reps.one (show Kd.M (Kd.int .i64) _ _ _ a1 [.int .i64 a1] from rfl) (Reps.none _ _))); intro v221 w7 ho8 hb hg_ hnew_; clear hg_ hnew_; (first | rw [← Ny220.out] at ho8 | (simp only [Int.reduceToNat] at ho8; rw [← Ny220.out] at ho8)); have HO222 := Aside0.mk (Kd.R_lower ho8 (below_size (bb HB))); replace BK219 := bkb BK219 hb; replace HB := bstep HB hb; clear hb ho8; obtain ⟨Ao9, co9, eo9⟩ := Kd.R_slice HO222.out; subst eo9) | ((with_reducible refine gate_callee (f := 43) rfl ?_); refine gl 12 Try.func43 #[.agg #[.slice A0_0 l0_0.length c0_0, .slice A0_1 l0_1.length c0_1], .slice Ao9 y220.length co9] (h := ?_); (with_reducible refine (types_given.calls k _ _ l0_0 _ _ l0_1 _ _ y220 t223 _ ?side1 ?side2 ?side3 ?side4 ?side5 ?side6 A3.out).mono ?_); (case side1 => exact cb HR0_0 HB); (case side2 => exact HC0_0.out); (case side3 => exact cb HR0_1 HB); (case side4 => exact HC0_1.out); (case side5 => repeat (first | exact (Kd.R_reads' HO222.out).2.2 | (with_reducible refine Kd.C_alloc ?_ _) | (with_reducible refine Kd.C_drewN ?_ _) | (with_reducible refine Kd.C_drew ?_))); (case side6 => exact (Kd.R_reads' HO222.out).2.1); rintro e w10 ⟨rfl, hb⟩; refine ⟨_, rfl, ?_⟩; replace HO222 := kRb HO222 hb; replace BK219 := bkb BK219 hb; replace HB := bstep HB hb; (try clear hb); (try clear hb2); (try clear hk); (try clear hi); obtain ⟨hcz11_0, hcz11_1, hfz11_0, hfz11_1⟩ := cz2 BK219))
  go_loopg [7, 19] k (fun kq v7 v19 w' => ∃ (x7_1 : List Int) (x19_1 : Int), v19 = .int .i64 x19_1 ∧ Aside0 (types_Below.l0 kq a1 x7_1 (l0_0.length : Int) x19_1 l0_0 l0_1 = some (r1, r2)) ∧ Aside0 (kq ≤ k) ∧ Aside0 (Kd.R (Kd.int .i64) 3 w' w.heap.size (fun _ => True) v7 x7_1) ∧ Aside0 (w'.heap[gb219]? = some (.cells #[(.slice A0_0 l0_0.length c0_0), (.slice A0_1 l0_1.length c0_1)] 25 (0, 0))) ∧ Aside0 (Below w.heap.size w w'))
  case atStart => exact ⟨(([] : List Int)), (0), eqs, H', ⟨Nat.le_refl _⟩, ⟨by first | exact Kd.R_nil _ _ _ _ _ | exact Kd.N_nil _ _ _ _ _ | exact Kd.V_nil _ _ _ _ _ | exact Kd.Q_nil _ _ _ _ _ | exact Kd.S_nil _ _ _ _ _⟩, ⟨bk BK219⟩, ⟨bb HB⟩⟩
  case round =>
   clear H'
   try clear c2
   try clear p2
   try clear c4
   try clear c4b0
   try clear c4b1
   try clear hcz11_0
   try clear hcz11_1
   try clear hcz6_0
   try clear hcz6_1
   try clear hfz11_0
   try clear hfz11_1
   try clear hfz6_0
   try clear hfz6_1
   obtain ⟨x7_1, x19_1, rfl, HA, HK1, HO_7, BK219, HB⟩ := hrel
   cases gk with
   | zero => exact absurd HA.out (by simp [types_Below.l0])
   | succ k1 =>
    have H := HA.out
    clear HA
    simp only [types_Below.l0] at H
    by_cases c12 : x19_1 < (l0_0.length : Int)
    ·rw [if_pos c12] at H
     have c12b0 : decide (x19_1 < (l0_0.length : Int)) = true := decide_eq_true c12
     clear c12
     replace H := Option.bind_eq_some_iff.mp H
     obtain ⟨t224, A130, H⟩ := H
     replace H : (if t224 = true then (if x7_1.length < 17592186044416 then (types_Below.l0 k1 a1 (x7_1 ++ [x19_1]) (l0_0.length : Int) (wrap64 (x19_1 + 1)) l0_0 l0_1) else (none)) else (types_Below.l0 k1 a1 x7_1 (l0_0.length : Int) (wrap64 (x19_1 + 1)) l0_0 l0_1)) = some (r1, r2) := H
     have A13 := Aside0.mk A130
     clear A130
     by_cases c14 : t224 = true
     ·subst c14
      replace H := ift H
      by_cases c15 : x7_1.length < 17592186044416
      ·rw [if_pos c15] at H
       have LMc15 := Aside0.mk c15
       clear c15
       obtain ⟨y225, hy225⟩ : ∃ y_ : List Int, y_ = (x7_1 ++ [x19_1]) := ⟨_, rfl⟩
       replace H : (types_Below.l0 k1 a1 y225 (l0_0.length : Int) (wrap64 (x19_1 + 1)) l0_0 l0_1) = some (r1, r2) := by first | (rw [hy225]; with_reducible exact H) | (have H2_ := (Option.bind_some _ _).symm.trans H; rw [hy225]; with_reducible exact H2_) | (have H2_ := (Option.bind_some _ _).symm.trans H; with_reducible exact H2_) | with_reducible exact H | (rw [hy225]; exact H) | exact H
       have Ny225 := Aside0.mk hy225
       clear hy225
       have H' := Aside0.mk H
       clear H
       obtain ⟨hcz16_0, hcz16_1, hfz16_0, hfz16_1⟩ := cz2 BK219
       go_wp2_with (first | ((with_reducible refine gate_callee (f := 44) rfl ?_); refine gl 25 Try.func44 #[.agg #[.slice A0_0 l0_0.length c0_0, .slice A0_1 l0_1.length c0_1], .int .i64 x19_1, .int .i64 a1] (h := ?_); (with_reducible refine (types_is.calls k1 _ _ l0_0 _ _ l0_1 x19_1 a1 true _ ?side1 ?side2 ?side3 ?side4 A13.out).mono ?_); (case side1 => exact cb HR0_0 HB); (case side2 => exact HC0_0.out); (case side3 => exact cb HR0_1 HB); (case side4 => exact HC0_1.out); rintro e w17 ⟨rfl, hb⟩; refine ⟨_, rfl, ?_⟩; replace HO_7 := kRb HO_7 hb; replace BK219 := bkb BK219 hb; replace HB := bstep HB hb; (try clear hb); (try clear hb2); (try clear hk); (try clear hi)) | ((with_reducible refine gate_builtin (b := .append) (xs := #[.tmp 26, .tmp 28]) rfl ?_); at_builtin; refine Kd.R_append (Kd.int .i64) (w0 := w) w.heap.size rfl (.tmp 26) (.tmp 28) 42 3 (.int .i64 0) 8 rfl Try.underlying42 info3 rfl (by decide) (by omega) u7 x7_1 x19_1 [.int .i64 x19_1] (fun _ => True) (fun _ => False) rfl rfl ?aP (fun _ hk => hk.elim) ?aF ?aO ?aB ?aS ?aL ?_; (case aP => exact rfl); (case aB => exact (bb HB)); (case aF => exact (fun _ _ => trivial)); (case aO => exact (kR HO_7)); (case aS => exact (below_size (bb HB))); (case aL => have := LMc15.out; omega); intro v226 w18 ho hb hg hat; rw [← Ny225.out] at ho; replace BK219 := Aside0.mk (blk_grown (g := gb219) (o := .cells #[.slice A0_0 l0_0.length c0_0, .slice A0_1 l0_1.length c0_1] 25 (0, 0)) (bk BK219) hg (Kd.R_ne HO_7.out BK219.out (by decide))); replace HB := Aside0.mk (hb); have HO227 := Aside0.mk (ho); clear HO_7 ho hb hg hat))
       go_roundg k1
       case measure => have := HK1.out; omega
       case rel => exact ⟨(y225), (wrap64 (x19_1 + 1)), eqs, H', ⟨by have := HK1.out; omega⟩, ⟨kR HO227⟩, ⟨bk BK219⟩, ⟨bb HB⟩⟩
      ·rw [if_neg c15] at H
       exact absurd H (by simp)
     ·replace c14 := Bool.eq_false_iff.mpr c14
      subst c14
      replace H := iff_ H
      have H' := Aside0.mk H
      clear H
      obtain ⟨hcz19_0, hcz19_1, hfz19_0, hfz19_1⟩ := cz2 BK219
      go_wp2_with (first | ((with_reducible refine gate_callee (f := 44) rfl ?_); refine gl 25 Try.func44 #[.agg #[.slice A0_0 l0_0.length c0_0, .slice A0_1 l0_1.length c0_1], .int .i64 x19_1, .int .i64 a1] (h := ?_); (with_reducible refine (types_is.calls k1 _ _ l0_0 _ _ l0_1 x19_1 a1 false _ ?side1 ?side2 ?side3 ?side4 A13.out).mono ?_); (case side1 => exact cb HR0_0 HB); (case side2 => exact HC0_0.out); (case side3 => exact cb HR0_1 HB); (case side4 => exact HC0_1.out); rintro e w20 ⟨rfl, hb⟩; refine ⟨_, rfl, ?_⟩; replace HO_7 := kRb HO_7 hb; replace BK219 := bkb BK219 hb; replace HB := bstep HB hb; (try clear hb); (try clear hb2); (try clear hk); (try clear hi)))
      go_roundg k1
      case measure => have := HK1.out; omega
      case rel => exact ⟨(x7_1), (wrap64 (x19_1 + 1)), eqs, H', ⟨by have := HK1.out; omega⟩, ⟨kR HO_7⟩, ⟨bk BK219⟩, ⟨bb HB⟩⟩
    ·rw [if_neg c12] at H
     have c12b0 : decide (x19_1 < (l0_0.length : Int)) = false := decide_eq_false c12
     clear c12
     simp only [Option.some.injEq, Prod.mk.injEq] at H
     obtain ⟨rfl, rfl⟩ := H
     go_wp2
     go_ret2
     exact ⟨_, erf, kR HO_7, bb HB⟩
 ·rw [if_neg c4] at H
  have c4b0 : (t223 == 0) = false := beq_eq_false_iff_ne.mpr c4
  have c4b1 : (t223 != 0) = true := bne_iff_ne.mpr c4
  simp only [Option.some.injEq, Prod.mk.injEq] at H
  obtain ⟨rfl, rfl⟩ := H
  go_enter Try.func27, Try.ntmps27
  go_wp2_with (first | ((with_reducible refine gate_dst (N := 2) rfl ?_); refine box_event ?hg (N := 2) ?hd (cs := #[.slice A0_0 l0_0.length c0_0, .slice A0_1 l0_1.length c0_1]) (t := 25) ?hr ?_; (case hd => rfl); (case hg => rfl); (case hr => first | (go_simp; done) | (go_simp; rfl)); intro gb219 hg w21 hbox hb; have BK219 := Aside0.mk (hbox); have GW219 := bsz HB hg; have GE219 := bsz HB hg; replace HB := bstep HB hb; clear hb hbox hg; obtain ⟨hcz22_0, hcz22_1, hfz22_0, hfz22_1⟩ := cz2 BK219) | ((with_reducible refine gate_dst (N := 11) rfl ?_); refine Kd.R_lit (Kd.int .i64) _ 3 ?hg (N := 11) ?hd (xs := ([a1] : List Int)) (inner := [.int .i64 a1]) (ok := fun _ => True) (okp := fun _ => True) ?hr ?hp (fun _ hk => hk) trivial (Below.refl _ _) (Nat.le_refl _) (by simp) ?_; (case hd => rfl); (case hg => rfl); (case hr => first | (go_simp; done) | (go_simp; rfl)); (case hp => exact (Reps.one (show Kd.M (Kd.int .i64) _ _ _ a1 [.int .i64 a1] from rfl) (Reps.none _ _))); intro v221 w23 ho24 hb hg_ hnew_; clear hg_ hnew_; (first | rw [← Ny220.out] at ho24 | (simp only [Int.reduceToNat] at ho24; rw [← Ny220.out] at ho24)); have HO222 := Aside0.mk (Kd.R_lower ho24 (below_size (bb HB))); replace BK219 := bkb BK219 hb; replace HB := bstep HB hb; clear hb ho24; obtain ⟨Ao25, co25, eo25⟩ := Kd.R_slice HO222.out; subst eo25) | ((with_reducible refine gate_callee (f := 43) rfl ?_); refine gl 12 Try.func43 #[.agg #[.slice A0_0 l0_0.length c0_0, .slice A0_1 l0_1.length c0_1], .slice Ao25 y220.length co25] (h := ?_); (with_reducible refine (types_given.calls k _ _ l0_0 _ _ l0_1 _ _ y220 t223 _ ?side1 ?side2 ?side3 ?side4 ?side5 ?side6 A3.out).mono ?_); (case side1 => exact cb HR0_0 HB); (case side2 => exact HC0_0.out); (case side3 => exact cb HR0_1 HB); (case side4 => exact HC0_1.out); (case side5 => repeat (first | exact (Kd.R_reads' HO222.out).2.2 | (with_reducible refine Kd.C_alloc ?_ _) | (with_reducible refine Kd.C_drewN ?_ _) | (with_reducible refine Kd.C_drew ?_))); (case side6 => exact (Kd.R_reads' HO222.out).2.1); rintro e w26 ⟨rfl, hb⟩; refine ⟨_, rfl, ?_⟩; replace HO222 := kRb HO222 hb; replace BK219 := bkb BK219 hb; replace HB := bstep HB hb; (try clear hb); (try clear hb2); (try clear hk); (try clear hi)))
  go_ret2
  exact ⟨_, erf, by first | exact Kd.R_nil _ _ _ _ _ | exact Kd.N_nil _ _ _ _ _ | exact Kd.V_nil _ _ _ _ _ | exact Kd.Q_nil _ _ _ _ _ | exact Kd.S_nil _ _ _ _ _, bb HB⟩
end Go.Proofs.Ytfpianecohobjaa.P
