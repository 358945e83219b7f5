/- typesFits_holds: a part of the proof that the law returns true for every input. No condition. -/
import Derived.Test.YtfpianecohobjaaUPx0
import Derived.Test.YtfpianecohobjaaUPx10
import Derived.Test.YtfpianecohobjaaUPx11
import Derived.Test.YtfpianecohobjaaUPx20
import Derived.Test.YtfpianecohobjaaUPx21
import Derived.Test.YtfpianecohobjaaUPx27
import Derived.Test.YtfpianecohobjaaUPx28
import Derived.Test.YtfpianecohobjaaUPx7
import Derived.Test.YtfpianecohobjaaUPx8
namespace Go.Proofs.Ytfpianecohobjaa.P
open Go.RowKit Go.Proofs.YtfpianecohobjaaW.PrintWords Go.Proofs.YtfpianecohobjaaW.PrintLast Go.Proofs.YtfpianecohobjaaW.PrintMore
set_option linter.unusedVariables false
set_option linter.unusedSimpArgs false
def w4_TypesFits.j0 : Nat → Bool → List (S68) → List (S71) → Int → Int → Int → Option (Bool)
 | 0, _, _, _, _, _, _ => none
 | k + 1, x11, x496000, x496001, x497000, x497001, x497002 => if x11 = true then ((w4_awake.f k).bind fun t499 => (some t499)) else ((types_Fits.f k x496000 x496001 x497000 x497001 x497002).bind fun t500 => ((q4_Fits.f k x496000 x496001 x497000 x497001 x497002).bind fun t501 => (some (t500 == t501))))
def w4_TypesFits.f (k : Nat) (l0_0 : List (S68)) (l0_1 : List (S71)) (a1_0 : Int) (a1_1 : Int) (a1_2 : Int) : Option (Bool) := (w4_awake.f k).bind fun t497 => (if t497 = true then ((q4_Few.f k l0_0 l0_1).bind fun t498 => (w4_TypesFits.j0 k (!t498) l0_0 l0_1 a1_0 a1_1 a1_2)) else (w4_TypesFits.j0 k true l0_0 l0_1 a1_0 a1_1 a1_2))
def w4_TypesFits.T3 : Bool × List (List Nat × List Nat) := (true, [([], []), ([], []), ([1], [1]), ([], []), ([3], [3]), ([], []), ([5], [5]), ([0, 2, 4, 6], [0, 2, 4, 6]), ([], []), ([], []), ([9], [9]), ([], []), ([11], [11]), ([], []), ([13], [13]), ([8, 10, 12, 14, 7], [8, 10, 12, 14]), ([7, 15], [7, 15]), ([16, 15, 0, 1, 2, 3, 4, 5, 6, 7, 8, 9, 10, 11, 12, 13, 14, 15, 16], [16])])
def w4_TypesFits.B3 : List Nat := [0, 0, 2, 0, 8, 0, 32, 127, 0, 0, 512, 0, 2048, 0, 8192, 32767, 65535, 131071]
theorem w4_TypesFits.tab3 : rtab .any (opsOf Try.f8 3) = w4_TypesFits.T3 := by kernel_rfl
theorem w4_TypesFits.bits3 : waitsOk w4_TypesFits.T3.2 w4_TypesFits.B3 = true := by kernel_rfl
set_option maxHeartbeats 8000000 in
set_option maxRecDepth 100000 in
theorem w4_TypesFits.calls (k : Nat) (A0_0 : Option Addr) (c0_0 : Nat) (l0_0 : List (S68)) (A0_1 : Option Addr) (c0_1 : Nat) (l0_1 : List (S71)) (a1_0 : Int) (a1_1 : Int) (a1_2 : Int) (r : Bool) (w : World) (hr0_0 : Kd.C k68 w A0_0 l0_0.length l0_0) (hc0_0 : l0_0.length ≤ c0_0) (hr0_1 : Kd.C k71 w A0_1 l0_1.length l0_1) (hc0_1 : l0_1.length ≤ c0_1) (h : w4_TypesFits.f k l0_0 l0_1 a1_0 a1_1 a1_2 = some r) :
  Calls Try.prog 8 #[.agg #[.slice A0_0 l0_0.length c0_0, .slice A0_1 l0_1.length c0_1], .agg #[.int .i64 a1_0, .int .i64 a1_1, .int .i64 a1_2]] w fun e w' => e = .returned (.bool r) ∧ Below w.heap.size w w' := by
 have hu25 := Try.underlying25
 have hu39 := Try.underlying39
 have HR0_0 := Aside0.mk hr0_0
 have HC0_0 := Aside0.mk hc0_0
 clear hr0_0 hc0_0
 have HR0_1 := Aside0.mk hr0_1
 have HC0_1 := Aside0.mk hc0_1
 clear hr0_1 hc0_1
 have HB := Aside0.mk (Below.refl w.heap.size w)
 have H : ((w4_awake.f k).bind fun t497 => (if t497 = true then ((q4_Few.f k l0_0 l0_1).bind fun t498 => (w4_TypesFits.j0 k (!t498) l0_0 l0_1 a1_0 a1_1 a1_2)) else (w4_TypesFits.j0 k true l0_0 l0_1 a1_0 a1_1 a1_2))) = some r := h
 clear h
 have HC3 := Aside0.mk H
 clear H
 go_enter Try.func8, Try.ntmps8
 go_upto_region 1 with (first | ((with_reducible refine gate_dst (N := 2) rfl ?_); refine box_event ?hg (N := 2) ?hd (cs := #[.slice A0_0 l0_0.length c0_0, .slice A0_1 l0_1.length c0_1]) (t := 25) ?hr ?_; (case hd => rfl); (case hg => rfl); (case hr => first | (go_simp; done) | (go_simp; rfl)); intro gb495 hg w4 hbox hb; have BK495 := Aside0.mk (hbox); have GW495 := bsz HB hg; have GE495 := bsz HB hg; replace HB := bstep HB hb; clear hb hbox hg) | ((with_reducible refine gate_dst (N := 3) rfl ?_); refine box_event ?hg (N := 3) ?hd (cs := #[.int .i64 a1_0, .int .i64 a1_1, .int .i64 a1_2]) (t := 39) ?hr ?_; (case hd => rfl); (case hg => rfl); (case hr => first | (go_simp; done) | (go_simp; rfl)); intro gb496 hg w5 hbox hb; have BK496 := Aside0.mk (hbox); have GW496 := bsz HB hg; have GE496 := bsz HB hg; replace HB := bstep HB hb; have NB495_496 := blt BK495 hg; have NB496_495 := bgt BK495 hg; replace BK495 := bkb BK495 hb; clear hb hbox hg))
 (try simp only [Act.put, List.setIfInBounds_toArray, List.set_cons_zero, List.set_cons_succ])
 go_cut [11] (fun v11 wc => ∃ (kq : Nat) (x11_2 : Bool), v11 = .bool x11_2 ∧ Aside0 (w4_TypesFits.j0 kq x11_2 l0_0 l0_1 a1_0 a1_1 a1_2 = some r) ∧ Aside0 (kq ≤ k) ∧ Aside0 (wc.heap[gb495]? = some (.cells #[(.slice A0_0 l0_0.length c0_0), (.slice A0_1 l0_1.length c0_1)] 25 (0, 0))) ∧ Aside0 (wc.heap[gb496]? = some (.cells #[.int .i64 a1_0, .int .i64 a1_1, .int .i64 a1_2] 39 (0, 0))) ∧ Aside0 (Below w.heap.size w wc))
 case first =>
  have H := HC3.out
  clear HC3
  replace H := Option.bind_eq_some_iff.mp H
  obtain ⟨t497, A60, H⟩ := H
  replace H : (if t497 = true then ((q4_Few.f k l0_0 l0_1).bind fun t498 => (w4_TypesFits.j0 k (!t498) l0_0 l0_1 a1_0 a1_1 a1_2)) else (w4_TypesFits.j0 k true l0_0 l0_1 a1_0 a1_1 a1_2)) = some r := H
  have A6 := Aside0.mk A60
  clear A60
  by_cases c7 : t497 = true
  ·subst c7
   replace H := ift H
   replace H := Option.bind_eq_some_iff.mp H
   obtain ⟨t498, A80, H⟩ := H
   replace H : (w4_TypesFits.j0 k (!t498) l0_0 l0_1 a1_0 a1_1 a1_2) = some r := H
   have A8 := Aside0.mk A80
   clear A80
   have H' := Aside0.mk H
   clear H
   go_wp2_with (first | ((with_reducible refine gate_callee (f := 12) rfl ?_); refine gl 5 Try.func12 #[] (h := ?_); (with_reducible refine (w4_awake.calls k  true _ A6.out).mono ?_); rintro e w9 ⟨rfl, hb⟩; refine ⟨_, rfl, ?_⟩; replace BK495 := bkb BK495 hb; replace BK496 := bkb BK496 hb; replace HB := bstep HB hb; (try clear hb); (try clear hb2); (try clear hk); (try clear hi); have hnb10 := NB495_496.out; have hnc10 := NB496_495.out; obtain ⟨hcz11_0, hcz11_1, hfz11_0, hfz11_1⟩ := cz2 BK495) | (go_at_call 13; (with_reducible refine (q4_Few.calls k _ _ l0_0 _ _ l0_1 t498 _ ?side1 ?side2 ?side3 ?side4 A8.out).mono ?_); (case side1 => exact cb HR0_0 HB); (case side2 => exact HC0_0.out); (case side3 => exact cb HR0_1 HB); (case side4 => exact HC0_1.out); rintro e w12 ⟨rfl, hb⟩; replace BK495 := bkb BK495 hb; replace BK496 := bkb BK496 hb; replace HB := bstep HB hb; (try clear hb); (try clear hb2); (try clear hk); (try clear hi)))
   go_meet
   case rel => exact ⟨_, (!t498), eqs, H', ⟨by first | omega | exact Nat.le_refl _⟩, ⟨bk BK495⟩, ⟨bk BK496⟩, ⟨bb HB⟩⟩
  ·replace c7 := Bool.eq_false_iff.mpr c7
   subst c7
   replace H := iff_ H
   have H' := Aside0.mk H
   clear H
   go_wp2_with ((with_reducible refine gate_callee (f := 12) rfl ?_); refine gl 5 Try.func12 #[] (h := ?_); (with_reducible refine (w4_awake.calls k  false _ A6.out).mono ?_); rintro e w13 ⟨rfl, hb⟩; refine ⟨_, rfl, ?_⟩; replace BK495 := bkb BK495 hb; replace BK496 := bkb BK496 hb; replace HB := bstep HB hb; (try clear hb); (try clear hb2); (try clear hk); (try clear hi))
   go_meet
   case rel => exact ⟨_, (true), eqs, H', ⟨by first | omega | exact Nat.le_refl _⟩, ⟨bk BK495⟩, ⟨bk BK496⟩, ⟨bb HB⟩⟩
 case rest =>
  clear HC3
  obtain ⟨kq, x11_2, rfl, HA, HJ2, BK495, BK496, HB⟩ := hcut
  cases kq with
  | zero => exact absurd HA.out (by simp [w4_TypesFits.j0])
  | succ kj2 =>
   have H := HA.out
   clear HA
   simp only [w4_TypesFits.j0] at H
   by_cases c14 : x11_2 = true
   ·subst c14
    replace H := ift H
    replace H := Option.bind_eq_some_iff.mp H
    obtain ⟨t499, A150, H⟩ := H
    replace H : (some t499) = some r := H
    have A15 := Aside0.mk A150
    clear A150
    obtain rfl := Option.some.inj H
    go_wp2_with ((with_reducible refine gate_callee (f := 12) rfl ?_); refine gl 12 Try.func12 #[] (h := ?_); (with_reducible refine (w4_awake.calls kj2  t499 _ A15.out).mono ?_); rintro e w16 ⟨rfl, hb⟩; refine ⟨_, rfl, ?_⟩; replace BK495 := bkb BK495 hb; replace BK496 := bkb BK496 hb; replace HB := bstep HB hb; (try clear hb); (try clear hb2); (try clear hk); (try clear hi))
    go_ret
    exact ⟨erf, bb HB⟩
   ·replace c14 := Bool.eq_false_iff.mpr c14
    subst c14
    replace H := iff_ H
    replace H := Option.bind_eq_some_iff.mp H
    obtain ⟨t500, A170, H⟩ := H
    replace H : ((q4_Fits.f kj2 l0_0 l0_1 a1_0 a1_1 a1_2).bind fun t501 => (some (t500 == t501))) = some r := H
    have A17 := Aside0.mk A170
    clear A170
    replace H := Option.bind_eq_some_iff.mp H
    obtain ⟨t501, A180, H⟩ := H
    replace H : (some (t500 == t501)) = some r := H
    have A18 := Aside0.mk A180
    clear A180
    obtain rfl := Option.some.inj H
    try go_wp2
    replace BK495 := Aside0.mk (blk_drew BK495.out)
    replace BK496 := Aside0.mk (blk_drew BK496.out)
    replace HB := Aside0.mk (below_drew1 HB.out)
    refine start_ (n := 18) (S := fun w' => w'.cell? ⟨gb495, 0, none⟩ = some (.slice A0_0 l0_0.length c0_0) ∧ w'.cell? ⟨gb495, 1, none⟩ = some (.slice A0_1 l0_1.length c0_1) ∧ w'.cell? ⟨gb496, 0, none⟩ = some (.int .i64 a1_0) ∧ w'.cell? ⟨gb496, 1, none⟩ = some (.int .i64 a1_1) ∧ w'.cell? ⟨gb496, 2, none⟩ = some (.int .i64 a1_2)) (ds := []) #[false, false, false, false, false, false, false, false, false, false, false, false, false, false, false, false, false, false] (by kernel_rfl) rfl rfl ⟨(blk_cell BK495.out 0).trans rfl, (blk_cell BK495.out 1).trans rfl, (blk_cell BK496.out 0).trans rfl, (blk_cell BK496.out 1).trans rfl, (blk_cell BK496.out 2).trans rfl⟩ (fun hHeld => ?_); refine with_tabW w4_TypesFits.tab3 w4_TypesFits.bits3 (fun HT_ HW_ => ?_)
    generalize wc.drew = w19 at BK495 BK496 HB hHeld ⊢
    refine pu 1 14 #[false, true, false, false, false, false, false, false, false, false, false, false, false, false, false, false, false, false] HT_ (h := ?_)
    refine pu 3 16 #[false, true, false, true, false, false, false, false, false, false, false, false, false, false, false, false, false, false] HT_ (h := ?_)
    refine pu 5 18 #[false, true, false, true, false, true, false, false, false, false, false, false, false, false, false, false, false, false] HT_ (h := ?_)
    refine pu 9 22 #[false, true, false, true, false, true, false, false, false, true, false, false, false, false, false, false, false, false] HT_ (h := ?_)
    refine pu 11 24 #[false, true, false, true, false, true, false, false, false, true, false, true, false, false, false, false, false, false] HT_ (h := ?_)
    refine pu 13 26 #[false, true, false, true, false, true, false, false, false, true, false, true, false, true, false, false, false, false] HT_ (h := ?_)
    refine tk 0 13 #[true, true, false, true, false, true, false, false, false, true, false, true, false, true, false, false, false, false] HT_ HW_ hHeld (hy := by rintro w' ⟨s0, s1, s2, s3, s4⟩; go_simp; with_reducible rfl) (h := ?_)
    refine tk 2 15 #[true, true, true, true, false, true, false, false, false, true, false, true, false, true, false, false, false, false] HT_ HW_ hHeld (hy := by rintro w' ⟨s0, s1, s2, s3, s4⟩; go_simp; with_reducible rfl) (h := ?_)
    refine tk 4 17 #[true, true, true, true, true, true, false, false, false, true, false, true, false, true, false, false, false, false] HT_ HW_ hHeld (hy := by rintro w' ⟨s0, s1, s2, s3, s4⟩; go_simp; with_reducible rfl) (h := ?_)
    refine tk 6 19 #[true, true, true, true, true, true, true, false, false, true, false, true, false, true, false, false, false, false] HT_ HW_ hHeld (hy := by rintro w' ⟨s0, s1, s2, s3, s4⟩; go_simp; with_reducible rfl) (h := ?_)
    refine tk 8 21 #[true, true, true, true, true, true, true, false, true, true, false, true, false, true, false, false, false, false] HT_ HW_ hHeld (hy := by rintro w' ⟨s0, s1, s2, s3, s4⟩; go_simp; with_reducible rfl) (h := ?_)
    refine tk 10 23 #[true, true, true, true, true, true, true, false, true, true, true, true, false, true, false, false, false, false] HT_ HW_ hHeld (hy := by rintro w' ⟨s0, s1, s2, s3, s4⟩; go_simp; with_reducible rfl) (h := ?_)
    refine tk 12 25 #[true, true, true, true, true, true, true, false, true, true, true, true, true, true, false, false, false, false] HT_ HW_ hHeld (hy := by rintro w' ⟨s0, s1, s2, s3, s4⟩; go_simp; with_reducible rfl) (h := ?_)
    refine tk 14 27 #[true, true, true, true, true, true, true, false, true, true, true, true, true, true, true, false, false, false] HT_ HW_ hHeld (hy := by rintro w' ⟨s0, s1, s2, s3, s4⟩; go_simp; with_reducible rfl) (h := ?_)
    refine one_ (i := 7) (N := some 20) #[true, true, true, true, true, true, true, true, true, true, true, true, true, true, true, false, false, false] rfl rfl (one_of HT_.out (by kernel_rfl)) (by decide) (fun K hK => ?_)
    refine goes_ Try.func23 (by kernel_rfl) rfl #[.agg #[.slice A0_0 l0_0.length c0_0, .slice A0_1 l0_1.length c0_1], .int .i64 a1_0, .int .i64 a1_1, .int .i64 a1_2] (by rfl) rfl rfl (by (try simp only [List.map_toArray, List.map_cons, List.map_nil]); first | done | rfl | (simp only [List.length_drop, List.length_take]; rfl)) ?_
    with_reducible refine (types_Fits.calls kj2 _ _ l0_0 _ _ l0_1 a1_0 a1_1 a1_2 t500 _ ?side1 ?side2 ?side3 ?side4 A17.out).mono ?_
    (case side1 => exact cb HR0_0 HB)
    (case side2 => exact HC0_0.out)
    (case side3 => exact cb HR0_1 HB)
    (case side4 => exact HC0_1.out)
    rintro e w20 ⟨rfl, hb⟩
    refine ⟨_, rfl, ?_⟩
    replace BK495 := bkb BK495 hb
    replace BK496 := bkb BK496 hb
    replace HB := bstep HB hb
    clear hb
    refine hK.out _ _ ⟨(blk_cell BK495.out 0).trans rfl, (blk_cell BK495.out 1).trans rfl, (blk_cell BK496.out 0).trans rfl, (blk_cell BK496.out 1).trans rfl, (blk_cell BK496.out 2).trans rfl⟩ (fun hHeld => ?_)
    clear hK K
    refine norm_ (a' := ?_) ?_ ?_
    rotate_left
    ·show Act.put _ (some 20) _ = _
     simp only [Act.put, List.setIfInBounds_toArray, List.set_cons_zero, List.set_cons_succ, i64_w, i32_w]
     rfl
    refine one_ (i := 15) (N := some 28) #[true, true, true, true, true, true, true, true, true, true, true, true, true, true, true, true, false, false] rfl rfl (one_of HT_.out (by kernel_rfl)) (by decide) (fun K hK => ?_)
    refine goes_ Try.func24 (by kernel_rfl) rfl #[.agg #[.slice A0_0 l0_0.length c0_0, .slice A0_1 l0_1.length c0_1], .int .i64 a1_0, .int .i64 a1_1, .int .i64 a1_2] (by rfl) rfl rfl (by (try simp only [List.map_toArray, List.map_cons, List.map_nil]); first | done | rfl | (simp only [List.length_drop, List.length_take]; rfl)) ?_
    with_reducible refine (q4_Fits.calls kj2 _ _ l0_0 _ _ l0_1 a1_0 a1_1 a1_2 t501 _ ?side1 ?side2 ?side3 ?side4 A18.out).mono ?_
    (case side1 => exact cb HR0_0 HB)
    (case side2 => exact HC0_0.out)
    (case side3 => exact cb HR0_1 HB)
    (case side4 => exact HC0_1.out)
    rintro e w21 ⟨rfl, hb⟩
    refine ⟨_, rfl, ?_⟩
    replace BK495 := bkb BK495 hb
    replace BK496 := bkb BK496 hb
    replace HB := bstep HB hb
    clear hb
    refine hK.out _ _ ⟨(blk_cell BK495.out 0).trans rfl, (blk_cell BK495.out 1).trans rfl, (blk_cell BK496.out 0).trans rfl, (blk_cell BK496.out 1).trans rfl, (blk_cell BK496.out 2).trans rfl⟩ (fun hHeld => ?_)
    clear hK K
    refine norm_ (a' := ?_) ?_ ?_
    rotate_left
    ·show Act.put _ (some 28) _ = _
     simp only [Act.put, List.setIfInBounds_toArray, List.set_cons_zero, List.set_cons_succ, i64_w, i32_w]
     rfl
    refine pu 16 29 #[true, true, true, true, true, true, true, true, true, true, true, true, true, true, true, true, true, false] HT_ (h := ?_)
    refine pu 17 4 #[true, true, true, true, true, true, true, true, true, true, true, true, true, true, true, true, true, true] HT_ (h := ?_)
    refine done_ (done_of HT_.out (by kernel_rfl)) ?_
    try go_wp2
    go_ret
    exact ⟨erf, bb HB⟩
end Go.Proofs.Ytfpianecohobjaa.P
