/- typesValid_holds, typesMeet_holds, typesIs_holds, typesFits_holds: a part of the proof that the law returns true for every input. No condition. -/
import Derived.Test.YtfpianecohobjaaTPx0
import Derived.Test.YtfpianecohobjaaTPx10
import Derived.Test.YtfpianecohobjaaTPx11
import Derived.Test.YtfpianecohobjaaTPx20
import Derived.Test.YtfpianecohobjaaTPx21
import Derived.Test.YtfpianecohobjaaTPx22
namespace Go.Proofs.Ytfpianecohobjaa.P
open Go.RowKit Go.Proofs.YtfpianecohobjaaW.PrintWords Go.Proofs.YtfpianecohobjaaW.PrintLast Go.Proofs.YtfpianecohobjaaW.PrintMore
set_option linter.unusedVariables false
set_option linter.unusedSimpArgs false
def q4_Is.f (k : Nat) (l0_0 : List (S68)) (l0_1 : List (S71)) (a1 : Int) (a2 : Int) : Option (Bool) := (q4_given.f k l0_0 l0_1 a1 a2).bind fun t405 => (if t405 = 0 then ((q4_Below1.f k l0_0 l0_1 a1 a2).bind fun t406 => (some t406)) else (some false))
set_option maxHeartbeats 8000000 in
set_option maxRecDepth 100000 in
theorem q4_Is.calls (k : Nat) (A0_0 : Option Addr) (c0_0 : Nat) (l0_0 : List (S68)) (A0_1 : Option Addr) (c0_1 : Nat) (l0_1 : List (S71)) (a1 : Int) (a2 : Int) (r : Bool) (w : World) (hr0_0 : Kd.C k68 w A0_0 l0_0.length l0_0) (hc0_0 : l0_0.length ≤ c0_0) (hr0_1 : Kd.C k71 w A0_1 l0_1.length l0_1) (hc0_1 : l0_1.length ≤ c0_1) (h : q4_Is.f k l0_0 l0_1 a1 a2 = some r) :
  Calls Try.prog 21 #[.agg #[.slice A0_0 l0_0.length c0_0, .slice A0_1 l0_1.length c0_1], .int .i64 a1, .int .i64 a2] w fun e w' => e = .returned (.bool r) ∧ Below w.heap.size w w' := by
 have hu25 := Try.underlying25
 have HR0_0 := Aside0.mk hr0_0
 have HC0_0 := Aside0.mk hc0_0
 clear hr0_0 hc0_0
 have HR0_1 := Aside0.mk hr0_1
 have HC0_1 := Aside0.mk hc0_1
 clear hr0_1 hc0_1
 have HB := Aside0.mk (Below.refl w.heap.size w)
 have H : ((q4_given.f k l0_0 l0_1 a1 a2).bind fun t405 => (if t405 = 0 then ((q4_Below1.f k l0_0 l0_1 a1 a2).bind fun t406 => (some t406)) else (some false))) = some r := h
 clear h
 replace H := Option.bind_eq_some_iff.mp H
 obtain ⟨t405, A40, H⟩ := H
 replace H : (if t405 = 0 then ((q4_Below1.f k l0_0 l0_1 a1 a2).bind fun t406 => (some t406)) else (some false)) = some r := H
 have A4 := Aside0.mk A40
 clear A40
 by_cases c5 : t405 = 0
 ·rw [if_pos c5] at H
  have c5b0 : (t405 == 0) = true := beq_iff_eq.mpr c5
  have c5b1 : (t405 != 0) = false := bne_eq_false_iff_eq.mpr c5
  clear c5
  replace H := Option.bind_eq_some_iff.mp H
  obtain ⟨t406, A60, H⟩ := H
  replace H : (some t406) = some r := H
  have A6 := Aside0.mk A60
  clear A60
  obtain rfl := Option.some.inj H
  go_enter Try.func21, Try.ntmps21
  go_wp2_with (first | ((with_reducible refine gate_dst (N := 3) rfl ?_); refine box_event ?hg (N := 3) ?hd (cs := #[.slice A0_0 l0_0.length c0_0, .slice A0_1 l0_1.length c0_1]) (t := 25) ?hr ?_; (case hd => rfl); (case hg => rfl); (case hr => first | (go_simp; done) | (go_simp; rfl)); intro gb404 hg w7 hbox hb; have BK404 := Aside0.mk (hbox); have GW404 := Aside0.mk ((by rw [hg]; exact (below_size (bb HB)) : w.heap.size ≤ gb404)); have GE404 := Aside0.mk ((by rw [hg]; exact (below_size (bb HB)) : w.heap.size ≤ gb404)); replace HB := bstep HB hb; clear hb hbox hg; obtain ⟨hcz8_0, hcz8_1, hfz8_0, hfz8_1⟩ := cz2 BK404) | ((with_reducible refine gate_callee (f := 45) rfl ?_); refine goesL_ (some 10) rfl rfl Try.func45 (by kernel_rfl) rfl #[.agg #[.slice A0_0 l0_0.length c0_0, .slice A0_1 l0_1.length c0_1], .int .i64 a1, .int .i64 a2] rfl (by (try simp only [List.map_toArray, List.map_cons, List.map_nil]); first | done | rfl | (simp only [List.length_drop, List.length_take]; rfl)) ?_; (with_reducible refine (q4_given.calls k _ _ l0_0 _ _ l0_1 a1 a2 t405 _ ?side1 ?side2 ?side3 ?side4 A4.out).mono ?_); (case side1 => exact cb HR0_0 HB); (case side2 => exact HC0_0.out); (case side3 => exact cb HR0_1 HB); (case side4 => exact HC0_1.out); rintro e w9 ⟨rfl, hb⟩; refine ⟨_, rfl, ?_⟩; replace BK404 := bkb BK404 hb; replace HB := bstep HB hb; (try clear hb); (try clear hb2); (try clear hk); (try clear hi); obtain ⟨hcz10_0, hcz10_1, hfz10_0, hfz10_1⟩ := cz2 BK404) | (go_at_call 46; (with_reducible refine (q4_Below1.calls k _ _ l0_0 _ _ l0_1 a1 a2 t406 _ ?side1 ?side2 ?side3 ?side4 A6.out).mono ?_); (case side1 => exact cb HR0_0 HB); (case side2 => exact HC0_0.out); (case side3 => exact cb HR0_1 HB); (case side4 => exact HC0_1.out); rintro e w11 ⟨rfl, hb⟩; replace BK404 := bkb BK404 hb; replace HB := bstep HB hb; (try clear hb); (try clear hb2); (try clear hk); (try clear hi)))
  go_ret
  exact ⟨erf, bb HB⟩
 ·rw [if_neg c5] at H
  have c5b0 : (t405 == 0) = false := beq_eq_false_iff_ne.mpr c5
  have c5b1 : (t405 != 0) = true := bne_iff_ne.mpr c5
  obtain rfl := Option.some.inj H
  go_enter Try.func21, Try.ntmps21
  go_wp2_with (first | ((with_reducible refine gate_dst (N := 3) rfl ?_); refine box_event ?hg (N := 3) ?hd (cs := #[.slice A0_0 l0_0.length c0_0, .slice A0_1 l0_1.length c0_1]) (t := 25) ?hr ?_; (case hd => rfl); (case hg => rfl); (case hr => first | (go_simp; done) | (go_simp; rfl)); intro gb404 hg w12 hbox hb; have BK404 := Aside0.mk (hbox); have GW404 := Aside0.mk ((by rw [hg]; exact (below_size (bb HB)) : w.heap.size ≤ gb404)); have GE404 := Aside0.mk ((by rw [hg]; exact (below_size (bb HB)) : w.heap.size ≤ gb404)); replace HB := bstep HB hb; clear hb hbox hg; obtain ⟨hcz13_0, hcz13_1, hfz13_0, hfz13_1⟩ := cz2 BK404) | ((with_reducible refine gate_callee (f := 45) rfl ?_); refine goesL_ (some 10) rfl rfl Try.func45 (by kernel_rfl) rfl #[.agg #[.slice A0_0 l0_0.length c0_0, .slice A0_1 l0_1.length c0_1], .int .i64 a1, .int .i64 a2] rfl (by (try simp only [List.map_toArray, List.map_cons, List.map_nil]); first | done | rfl | (simp only [List.length_drop, List.length_take]; rfl)) ?_; (with_reducible refine (q4_given.calls k _ _ l0_0 _ _ l0_1 a1 a2 t405 _ ?side1 ?side2 ?side3 ?side4 A4.out).mono ?_); (case side1 => exact cb HR0_0 HB); (case side2 => exact HC0_0.out); (case side3 => exact cb HR0_1 HB); (case side4 => exact HC0_1.out); rintro e w14 ⟨rfl, hb⟩; refine ⟨_, rfl, ?_⟩; replace BK404 := bkb BK404 hb; replace HB := bstep HB hb; (try clear hb); (try clear hb2); (try clear hk); (try clear hi)))
  go_ret
  exact ⟨erf, bb HB⟩
def w4_TypesIs.j0 : Nat → Int → Int → Bool → List (S68) → List (S71) → Option (Bool)
 | 0, _, _, _, _, _ => none
 | k + 1, x1, x2, x13, x408000, x408001 => if x13 = true then ((w4_awake.f k).bind fun t410 => (some t410)) else ((types_Is.f k x408000 x408001 x1 x2).bind fun t411 => ((q4_Is.f k x408000 x408001 x1 x2).bind fun t412 => (some (t411 == t412))))
def w4_TypesIs.f (k : Nat) (l0_0 : List (S68)) (l0_1 : List (S71)) (a1 : Int) (a2 : Int) : Option (Bool) := (w4_awake.f k).bind fun t408 => (if t408 = true then ((q4_Few.f k l0_0 l0_1).bind fun t409 => (w4_TypesIs.j0 k a1 a2 (!t409) l0_0 l0_1)) else (w4_TypesIs.j0 k a1 a2 true l0_0 l0_1))
def w4_TypesIs.T3 : Bool × List (List Nat × List Nat) := (true, [([], []), ([], []), ([], []), ([0, 1, 2], [0, 1, 2]), ([], []), ([], []), ([], []), ([4, 5, 6, 3], [4, 5, 6]), ([3, 7], [3, 7]), ([8, 7, 0, 1, 2, 3, 4, 5, 6, 7, 8], [8])])
def w4_TypesIs.B3 : List Nat := [0, 0, 0, 7, 0, 0, 0, 127, 255, 511]
theorem w4_TypesIs.tab3 : rtab .any (opsOf Try.f5 3) = w4_TypesIs.T3 := by kernel_rfl
theorem w4_TypesIs.bits3 : waitsOk w4_TypesIs.T3.2 w4_TypesIs.B3 = true := by kernel_rfl
set_option maxHeartbeats 8000000 in
set_option maxRecDepth 100000 in
theorem w4_TypesIs.calls (k : Nat) (A0_0 : Option Addr) (c0_0 : Nat) (l0_0 : List (S68)) (A0_1 : Option Addr) (c0_1 : Nat) (l0_1 : List (S71)) (a1 : Int) (a2 : Int) (r : Bool) (w : World) (hr0_0 : Kd.C k68 w A0_0 l0_0.length l0_0) (hc0_0 : l0_0.length ≤ c0_0) (hr0_1 : Kd.C k71 w A0_1 l0_1.length l0_1) (hc0_1 : l0_1.length ≤ c0_1) (h : w4_TypesIs.f k l0_0 l0_1 a1 a2 = some r) :
  Calls Try.prog 5 #[.agg #[.slice A0_0 l0_0.length c0_0, .slice A0_1 l0_1.length c0_1], .int .i64 a1, .int .i64 a2] w fun e w' => e = .returned (.bool r) ∧ Below w.heap.size w w' := by
 have hu25 := Try.underlying25
 have HR0_0 := Aside0.mk hr0_0
 have HC0_0 := Aside0.mk hc0_0
 clear hr0_0 hc0_0
 have HR0_1 := Aside0.mk hr0_1
 have HC0_1 := Aside0.mk hc0_1
 clear hr0_1 hc0_1
 have HB := Aside0.mk (Below.refl w.heap.size w)
 have H : ((w4_awake.f k).bind fun t408 => (if t408 = true then ((q4_Few.f k l0_0 l0_1).bind fun t409 => (w4_TypesIs.j0 k a1 a2 (!t409) l0_0 l0_1)) else (w4_TypesIs.j0 k a1 a2 true l0_0 l0_1))) = some r := h
 clear h
 have HC4 := Aside0.mk H
 clear H
 go_enter Try.func5, Try.ntmps5
 go_upto_region 1 with ((with_reducible refine gate_dst (N := 3) rfl ?_); refine box_event ?hg (N := 3) ?hd (cs := #[.slice A0_0 l0_0.length c0_0, .slice A0_1 l0_1.length c0_1]) (t := 25) ?hr ?_; (case hd => rfl); (case hg => rfl); (case hr => first | (go_simp; done) | (go_simp; rfl)); intro gb407 hg w5 hbox hb; have BK407 := Aside0.mk (hbox); have GW407 := Aside0.mk ((by rw [hg]; exact (below_size (bb HB)) : w.heap.size ≤ gb407)); have GE407 := Aside0.mk ((by rw [hg]; exact (below_size (bb HB)) : w.heap.size ≤ gb407)); replace HB := bstep HB hb; clear hb hbox hg)
 (try simp only [Act.put, List.setIfInBounds_toArray, List.set_cons_zero, List.set_cons_succ])
 go_cut [13] (fun v13 wc => ∃ (kq : Nat) (x13_3 : Bool), v13 = .bool x13_3 ∧ Aside0 (w4_TypesIs.j0 kq a1 a2 x13_3 l0_0 l0_1 = some r) ∧ Aside0 (kq ≤ k) ∧ Aside0 (wc.heap[gb407]? = some (.cells #[(.slice A0_0 l0_0.length c0_0), (.slice A0_1 l0_1.length c0_1)] 25 (0, 0))) ∧ Aside0 (Below w.heap.size w wc))
 case first =>
  have H := HC4.out
  clear HC4
  replace H := Option.bind_eq_some_iff.mp H
  obtain ⟨t408, A60, H⟩ := H
  replace H : (if t408 = true then ((q4_Few.f k l0_0 l0_1).bind fun t409 => (w4_TypesIs.j0 k a1 a2 (!t409) l0_0 l0_1)) else (w4_TypesIs.j0 k a1 a2 true l0_0 l0_1)) = some r := H
  have A6 := Aside0.mk A60
  clear A60
  by_cases c7 : t408 = true
  ·subst c7
   replace H := ift H
   replace H := Option.bind_eq_some_iff.mp H
   obtain ⟨t409, A80, H⟩ := H
   replace H : (w4_TypesIs.j0 k a1 a2 (!t409) l0_0 l0_1) = some r := H
   have A8 := Aside0.mk A80
   clear A80
   have H' := Aside0.mk H
   clear H
   go_wp2_with (first | ((with_reducible refine gate_callee (f := 12) rfl ?_); refine goesL_ (some 7) rfl rfl Try.func12 (by kernel_rfl) rfl #[] rfl (by (try simp only [List.map_toArray, List.map_cons, List.map_nil]); first | done | rfl | (simp only [List.length_drop, List.length_take]; rfl)) ?_; (with_reducible refine (w4_awake.calls k  true _ A6.out).mono ?_); rintro e w9 ⟨rfl, hb⟩; refine ⟨_, rfl, ?_⟩; replace BK407 := bkb BK407 hb; replace HB := bstep HB hb; (try clear hb); (try clear hb2); (try clear hk); (try clear hi); obtain ⟨hcz10_0, hcz10_1, hfz10_0, hfz10_1⟩ := cz2 BK407) | (go_at_call 13; (with_reducible refine (q4_Few.calls k _ _ l0_0 _ _ l0_1 t409 _ ?side1 ?side2 ?side3 ?side4 A8.out).mono ?_); (case side1 => exact cb HR0_0 HB); (case side2 => exact HC0_0.out); (case side3 => exact cb HR0_1 HB); (case side4 => exact HC0_1.out); rintro e w11 ⟨rfl, hb⟩; replace BK407 := bkb BK407 hb; replace HB := bstep HB hb; (try clear hb); (try clear hb2); (try clear hk); (try clear hi)))
   go_meet
   case rel => exact ⟨_, (!t409), eqs, H', ⟨by first | omega | exact Nat.le_refl _⟩, ⟨bk BK407⟩, ⟨bb HB⟩⟩
  ·replace c7 := Bool.eq_false_iff.mpr c7
   subst c7
   replace H := iff_ H
   have H' := Aside0.mk H
   clear H
   go_wp2_with ((with_reducible refine gate_callee (f := 12) rfl ?_); refine goesL_ (some 7) rfl rfl Try.func12 (by kernel_rfl) rfl #[] rfl (by (try simp only [List.map_toArray, List.map_cons, List.map_nil]); first | done | rfl | (simp only [List.length_drop, List.length_take]; rfl)) ?_; (with_reducible refine (w4_awake.calls k  false _ A6.out).mono ?_); rintro e w12 ⟨rfl, hb⟩; refine ⟨_, rfl, ?_⟩; replace BK407 := bkb BK407 hb; replace HB := bstep HB hb; (try clear hb); (try clear hb2); (try clear hk); (try clear hi))
   go_meet
   case rel => exact ⟨_, (true), eqs, H', ⟨by first | omega | exact Nat.le_refl _⟩, ⟨bk BK407⟩, ⟨bb HB⟩⟩
 case rest =>
  clear HC4
  obtain ⟨kq, x13_3, rfl, HA, HJ3, BK407, HB⟩ := hcut
  cases kq with
  | zero => exact absurd HA.out (by simp [w4_TypesIs.j0])
  | succ kj3 =>
   have H := HA.out
   clear HA
   simp only [w4_TypesIs.j0] at H
   by_cases c13 : x13_3 = true
   ·subst c13
    replace H := ift H
    replace H := Option.bind_eq_some_iff.mp H
    obtain ⟨t410, A140, H⟩ := H
    replace H : (some t410) = some r := H
    have A14 := Aside0.mk A140
    clear A140
    obtain rfl := Option.some.inj H
    go_wp2_with ((with_reducible refine gate_callee (f := 12) rfl ?_); refine goesL_ (some 14) rfl rfl Try.func12 (by kernel_rfl) rfl #[] rfl (by (try simp only [List.map_toArray, List.map_cons, List.map_nil]); first | done | rfl | (simp only [List.length_drop, List.length_take]; rfl)) ?_; (with_reducible refine (w4_awake.calls kj3  t410 _ A14.out).mono ?_); rintro e w15 ⟨rfl, hb⟩; refine ⟨_, rfl, ?_⟩; replace BK407 := bkb BK407 hb; replace HB := bstep HB hb; (try clear hb); (try clear hb2); (try clear hk); (try clear hi))
    go_ret
    exact ⟨erf, bb HB⟩
   ·replace c13 := Bool.eq_false_iff.mpr c13
    subst c13
    replace H := iff_ H
    replace H := Option.bind_eq_some_iff.mp H
    obtain ⟨t411, A160, H⟩ := H
    replace H : ((q4_Is.f kj3 l0_0 l0_1 a1 a2).bind fun t412 => (some (t411 == t412))) = some r := H
    have A16 := Aside0.mk A160
    clear A160
    replace H := Option.bind_eq_some_iff.mp H
    obtain ⟨t412, A170, H⟩ := H
    replace H : (some (t411 == t412)) = some r := H
    have A17 := Aside0.mk A170
    clear A170
    obtain rfl := Option.some.inj H
    try go_wp2
    replace BK407 := Aside0.mk (blk_drew BK407.out)
    replace HB := Aside0.mk (below_drew1 HB.out)
    refine start_ (n := 10) (S := fun w' => w'.cell? ⟨gb407, 0, none⟩ = some (.slice A0_0 l0_0.length c0_0) ∧ w'.cell? ⟨gb407, 1, none⟩ = some (.slice A0_1 l0_1.length c0_1)) (ds := []) #[false, false, false, false, false, false, false, false, false, false] (by kernel_rfl) rfl rfl ⟨(blk_cell BK407.out 0).trans rfl, (blk_cell BK407.out 1).trans rfl⟩ (fun hHeld => ?_); refine with_tabW w4_TypesIs.tab3 w4_TypesIs.bits3 (fun HT_ HW_ => ?_)
    generalize wc.drew = w18 at BK407 HB hHeld ⊢
    refine pure_ (i := 1) (N := some 16) (v := ?_) (a' := ?_) #[false, true, false, false, false, false, false, false, false, false] rfl rfl (any_of HT_.out (by kernel_rfl)) (fun _ _ _ h => h) (Or.inl ⟨by rfl, ?_⟩) ?_ ?_
    rotate_left
    ·intro w'
     go_simp
     with_reducible rfl
    rotate_left
    ·simp only [Act.put, List.setIfInBounds_toArray, List.set_cons_zero, List.set_cons_succ, i64_w, i32_w]
     rfl
    refine pure_ (i := 2) (N := some 17) (v := ?_) (a' := ?_) #[false, true, true, false, false, false, false, false, false, false] rfl rfl (any_of HT_.out (by kernel_rfl)) (fun _ _ _ h => h) (Or.inl ⟨by rfl, ?_⟩) ?_ ?_
    rotate_left
    ·intro w'
     go_simp
     with_reducible rfl
    rotate_left
    ·simp only [Act.put, List.setIfInBounds_toArray, List.set_cons_zero, List.set_cons_succ, i64_w, i32_w]
     rfl
    refine pure_ (i := 5) (N := some 20) (v := ?_) (a' := ?_) #[false, true, true, false, false, true, false, false, false, false] rfl rfl (any_of HT_.out (by kernel_rfl)) (fun _ _ _ h => h) (Or.inl ⟨by rfl, ?_⟩) ?_ ?_
    rotate_left
    ·intro w'
     go_simp
     with_reducible rfl
    rotate_left
    ·simp only [Act.put, List.setIfInBounds_toArray, List.set_cons_zero, List.set_cons_succ, i64_w, i32_w]
     rfl
    refine pure_ (i := 6) (N := some 21) (v := ?_) (a' := ?_) #[false, true, true, false, false, true, true, false, false, false] rfl rfl (any_of HT_.out (by kernel_rfl)) (fun _ _ _ h => h) (Or.inl ⟨by rfl, ?_⟩) ?_ ?_
    rotate_left
    ·intro w'
     go_simp
     with_reducible rfl
    rotate_left
    ·simp only [Act.put, List.setIfInBounds_toArray, List.set_cons_zero, List.set_cons_succ, i64_w, i32_w]
     rfl
    refine take_ (i := 0) (N := some 15) (v := ?_) (a' := ?_) #[true, true, true, false, false, true, true, false, false, false] rfl rfl (take_ofW HT_.out HW_.out (by kernel_rfl)) (fun _ _ _ h => h) (Or.inl ⟨by rfl, ?_⟩) hHeld ?_ ?_
    rotate_left
    ·rintro w' ⟨s0, s1⟩
     go_simp
     with_reducible rfl
    rotate_left
    ·simp only [Act.put, List.setIfInBounds_toArray, List.set_cons_zero, List.set_cons_succ, i64_w, i32_w]
     rfl
    refine take_ (i := 4) (N := some 19) (v := ?_) (a' := ?_) #[true, true, true, false, true, true, true, false, false, false] rfl rfl (take_ofW HT_.out HW_.out (by kernel_rfl)) (fun _ _ _ h => h) (Or.inl ⟨by rfl, ?_⟩) hHeld ?_ ?_
    rotate_left
    ·rintro w' ⟨s0, s1⟩
     go_simp
     with_reducible rfl
    rotate_left
    ·simp only [Act.put, List.setIfInBounds_toArray, List.set_cons_zero, List.set_cons_succ, i64_w, i32_w]
     rfl
    refine one_ (i := 3) (N := some 18) #[true, true, true, true, true, true, true, false, false, false] rfl rfl (one_of HT_.out (by kernel_rfl)) (by decide) (fun K hK => ?_)
    refine goes_ Try.func20 (by kernel_rfl) rfl #[.agg #[.slice A0_0 l0_0.length c0_0, .slice A0_1 l0_1.length c0_1], .int .i64 a1, .int .i64 a2] (by rfl) rfl rfl (by (try simp only [List.map_toArray, List.map_cons, List.map_nil]); first | done | rfl | (simp only [List.length_drop, List.length_take]; rfl)) ?_
    with_reducible refine (types_Is.calls kj3 _ _ l0_0 _ _ l0_1 a1 a2 t411 _ ?side1 ?side2 ?side3 ?side4 A16.out).mono ?_
    (case side1 => exact cb HR0_0 HB)
    (case side2 => exact HC0_0.out)
    (case side3 => exact cb HR0_1 HB)
    (case side4 => exact HC0_1.out)
    rintro e w19 ⟨rfl, hb⟩
    refine ⟨_, rfl, ?_⟩
    replace BK407 := bkb BK407 hb
    replace HB := bstep HB hb
    clear hb
    refine hK.out _ _ ⟨(blk_cell BK407.out 0).trans rfl, (blk_cell BK407.out 1).trans rfl⟩ (fun hHeld => ?_)
    clear hK K
    refine norm_ (a' := ?_) ?_ ?_
    rotate_left
    ·show Act.put _ (some 18) _ = _
     simp only [Act.put, List.setIfInBounds_toArray, List.set_cons_zero, List.set_cons_succ, i64_w, i32_w]
     rfl
    refine one_ (i := 7) (N := some 22) #[true, true, true, true, true, true, true, true, false, false] rfl rfl (one_of HT_.out (by kernel_rfl)) (by decide) (fun K hK => ?_)
    refine goes_ Try.func21 (by kernel_rfl) rfl #[.agg #[.slice A0_0 l0_0.length c0_0, .slice A0_1 l0_1.length c0_1], .int .i64 a1, .int .i64 a2] (by rfl) rfl rfl (by (try simp only [List.map_toArray, List.map_cons, List.map_nil]); first | done | rfl | (simp only [List.length_drop, List.length_take]; rfl)) ?_
    with_reducible refine (q4_Is.calls kj3 _ _ l0_0 _ _ l0_1 a1 a2 t412 _ ?side1 ?side2 ?side3 ?side4 A17.out).mono ?_
    (case side1 => exact cb HR0_0 HB)
    (case side2 => exact HC0_0.out)
    (case side3 => exact cb HR0_1 HB)
    (case side4 => exact HC0_1.out)
    rintro e w20 ⟨rfl, hb⟩
    refine ⟨_, rfl, ?_⟩
    replace BK407 := bkb BK407 hb
    replace HB := bstep HB hb
    clear hb
    refine hK.out _ _ ⟨(blk_cell BK407.out 0).trans rfl, (blk_cell BK407.out 1).trans rfl⟩ (fun hHeld => ?_)
    clear hK K
    refine norm_ (a' := ?_) ?_ ?_
    rotate_left
    ·show Act.put _ (some 22) _ = _
     simp only [Act.put, List.setIfInBounds_toArray, List.set_cons_zero, List.set_cons_succ, i64_w, i32_w]
     rfl
    refine pure_ (i := 8) (N := some 23) (v := ?_) (a' := ?_) #[true, true, true, true, true, true, true, true, true, false] rfl rfl (any_of HT_.out (by kernel_rfl)) (fun _ _ _ h => h) (Or.inl ⟨by rfl, ?_⟩) ?_ ?_
    rotate_left
    ·intro w'
     go_simp
     with_reducible rfl
    rotate_left
    ·simp only [Act.put, List.setIfInBounds_toArray, List.set_cons_zero, List.set_cons_succ, i64_w, i32_w]
     rfl
    refine pure_ (i := 9) (N := some 6) (v := ?_) (a' := ?_) #[true, true, true, true, true, true, true, true, true, true] rfl rfl (any_of HT_.out (by kernel_rfl)) (fun _ _ _ h => h) (Or.inl ⟨by rfl, ?_⟩) ?_ ?_
    rotate_left
    ·intro w'
     go_simp
     with_reducible rfl
    rotate_left
    ·simp only [Act.put, List.setIfInBounds_toArray, List.set_cons_zero, List.set_cons_succ, i64_w, i32_w]
     rfl
    refine done_ (done_of HT_.out (by kernel_rfl)) ?_
    try go_wp2
    go_ret
    exact ⟨erf, bb HB⟩
end Go.Proofs.Ytfpianecohobjaa.P
