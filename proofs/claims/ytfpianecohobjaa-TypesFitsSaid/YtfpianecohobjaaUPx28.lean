/- typesFits_holds: a part of the proof that the law returns true for every input. No condition. -/
import Derived.Test.YtfpianecohobjaaUPx0
import Derived.Test.YtfpianecohobjaaUPx12
import Derived.Test.YtfpianecohobjaaUPx20
import Derived.Test.YtfpianecohobjaaUPx21
namespace Go.Proofs.Ytfpianecohobjaa.P
open Go.RowKit Go.Proofs.YtfpianecohobjaaW.PrintWords Go.Proofs.YtfpianecohobjaaW.PrintLast Go.Proofs.YtfpianecohobjaaW.PrintMore
set_option linter.unusedVariables false
set_option linter.unusedSimpArgs false
def q4_Fits.j0 : Nat → Int → Int → Int → Bool → List (S68) → List (S71) → Option (Bool)
 | 0, _, _, _, _, _, _ => none
 | k + 1, x1, x2, x3, x22, x489000, x489001 => if x22 = true then (some false) else (if 0 ≤ x1 then (if x1 < (x489001.length : Int) then ((q4_Below1.f k x489000 x489001 x2 ((rd_T71 x489001 x1).f1)).bind fun t492 => (if t492 = true then ((q4_Below1.f k x489000 x489001 x3 ((rd_T71 x489001 x1).f2)).bind fun t494 => (some t494)) else (some false))) else (none)) else (none))
def q4_Fits.f (k : Nat) (l0_0 : List (S68)) (l0_1 : List (S71)) (a1 : Int) (a2 : Int) (a3 : Int) : Option (Bool) := (q4_given.f k l0_0 l0_1 a2 a3).bind fun t489 => (if t489 = 0 then ((q4_in.f a1 0 (wrap64 ((l0_1.length : Int) - 1))).bind fun t490 => (q4_Fits.j0 k a1 a2 a3 (!t490) l0_0 l0_1)) else (q4_Fits.j0 k a1 a2 a3 true l0_0 l0_1))
def q4_Fits.T3 : Bool × List (List Nat × List Nat) := (true, [([], []), ([], []), ([], []), ([2], [2]), ([], []), ([3, 4], [3, 4]), ([5], [5]), ([6], [6]), ([0, 1, 7], [0, 1, 7]), ([8, 8], [8]), ([9], [9]), ([9], [9]), ([9], [9]), ([12, 9], [9, 12]), ([9], [9]), ([13, 14, 9], [9, 13, 14]), ([15, 9], [9, 15]), ([16, 9], [9, 16]), ([10, 11, 17, 9, 9], [9, 10, 11, 17]), ([9, 18], [9, 18]), ([19, 18, 0, 1, 2, 3, 4, 5, 6, 7, 8, 9, 10, 11, 12, 13, 14, 15, 16, 17, 18, 19], [19])])
def q4_Fits.B3 : List Nat := [0, 0, 0, 4, 0, 28, 60, 124, 255, 511, 1023, 1023, 1023, 5119, 1023, 29695, 62463, 127999, 262143, 524287, 1048575]
theorem q4_Fits.tab3 : rtab .any (opsOf Try.f24 3) = q4_Fits.T3 := by kernel_rfl
theorem q4_Fits.bits3 : waitsOk q4_Fits.T3.2 q4_Fits.B3 = true := by kernel_rfl
set_option maxHeartbeats 8000000 in
set_option maxRecDepth 100000 in
theorem q4_Fits.calls (k : Nat) (A0_0 : Option Addr) (c0_0 : Nat) (l0_0 : List (S68)) (A0_1 : Option Addr) (c0_1 : Nat) (l0_1 : List (S71)) (a1 : Int) (a2 : Int) (a3 : Int) (r : Bool) (w : World) (hr0_0 : Kd.C k68 w A0_0 l0_0.length l0_0) (hc0_0 : l0_0.length ≤ c0_0) (hr0_1 : Kd.C k71 w A0_1 l0_1.length l0_1) (hc0_1 : l0_1.length ≤ c0_1) (h : q4_Fits.f k l0_0 l0_1 a1 a2 a3 = some r) :
  Calls Try.prog 24 #[.agg #[.slice A0_0 l0_0.length c0_0, .slice A0_1 l0_1.length c0_1], .int .i64 a1, .int .i64 a2, .int .i64 a3] w fun e w' => e = .returned (.bool r) ∧ Below w.heap.size w w' := by
 have hu25 := Try.underlying25
 have HR0_0 := Aside0.mk hr0_0
 have HC0_0 := Aside0.mk hc0_0
 clear hr0_0 hc0_0
 have HR0_1 := Aside0.mk hr0_1
 have HC0_1 := Aside0.mk hc0_1
 clear hr0_1 hc0_1
 have HB := Aside0.mk (Below.refl w.heap.size w)
 have H : ((q4_given.f k l0_0 l0_1 a2 a3).bind fun t489 => (if t489 = 0 then ((q4_in.f a1 0 (wrap64 ((l0_1.length : Int) - 1))).bind fun t490 => (q4_Fits.j0 k a1 a2 a3 (!t490) l0_0 l0_1)) else (q4_Fits.j0 k a1 a2 a3 true l0_0 l0_1))) = some r := h
 clear h
 have HC5 := Aside0.mk H
 clear H
 go_enter Try.func24, Try.ntmps24
 go_upto_region 1 with ((with_reducible refine gate_dst (N := 4) rfl ?_); (try (refine gate_guard (by rfl) ?_; dsimp only)); refine box_event ?hg (N := 4) ?hd (cs := #[.slice A0_0 l0_0.length c0_0, .slice A0_1 l0_1.length c0_1]) (t := 25) ?hr ?_; (case hd => rfl); (case hg => rfl); (case hr => first | (go_simp; done) | (go_simp; rfl)); intro gb488 hg w6 hbox hb; have BK488 := Aside0.mk (hbox); have GW488 := bsz HB hg; have GE488 := bsz HB hg; replace HB := bstep HB hb; clear hb hbox hg)
 (try simp only [Act.put, List.setIfInBounds_toArray, List.set_cons_zero, List.set_cons_succ])
 go_cut [22] (fun v22 wc => ∃ (kq : Nat) (x22_4 : Bool), v22 = .bool x22_4 ∧ Aside0 (q4_Fits.j0 kq a1 a2 a3 x22_4 l0_0 l0_1 = some r) ∧ Aside0 (kq ≤ k) ∧ Aside0 (wc.heap[gb488]? = some (.cells #[(.slice A0_0 l0_0.length c0_0), (.slice A0_1 l0_1.length c0_1)] 25 (0, 0))) ∧ Aside0 (Below w.heap.size w wc))
 case first =>
  have H := HC5.out
  clear HC5
  replace H := Option.bind_eq_some_iff.mp H
  obtain ⟨t489, A70, H⟩ := H
  replace H : (if t489 = 0 then ((q4_in.f a1 0 (wrap64 ((l0_1.length : Int) - 1))).bind fun t490 => (q4_Fits.j0 k a1 a2 a3 (!t490) l0_0 l0_1)) else (q4_Fits.j0 k a1 a2 a3 true l0_0 l0_1)) = some r := H
  have A7 := Aside0.mk A70
  clear A70
  by_cases c8 : t489 = 0
  ·rw [if_pos c8] at H
   have c8b0 : (t489 == 0) = true := beq_iff_eq.mpr c8
   have c8b1 : (t489 != 0) = false := bne_eq_false_iff_eq.mpr c8
   clear c8
   (first | rw [c8b0] | (simp only [i64_w, i32_w]; rw [c8b0]) | skip)
   replace H := Option.bind_eq_some_iff.mp H
   obtain ⟨t490, A90, H⟩ := H
   replace H : (q4_Fits.j0 k a1 a2 a3 (!t490) l0_0 l0_1) = some r := H
   have A9 := Aside0.mk A90
   clear A90
   have H' := Aside0.mk H
   clear H
   obtain ⟨hcz10_0, hcz10_1, hfz10_0, hfz10_1⟩ := cz2 BK488
   go_wp2_with (first | ((with_reducible refine gate_callee (f := 45) rfl ?_); refine gl 12 Try.func45 #[.agg #[.slice A0_0 l0_0.length c0_0, .slice A0_1 l0_1.length c0_1], .int .i64 a2, .int .i64 a3] (h := ?_); (with_reducible refine (q4_given.calls k _ _ l0_0 _ _ l0_1 a2 a3 t489 _ ?side1 ?side2 ?side3 ?side4 A7.out).mono ?_); (case side1 => exact cb HR0_0 HB); (case side2 => exact HC0_0.out); (case side3 => exact cb HR0_1 HB); (case side4 => exact HC0_1.out); rintro e w11 ⟨rfl, hb⟩; refine ⟨_, rfl, ?_⟩; replace BK488 := bkb BK488 hb; replace HB := bstep HB hb; (try clear hb); (try clear hb2); (try clear hk); (try clear hi); obtain ⟨hcz12_0, hcz12_1, hfz12_0, hfz12_1⟩ := cz2 BK488) | (go_at_call 47; (with_reducible refine (q4_in.calls a1 0 (wrap64 ((l0_1.length : Int) - 1)) t490 _ A9.out).mono ?_); rintro e w' ⟨rfl, ⟨nd, rfl⟩⟩))
   go_meet
   case rel => exact ⟨_, (!t490), eqs, H', ⟨by first | omega | exact Nat.le_refl _⟩, ⟨bk BK488⟩, ⟨bb HB⟩⟩
  ·rw [if_neg c8] at H
   have c8b0 : (t489 == 0) = false := beq_eq_false_iff_ne.mpr c8
   have c8b1 : (t489 != 0) = true := bne_iff_ne.mpr c8
   (first | rw [c8b0] | (simp only [i64_w, i32_w]; rw [c8b0]) | skip)
   have H' := Aside0.mk H
   clear H
   obtain ⟨hcz13_0, hcz13_1, hfz13_0, hfz13_1⟩ := cz2 BK488
   go_wp2_with ((with_reducible refine gate_callee (f := 45) rfl ?_); refine gl 12 Try.func45 #[.agg #[.slice A0_0 l0_0.length c0_0, .slice A0_1 l0_1.length c0_1], .int .i64 a2, .int .i64 a3] (h := ?_); (with_reducible refine (q4_given.calls k _ _ l0_0 _ _ l0_1 a2 a3 t489 _ ?side1 ?side2 ?side3 ?side4 A7.out).mono ?_); (case side1 => exact cb HR0_0 HB); (case side2 => exact HC0_0.out); (case side3 => exact cb HR0_1 HB); (case side4 => exact HC0_1.out); rintro e w14 ⟨rfl, hb⟩; refine ⟨_, rfl, ?_⟩; replace BK488 := bkb BK488 hb; replace HB := bstep HB hb; (try clear hb); (try clear hb2); (try clear hk); (try clear hi))
   go_meet
   case rel => exact ⟨_, (true), eqs, H', ⟨by first | omega | exact Nat.le_refl _⟩, ⟨bk BK488⟩, ⟨bb HB⟩⟩
 case rest =>
  clear HC5
  obtain ⟨kq, x22_4, rfl, HA, HJ4, BK488, HB⟩ := hcut
  cases kq with
  | zero => exact absurd HA.out (by simp [q4_Fits.j0])
  | succ kj4 =>
   have H := HA.out
   clear HA
   simp only [q4_Fits.j0] at H
   by_cases c15 : x22_4 = true
   ·subst c15
    replace H := ift H
    obtain rfl := Option.some.inj H
    go_wp2
    go_ret
    exact ⟨erf, bb HB⟩
   ·replace c15 := Bool.eq_false_iff.mpr c15
    subst c15
    replace H := iff_ H
    by_cases c16 : 0 ≤ a1
    ·rw [if_pos c16] at H
     have c16b0 : decide (0 ≤ a1) = true := decide_eq_true c16
     clear c16
     by_cases c17 : a1 < (l0_1.length : Int)
     ·rw [if_pos c17] at H
      have c17b0 : decide (a1 < (l0_1.length : Int)) = true := decide_eq_true c17
      clear c17
      replace H := Option.bind_eq_some_iff.mp H
      obtain ⟨t492, A180, H⟩ := H
      replace H : (if t492 = true then ((q4_Below1.f kj4 l0_0 l0_1 a3 ((rd_T71 l0_1 a1).f2)).bind fun t494 => (some t494)) else (some false)) = some r := H
      have A18 := Aside0.mk A180
      clear A180
      by_cases c19 : t492 = true
      ·subst c19
       replace H := ift H
       replace H := Option.bind_eq_some_iff.mp H
       obtain ⟨t494, A200, H⟩ := H
       replace H : (some t494) = some r := H
       have A20 := Aside0.mk A200
       clear A200
       obtain rfl := Option.some.inj H
       try go_wp2
       replace BK488 := Aside0.mk (blk_drew BK488.out)
       replace HB := Aside0.mk (below_drew1 HB.out)
       have p491 : 0 ≤ a1 := odt
       have q491 : a1 < (l0_1.length : Int) := odt
       obtain ⟨ad491, e491, hx491_0, hx491_1, hx491_2, hx491_3, hx491_4, hx491_5, hx491_6⟩ := at_T71 HR0_1.out a1 p491 q491
       have hw491_6 := hx491_6
       have hw491_5 := hx491_5
       have hw491_4 := hx491_4
       have hw491_3 := hx491_3
       have hw491_2 := hx491_2
       have hw491_1 := hx491_1
       have hw491_0 := hx491_0
       cases e491
       replace hx491_0 := hxc HB hx491_0
       replace hx491_1 := hxc HB hx491_1
       replace hx491_2 := hxc HB hx491_2
       replace hx491_3 := hxc HB hx491_3
       replace hx491_4 := hxc HB hx491_4
       replace hx491_5 := hxc HB hx491_5
       replace hx491_6 := hxc HB hx491_6
       replace p491 := eq_true p491
       replace q491 := eq_true q491
       have p493 : 0 ≤ a1 := odt
       have q493 : a1 < (l0_1.length : Int) := odt
       obtain ⟨ad493, e493, hx493_0, hx493_1, hx493_2, hx493_3, hx493_4, hx493_5, hx493_6⟩ := at_T71 HR0_1.out a1 p493 q493
       have hw493_6 := hx493_6
       have hw493_5 := hx493_5
       have hw493_4 := hx493_4
       have hw493_3 := hx493_3
       have hw493_2 := hx493_2
       have hw493_1 := hx493_1
       have hw493_0 := hx493_0
       obtain rfl : ad491 = ad493 := (by injection e493)
       replace hx493_0 := hxc HB hx493_0
       replace hx493_1 := hxc HB hx493_1
       replace hx493_2 := hxc HB hx493_2
       replace hx493_3 := hxc HB hx493_3
       replace hx493_4 := hxc HB hx493_4
       replace hx493_5 := hxc HB hx493_5
       replace hx493_6 := hxc HB hx493_6
       replace p493 := eq_true p493
       replace q493 := eq_true q493
       refine start_ (n := 21) (S := fun w' => w'.cell? ⟨gb488, 0, none⟩ = some (.slice A0_0 l0_0.length c0_0) ∧ w'.cell? ⟨gb488, 1, none⟩ = some (.slice (some ad491) l0_1.length c0_1) ∧ w'.cell? (ad491.add ((a1).toNat * 7)) = some (.string ((rd_T71 l0_1 a1).f0)) ∧ w'.cell? ⟨(ad491.add ((a1).toNat * 7)).block, (ad491.add ((a1).toNat * 7)).off + 1, none⟩ = some (.int .i64 ((rd_T71 l0_1 a1).f1)) ∧ w'.cell? ⟨(ad491.add ((a1).toNat * 7)).block, (ad491.add ((a1).toNat * 7)).off + 2, none⟩ = some (.int .i64 ((rd_T71 l0_1 a1).f2)) ∧ w'.cell? ⟨(ad491.add ((a1).toNat * 7)).block, (ad491.add ((a1).toNat * 7)).off + 3, none⟩ = some (.int .i64 ((rd_T71 l0_1 a1).f3)) ∧ w'.cell? ⟨(ad491.add ((a1).toNat * 7)).block, (ad491.add ((a1).toNat * 7)).off + 4, none⟩ = some (.int .i64 ((rd_T71 l0_1 a1).f4)) ∧ w'.cell? ⟨(ad491.add ((a1).toNat * 7)).block, (ad491.add ((a1).toNat * 7)).off + 5, none⟩ = some (.int .i64 ((rd_T71 l0_1 a1).f5)) ∧ w'.cell? ⟨(ad491.add ((a1).toNat * 7)).block, (ad491.add ((a1).toNat * 7)).off + 6, none⟩ = some (.int .i64 ((rd_T71 l0_1 a1).f6)) ∧ w'.cell? (ad491.add ((a1).toNat * 7)) = some (.string ((rd_T71 l0_1 a1).f0)) ∧ w'.cell? ⟨(ad491.add ((a1).toNat * 7)).block, (ad491.add ((a1).toNat * 7)).off + 1, none⟩ = some (.int .i64 ((rd_T71 l0_1 a1).f1)) ∧ w'.cell? ⟨(ad491.add ((a1).toNat * 7)).block, (ad491.add ((a1).toNat * 7)).off + 2, none⟩ = some (.int .i64 ((rd_T71 l0_1 a1).f2)) ∧ w'.cell? ⟨(ad491.add ((a1).toNat * 7)).block, (ad491.add ((a1).toNat * 7)).off + 3, none⟩ = some (.int .i64 ((rd_T71 l0_1 a1).f3)) ∧ w'.cell? ⟨(ad491.add ((a1).toNat * 7)).block, (ad491.add ((a1).toNat * 7)).off + 4, none⟩ = some (.int .i64 ((rd_T71 l0_1 a1).f4)) ∧ w'.cell? ⟨(ad491.add ((a1).toNat * 7)).block, (ad491.add ((a1).toNat * 7)).off + 5, none⟩ = some (.int .i64 ((rd_T71 l0_1 a1).f5)) ∧ w'.cell? ⟨(ad491.add ((a1).toNat * 7)).block, (ad491.add ((a1).toNat * 7)).off + 6, none⟩ = some (.int .i64 ((rd_T71 l0_1 a1).f6))) (ds := []) #[false, false, false, false, false, false, false, false, false, false, false, false, false, false, false, false, false, false, false, false, false] (by kernel_rfl) rfl rfl ⟨(blk_cell BK488.out 0).trans rfl, (blk_cell BK488.out 1).trans rfl, (hxc HB hw491_0), (hxc HB hw491_1), (hxc HB hw491_2), (hxc HB hw491_3), (hxc HB hw491_4), (hxc HB hw491_5), (hxc HB hw491_6), (hxc HB hw493_0), (hxc HB hw493_1), (hxc HB hw493_2), (hxc HB hw493_3), (hxc HB hw493_4), (hxc HB hw493_5), (hxc HB hw493_6)⟩ (fun hHeld => ?_); refine with_tabW q4_Fits.tab3 q4_Fits.bits3 (fun HT_ HW_ => ?_)
       generalize wc.drew = w21 at BK488 HB hx491_0 hx491_1 hx491_2 hx491_3 hx491_4 hx491_5 hx491_6 hx493_0 hx493_1 hx493_2 hx493_3 hx493_4 hx493_5 hx493_6 hHeld ⊢
       refine pu 1 24 #[false, true, false, false, false, false, false, false, false, false, false, false, false, false, false, false, false, false, false, false, false] HT_ (h := ?_)
       refine pu 2 25 #[false, true, true, false, false, false, false, false, false, false, false, false, false, false, false, false, false, false, false, false, false] HT_ (h := ?_)
       refine pu 4 27 #[false, true, true, false, true, false, false, false, false, false, false, false, false, false, false, false, false, false, false, false, false] HT_ (h := ?_)
       refine tk 0 23 #[true, true, true, false, true, false, false, false, false, false, false, false, false, false, false, false, false, false, false, false, false] HT_ HW_ hHeld (hy := by rintro w' ⟨s0, s1, s2, s3, s4, s5, s6, s7, s8, s9, s10, s11, s12, s13, s14, s15⟩; go_simp; with_reducible rfl) (h := ?_)
       refine tk 3 26 #[true, true, true, true, true, false, false, false, false, false, false, false, false, false, false, false, false, false, false, false, false] HT_ HW_ hHeld (hy := by rintro w' ⟨s0, s1, s2, s3, s4, s5, s6, s7, s8, s9, s10, s11, s12, s13, s14, s15⟩; go_simp; with_reducible rfl) (h := ?_)
       refine pu 5 28 #[true, true, true, true, true, true, false, false, false, false, false, false, false, false, false, false, false, false, false, false, false] HT_ (h := ?_)
       refine pu 6 29 #[true, true, true, true, true, true, true, false, false, false, false, false, false, false, false, false, false, false, false, false, false] HT_ (h := ?_)
       refine tk 7 30 #[true, true, true, true, true, true, true, true, false, false, false, false, false, false, false, false, false, false, false, false, false] HT_ HW_ hHeld (hy := by rintro w' ⟨s0, s1, s2, s3, s4, s5, s6, s7, s8, s9, s10, s11, s12, s13, s14, s15⟩; go_simp; with_reducible rfl) (h := ?_)
       refine one_ (i := 8) (N := some 31) #[true, true, true, true, true, true, true, true, true, false, false, false, false, false, false, false, false, false, false, false, false] rfl rfl (one_of HT_.out (by kernel_rfl)) (by decide) (fun K hK => ?_)
       refine goes_ Try.func46 (by kernel_rfl) rfl #[.agg #[.slice A0_0 l0_0.length c0_0, .slice (some ad491) l0_1.length c0_1], .int .i64 a2, .int .i64 ((rd_T71 l0_1 a1).f1)] (by rfl) rfl rfl (by (try simp only [List.map_toArray, List.map_cons, List.map_nil]); first | done | rfl | (simp only [List.length_drop, List.length_take]; rfl)) ?_
       with_reducible refine (q4_Below1.calls kj4 _ _ l0_0 _ _ l0_1 a2 ((rd_T71 l0_1 a1).f1) true _ ?side1 ?side2 ?side3 ?side4 A18.out).mono ?_
       (case side1 => exact cb HR0_0 HB)
       (case side2 => exact HC0_0.out)
       (case side3 => exact cb HR0_1 HB)
       (case side4 => exact HC0_1.out)
       rintro e w22 ⟨rfl, hb⟩
       refine ⟨_, rfl, ?_⟩
       replace BK488 := bkb BK488 hb
       replace HB := bstep HB hb
       clear hb
       refine hK.out _ _ ⟨(blk_cell BK488.out 0).trans rfl, (blk_cell BK488.out 1).trans rfl, (hxc HB hw491_0), (hxc HB hw491_1), (hxc HB hw491_2), (hxc HB hw491_3), (hxc HB hw491_4), (hxc HB hw491_5), (hxc HB hw491_6), (hxc HB hw493_0), (hxc HB hw493_1), (hxc HB hw493_2), (hxc HB hw493_3), (hxc HB hw493_4), (hxc HB hw493_5), (hxc HB hw493_6)⟩ (fun hHeld => ?_)
       clear hK K
       refine norm_ (a' := ?_) ?_ ?_
       rotate_left
       ·show Act.put _ (some 31) _ = _
        simp only [Act.put, List.setIfInBounds_toArray, List.set_cons_zero, List.set_cons_succ, i64_w, i32_w]
        rfl
       refine pu 9 32 #[true, true, true, true, true, true, true, true, true, true, false, false, false, false, false, false, false, false, false, false, false] HT_ (h := ?_)
       refine pu 11 34 #[true, true, true, true, true, true, true, true, true, true, false, true, false, false, false, false, false, false, false, false, false] HT_ (h := ?_)
       refine pu 12 35 #[true, true, true, true, true, true, true, true, true, true, false, true, true, false, false, false, false, false, false, false, false] HT_ (h := ?_)
       refine pu 14 37 #[true, true, true, true, true, true, true, true, true, true, false, true, true, false, true, false, false, false, false, false, false] HT_ (h := ?_)
       refine tk 10 33 #[true, true, true, true, true, true, true, true, true, true, true, true, true, false, true, false, false, false, false, false, false] HT_ HW_ hHeld (hy := by rintro w' ⟨s0, s1, s2, s3, s4, s5, s6, s7, s8, s9, s10, s11, s12, s13, s14, s15⟩; go_simp; with_reducible rfl) (h := ?_)
       refine tk 13 36 #[true, true, true, true, true, true, true, true, true, true, true, true, true, true, true, false, false, false, false, false, false] HT_ HW_ hHeld (hy := by rintro w' ⟨s0, s1, s2, s3, s4, s5, s6, s7, s8, s9, s10, s11, s12, s13, s14, s15⟩; go_simp; with_reducible rfl) (h := ?_)
       refine pu 15 38 #[true, true, true, true, true, true, true, true, true, true, true, true, true, true, true, true, false, false, false, false, false] HT_ (h := ?_)
       refine pu 16 39 #[true, true, true, true, true, true, true, true, true, true, true, true, true, true, true, true, true, false, false, false, false] HT_ (h := ?_)
       refine tk 17 40 #[true, true, true, true, true, true, true, true, true, true, true, true, true, true, true, true, true, true, false, false, false] HT_ HW_ hHeld (hy := by rintro w' ⟨s0, s1, s2, s3, s4, s5, s6, s7, s8, s9, s10, s11, s12, s13, s14, s15⟩; go_simp; with_reducible rfl) (h := ?_)
       refine one_ (i := 18) (N := some 41) #[true, true, true, true, true, true, true, true, true, true, true, true, true, true, true, true, true, true, true, false, false] rfl rfl (one_of HT_.out (by kernel_rfl)) (by decide) (fun K hK => ?_)
       refine goes_ Try.func46 (by kernel_rfl) rfl #[.agg #[.slice A0_0 l0_0.length c0_0, .slice (some ad491) l0_1.length c0_1], .int .i64 a3, .int .i64 ((rd_T71 l0_1 a1).f2)] (by rfl) rfl rfl (by (try simp only [List.map_toArray, List.map_cons, List.map_nil]); first | done | rfl | (simp only [List.length_drop, List.length_take]; rfl)) ?_
       with_reducible refine (q4_Below1.calls kj4 _ _ l0_0 _ _ l0_1 a3 ((rd_T71 l0_1 a1).f2) t494 _ ?side1 ?side2 ?side3 ?side4 A20.out).mono ?_
       (case side1 => exact cb HR0_0 HB)
       (case side2 => exact HC0_0.out)
       (case side3 => exact cb HR0_1 HB)
       (case side4 => exact HC0_1.out)
       rintro e w23 ⟨rfl, hb⟩
       refine ⟨_, rfl, ?_⟩
       replace BK488 := bkb BK488 hb
       replace HB := bstep HB hb
       clear hb
       refine hK.out _ _ ⟨(blk_cell BK488.out 0).trans rfl, (blk_cell BK488.out 1).trans rfl, (hxc HB hw491_0), (hxc HB hw491_1), (hxc HB hw491_2), (hxc HB hw491_3), (hxc HB hw491_4), (hxc HB hw491_5), (hxc HB hw491_6), (hxc HB hw493_0), (hxc HB hw493_1), (hxc HB hw493_2), (hxc HB hw493_3), (hxc HB hw493_4), (hxc HB hw493_5), (hxc HB hw493_6)⟩ (fun hHeld => ?_)
       clear hK K
       refine norm_ (a' := ?_) ?_ ?_
       rotate_left
       ·show Act.put _ (some 41) _ = _
        simp only [Act.put, List.setIfInBounds_toArray, List.set_cons_zero, List.set_cons_succ, i64_w, i32_w]
        rfl
       refine pu 19 42 #[true, true, true, true, true, true, true, true, true, true, true, true, true, true, true, true, true, true, true, true, false] HT_ (h := ?_)
       refine pu 20 8 #[true, true, true, true, true, true, true, true, true, true, true, true, true, true, true, true, true, true, true, true, true] HT_ (h := ?_)
       refine done_ (done_of HT_.out (by kernel_rfl)) ?_
       try go_wp2
       go_ret
       exact ⟨erf, bb HB⟩
      ·replace c19 := Bool.eq_false_iff.mpr c19
       subst c19
       replace H := iff_ H
       obtain rfl := Option.some.inj H
       try go_wp2
       replace BK488 := Aside0.mk (blk_drew BK488.out)
       replace HB := Aside0.mk (below_drew1 HB.out)
       have p491 : 0 ≤ a1 := odt
       have q491 : a1 < (l0_1.length : Int) := odt
       obtain ⟨ad491, e491, hx491_0, hx491_1, hx491_2, hx491_3, hx491_4, hx491_5, hx491_6⟩ := at_T71 HR0_1.out a1 p491 q491
       have hw491_6 := hx491_6
       have hw491_5 := hx491_5
       have hw491_4 := hx491_4
       have hw491_3 := hx491_3
       have hw491_2 := hx491_2
       have hw491_1 := hx491_1
       have hw491_0 := hx491_0
       cases e491
       replace hx491_0 := hxc HB hx491_0
       replace hx491_1 := hxc HB hx491_1
       replace hx491_2 := hxc HB hx491_2
       replace hx491_3 := hxc HB hx491_3
       replace hx491_4 := hxc HB hx491_4
       replace hx491_5 := hxc HB hx491_5
       replace hx491_6 := hxc HB hx491_6
       replace p491 := eq_true p491
       replace q491 := eq_true q491
       refine start_ (n := 21) (S := fun w' => w'.cell? ⟨gb488, 0, none⟩ = some (.slice A0_0 l0_0.length c0_0) ∧ w'.cell? ⟨gb488, 1, none⟩ = some (.slice (some ad491) l0_1.length c0_1) ∧ w'.cell? (ad491.add ((a1).toNat * 7)) = some (.string ((rd_T71 l0_1 a1).f0)) ∧ w'.cell? ⟨(ad491.add ((a1).toNat * 7)).block, (ad491.add ((a1).toNat * 7)).off + 1, none⟩ = some (.int .i64 ((rd_T71 l0_1 a1).f1)) ∧ w'.cell? ⟨(ad491.add ((a1).toNat * 7)).block, (ad491.add ((a1).toNat * 7)).off + 2, none⟩ = some (.int .i64 ((rd_T71 l0_1 a1).f2)) ∧ w'.cell? ⟨(ad491.add ((a1).toNat * 7)).block, (ad491.add ((a1).toNat * 7)).off + 3, none⟩ = some (.int .i64 ((rd_T71 l0_1 a1).f3)) ∧ w'.cell? ⟨(ad491.add ((a1).toNat * 7)).block, (ad491.add ((a1).toNat * 7)).off + 4, none⟩ = some (.int .i64 ((rd_T71 l0_1 a1).f4)) ∧ w'.cell? ⟨(ad491.add ((a1).toNat * 7)).block, (ad491.add ((a1).toNat * 7)).off + 5, none⟩ = some (.int .i64 ((rd_T71 l0_1 a1).f5)) ∧ w'.cell? ⟨(ad491.add ((a1).toNat * 7)).block, (ad491.add ((a1).toNat * 7)).off + 6, none⟩ = some (.int .i64 ((rd_T71 l0_1 a1).f6))) (ds := []) #[false, false, false, false, false, false, false, false, false, false, false, false, false, false, false, false, false, false, false, false, false] (by kernel_rfl) rfl rfl ⟨(blk_cell BK488.out 0).trans rfl, (blk_cell BK488.out 1).trans rfl, (hxc HB hw491_0), (hxc HB hw491_1), (hxc HB hw491_2), (hxc HB hw491_3), (hxc HB hw491_4), (hxc HB hw491_5), (hxc HB hw491_6)⟩ (fun hHeld => ?_); refine with_tabW q4_Fits.tab3 q4_Fits.bits3 (fun HT_ HW_ => ?_)
       generalize wc.drew = w24 at BK488 HB hx491_0 hx491_1 hx491_2 hx491_3 hx491_4 hx491_5 hx491_6 hHeld ⊢
       refine pu 1 24 #[false, true, false, false, false, false, false, false, false, false, false, false, false, false, false, false, false, false, false, false, false] HT_ (h := ?_)
       refine pu 2 25 #[false, true, true, false, false, false, false, false, false, false, false, false, false, false, false, false, false, false, false, false, false] HT_ (h := ?_)
       refine pu 4 27 #[false, true, true, false, true, false, false, false, false, false, false, false, false, false, false, false, false, false, false, false, false] HT_ (h := ?_)
       refine tk 0 23 #[true, true, true, false, true, false, false, false, false, false, false, false, false, false, false, false, false, false, false, false, false] HT_ HW_ hHeld (hy := by rintro w' ⟨s0, s1, s2, s3, s4, s5, s6, s7, s8⟩; go_simp; with_reducible rfl) (h := ?_)
       refine tk 3 26 #[true, true, true, true, true, false, false, false, false, false, false, false, false, false, false, false, false, false, false, false, false] HT_ HW_ hHeld (hy := by rintro w' ⟨s0, s1, s2, s3, s4, s5, s6, s7, s8⟩; go_simp; with_reducible rfl) (h := ?_)
       refine pu 5 28 #[true, true, true, true, true, true, false, false, false, false, false, false, false, false, false, false, false, false, false, false, false] HT_ (h := ?_)
       refine pu 6 29 #[true, true, true, true, true, true, true, false, false, false, false, false, false, false, false, false, false, false, false, false, false] HT_ (h := ?_)
       refine tk 7 30 #[true, true, true, true, true, true, true, true, false, false, false, false, false, false, false, false, false, false, false, false, false] HT_ HW_ hHeld (hy := by rintro w' ⟨s0, s1, s2, s3, s4, s5, s6, s7, s8⟩; go_simp; with_reducible rfl) (h := ?_)
       refine one_ (i := 8) (N := some 31) #[true, true, true, true, true, true, true, true, true, false, false, false, false, false, false, false, false, false, false, false, false] rfl rfl (one_of HT_.out (by kernel_rfl)) (by decide) (fun K hK => ?_)
       refine goes_ Try.func46 (by kernel_rfl) rfl #[.agg #[.slice A0_0 l0_0.length c0_0, .slice (some ad491) l0_1.length c0_1], .int .i64 a2, .int .i64 ((rd_T71 l0_1 a1).f1)] (by rfl) rfl rfl (by (try simp only [List.map_toArray, List.map_cons, List.map_nil]); first | done | rfl | (simp only [List.length_drop, List.length_take]; rfl)) ?_
       with_reducible refine (q4_Below1.calls kj4 _ _ l0_0 _ _ l0_1 a2 ((rd_T71 l0_1 a1).f1) false _ ?side1 ?side2 ?side3 ?side4 A18.out).mono ?_
       (case side1 => exact cb HR0_0 HB)
       (case side2 => exact HC0_0.out)
       (case side3 => exact cb HR0_1 HB)
       (case side4 => exact HC0_1.out)
       rintro e w25 ⟨rfl, hb⟩
       refine ⟨_, rfl, ?_⟩
       replace BK488 := bkb BK488 hb
       replace HB := bstep HB hb
       clear hb
       refine hK.out _ _ ⟨(blk_cell BK488.out 0).trans rfl, (blk_cell BK488.out 1).trans rfl, (hxc HB hw491_0), (hxc HB hw491_1), (hxc HB hw491_2), (hxc HB hw491_3), (hxc HB hw491_4), (hxc HB hw491_5), (hxc HB hw491_6)⟩ (fun hHeld => ?_)
       clear hK K
       refine norm_ (a' := ?_) ?_ ?_
       rotate_left
       ·show Act.put _ (some 31) _ = _
        simp only [Act.put, List.setIfInBounds_toArray, List.set_cons_zero, List.set_cons_succ, i64_w, i32_w]
        rfl
       refine pu 9 32 #[true, true, true, true, true, true, true, true, true, true, false, false, false, false, false, false, false, false, false, false, false] HT_ (h := ?_)
       refine pure_ (i := 10) (N := some 33) (v := undef) (a' := ?_) #[true, true, true, true, true, true, true, true, true, true, true, false, false, false, false, false, false, false, false, false, false] rfl rfl (any_of HT_.out (by kernel_rfl)) (fun _ _ _ h => h) (Or.inr ⟨by rfl, rfl⟩) ?_ ?_
       rotate_left
       ·simp only [Act.put, List.setIfInBounds_toArray, List.set_cons_zero, List.set_cons_succ, i64_w, i32_w]
        rfl
       refine pure_ (i := 11) (N := some 34) (v := undef) (a' := ?_) #[true, true, true, true, true, true, true, true, true, true, true, true, false, false, false, false, false, false, false, false, false] rfl rfl (any_of HT_.out (by kernel_rfl)) (fun _ _ _ h => h) (Or.inr ⟨by rfl, rfl⟩) ?_ ?_
       rotate_left
       ·simp only [Act.put, List.setIfInBounds_toArray, List.set_cons_zero, List.set_cons_succ, i64_w, i32_w]
        rfl
       refine pure_ (i := 12) (N := some 35) (v := undef) (a' := ?_) #[true, true, true, true, true, true, true, true, true, true, true, true, true, false, false, false, false, false, false, false, false] rfl rfl (any_of HT_.out (by kernel_rfl)) (fun _ _ _ h => h) (Or.inr ⟨by rfl, rfl⟩) ?_ ?_
       rotate_left
       ·simp only [Act.put, List.setIfInBounds_toArray, List.set_cons_zero, List.set_cons_succ, i64_w, i32_w]
        rfl
       refine pure_ (i := 13) (N := some 36) (v := undef) (a' := ?_) #[true, true, true, true, true, true, true, true, true, true, true, true, true, true, false, false, false, false, false, false, false] rfl rfl (any_of HT_.out (by kernel_rfl)) (fun _ _ _ h => h) (Or.inr ⟨by rfl, rfl⟩) ?_ ?_
       rotate_left
       ·simp only [Act.put, List.setIfInBounds_toArray, List.set_cons_zero, List.set_cons_succ, i64_w, i32_w]
        rfl
       refine pure_ (i := 14) (N := some 37) (v := undef) (a' := ?_) #[true, true, true, true, true, true, true, true, true, true, true, true, true, true, true, false, false, false, false, false, false] rfl rfl (any_of HT_.out (by kernel_rfl)) (fun _ _ _ h => h) (Or.inr ⟨by rfl, rfl⟩) ?_ ?_
       rotate_left
       ·simp only [Act.put, List.setIfInBounds_toArray, List.set_cons_zero, List.set_cons_succ, i64_w, i32_w]
        rfl
       refine pure_ (i := 15) (N := some 38) (v := undef) (a' := ?_) #[true, true, true, true, true, true, true, true, true, true, true, true, true, true, true, true, false, false, false, false, false] rfl rfl (any_of HT_.out (by kernel_rfl)) (fun _ _ _ h => h) (Or.inr ⟨by rfl, rfl⟩) ?_ ?_
       rotate_left
       ·simp only [Act.put, List.setIfInBounds_toArray, List.set_cons_zero, List.set_cons_succ, i64_w, i32_w]
        rfl
       refine pure_ (i := 16) (N := some 39) (v := undef) (a' := ?_) #[true, true, true, true, true, true, true, true, true, true, true, true, true, true, true, true, true, false, false, false, false] rfl rfl (any_of HT_.out (by kernel_rfl)) (fun _ _ _ h => h) (Or.inr ⟨by rfl, rfl⟩) ?_ ?_
       rotate_left
       ·simp only [Act.put, List.setIfInBounds_toArray, List.set_cons_zero, List.set_cons_succ, i64_w, i32_w]
        rfl
       refine pure_ (i := 17) (N := some 40) (v := undef) (a' := ?_) #[true, true, true, true, true, true, true, true, true, true, true, true, true, true, true, true, true, true, false, false, false] rfl rfl (any_of HT_.out (by kernel_rfl)) (fun _ _ _ h => h) (Or.inr ⟨by rfl, rfl⟩) ?_ ?_
       rotate_left
       ·simp only [Act.put, List.setIfInBounds_toArray, List.set_cons_zero, List.set_cons_succ, i64_w, i32_w]
        rfl
       refine pure_ (i := 18) (N := some 41) (v := undef) (a' := ?_) #[true, true, true, true, true, true, true, true, true, true, true, true, true, true, true, true, true, true, true, false, false] rfl rfl (any_of HT_.out (by kernel_rfl)) (fun _ _ _ h => h) (Or.inr ⟨by rfl, rfl⟩) ?_ ?_
       rotate_left
       ·simp only [Act.put, List.setIfInBounds_toArray, List.set_cons_zero, List.set_cons_succ, i64_w, i32_w]
        rfl
       refine pu 19 42 #[true, true, true, true, true, true, true, true, true, true, true, true, true, true, true, true, true, true, true, true, false] HT_ (h := ?_)
       refine pu 20 8 #[true, true, true, true, true, true, true, true, true, true, true, true, true, true, true, true, true, true, true, true, true] HT_ (h := ?_)
       refine done_ (done_of HT_.out (by kernel_rfl)) ?_
       try go_wp2
       go_ret
       exact ⟨erf, bb HB⟩
     ·rw [if_neg c17] at H
      exact absurd H (by simp)
    ·rw [if_neg c16] at H
     exact absurd H (by simp)
end Go.Proofs.Ytfpianecohobjaa.P
