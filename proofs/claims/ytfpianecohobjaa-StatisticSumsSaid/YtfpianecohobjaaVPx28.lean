/- StatisticOf: a part of its proof. No condition. -/
import Derived.Test.YtfpianecohobjaaVPx0
import Derived.Test.YtfpianecohobjaaVPx12
import Derived.Test.YtfpianecohobjaaVPx20
import Derived.Test.YtfpianecohobjaaVPx21
namespace Go.Proofs.Ytfpianecohobjaa.P
open Go.RowKit Go.Proofs.YtfpianecohobjaaW.PrintWords Go.Proofs.YtfpianecohobjaaW.PrintLast Go.Proofs.YtfpianecohobjaaW.PrintMore
set_option maxHeartbeats 8000000
set_option maxRecDepth 100000
set_option linter.unusedVariables false
set_option linter.unusedSimpArgs false
def q4_Fits.j0 : Nat → Int → Int → Int → Bool → List (S68) → List (S71) → Option (Bool)
 | 0, _, _, _, _, _, _ => none
 | k + 1, x1, x2, x3, n1, g3, b0 => if n1 = true then (some false) else (if 0 ≤ x1 then (if x1 < (b0.length : Int) then ((q4_Below1.f k g3 b0 x2 ((rd_T71 b0 x1).f1)).bind fun h2 => (if h2 = true then ((q4_Below1.f k g3 b0 x3 ((rd_T71 b0 x1).f2)).bind fun h1 => (some h1)) else (some false))) else (none)) else (none))
def q4_Fits.f (k : Nat) (a6 : List (S68)) (a4 : List (S71)) (a1 : Int) (a2 : Int) (a3 : Int) : Option (Bool) := (q4_given.f k a6 a4 a2 a3).bind fun g0 => (if g0 = 0 then ((q4_in.f a1 0 (wrap64 ((a4.length : Int) - 1))).bind fun g4 => (q4_Fits.j0 k a1 a2 a3 (!g4) a6 a4)) else (q4_Fits.j0 k a1 a2 a3 true a6 a4))
def q4_Fits.T3 : Bool × List (List Nat × List Nat) := (true, [([], []), ([], []), ([], []), ([2], [2]), ([], []), ([3, 4], [3, 4]), ([5], [5]), ([6], [6]), ([0, 1, 7], [0, 1, 7]), ([8, 8], [8]), ([9], [9]), ([9], [9]), ([9], [9]), ([12, 9], [9, 12]), ([9], [9]), ([13, 14, 9], [9, 13, 14]), ([15, 9], [9, 15]), ([16, 9], [9, 16]), ([10, 11, 17, 9, 9], [9, 10, 11, 17]), ([9, 18], [9, 18]), ([19, 18, 0, 1, 2, 3, 4, 5, 6, 7, 8, 9, 10, 11, 12, 13, 14, 15, 16, 17, 18, 19], [19])])
def q4_Fits.B3 : List Nat := [0, 0, 0, 4, 0, 28, 60, 124, 255, 511, 1023, 1023, 1023, 5119, 1023, 29695, 62463, 127999, 262143, 524287, 1048575]
theorem q4_Fits.tab3 : rtab .any (opsOf Try.f24 3) = q4_Fits.T3 := by kernel_rfl
theorem q4_Fits.bits3 : waitsOk q4_Fits.T3.2 q4_Fits.B3 = true := by kernel_rfl
theorem q4_Fits.calls (k : Nat) (a9 : Option Addr) (a8 : Nat) (a6 : List (S68)) (g2 : Option Addr) (a7 : Nat) (a4 : List (S71)) (a1 : Int) (a2 : Int) (a3 : Int) (r : Bool) (w : World) (h8 : Kd.C k68 w a9 a6.length a6) (j1 : a6.length ≤ a8) (h7 : Kd.C k71 w g2 a4.length a4) (h9 : a4.length ≤ a7) (h : q4_Fits.f k a6 a4 a1 a2 a3 = some r) :
  Calls Try.prog 24 #[.agg #[.slice a9 a6.length a8, .slice g2 a4.length a7], .int .i64 a1, .int .i64 a2, .int .i64 a3] w fun e w' => e = .returned (.bool r) ∧ Below w.heap.size w w' := by
 have hu25 := Try.underlying25
 have e7 := Aside0.mk h8
 have e9 := Aside0.mk j1
 clear h8 j1
 have d3 := Aside0.mk h7
 have e8 := Aside0.mk h9
 clear h7 h9
 have HB := Aside0.mk (Below.refl w.heap.size w)
 have H : ((q4_given.f k a6 a4 a2 a3).bind fun g0 => (if g0 = 0 then ((q4_in.f a1 0 (wrap64 ((a4.length : Int) - 1))).bind fun g4 => (q4_Fits.j0 k a1 a2 a3 (!g4) a6 a4)) else (q4_Fits.j0 k a1 a2 a3 true a6 a4))) = some r := h
 clear h
 have j5 := Aside0.mk H
 clear H
 go_enter Try.func24, Try.ntmps24
 go_upto_region 1 with (first | ((with_reducible refine gate_dst (N := 4) rfl ?_); (try (refine gate_guard (by rfl) ?_; dsimp only)); refine be 4 #[.slice a9 a6.length a8, .slice g2 a4.length a7] 25 ?_; intro d8 hg w6 hbox hb; have a5 := Aside0.mk (hbox); have n6 := bsz HB hg; replace HB := bstep HB hb; clear hb hbox hg))
 (try simp only [Act.put, List.setIfInBounds_toArray, List.set_cons_zero, List.set_cons_succ])
 go_cut [22] (fun n2 wc => ∃ (kq : Nat) (e6 : Bool), n2 = .bool e6 ∧ Aside0 (q4_Fits.j0 kq a1 a2 a3 e6 a6 a4 = some r) ∧ Aside0 (kq ≤ k) ∧ Aside0 (wc.heap[d8]? = some (.cells #[(.slice a9 a6.length a8), (.slice g2 a4.length a7)] 25 (0, 0))) ∧ Aside0 (Below w.heap.size w wc))
 case first =>
  have H := j5.out
  clear j5
  obtain ⟨g0, A7, H⟩ := obA H
  by_cases c8 : g0 = 0
  rw [if_pos c8] at H
  have g1 := beq_iff_eq.mpr c8
  have m2 := bne_eq_false_iff_eq.mpr c8
  clear c8
  (first | rw [g1] | (simp only [i64_w, i32_w]; rw [g1]) | skip)
  obtain ⟨g4, A9, H⟩ := obA H
  have H' := Aside0.mk H
  clear H
  rotate_left
  rw [if_neg c8] at H
  have g1 := beq_eq_false_iff_ne.mpr c8
  have m2 := bne_iff_ne.mpr c8
  (first | rw [g1] | (simp only [i64_w, i32_w]; rw [g1]) | skip)
  have H' := Aside0.mk H
  clear H
  all_goals
   obtain ⟨n0, m9, m6, m5⟩ := cz2 a5
   go_wp2_with (first | ((with_reducible refine gate_callee (f := 45) rfl ?_); refine gl 12 Try.func45 #[.agg #[.slice a9 a6.length a8, .slice g2 a4.length a7], .int .i64 a2, .int .i64 a3] (h := ?_); (with_reducible refine (q4_given.calls _ _ _ _ _ _ _ _ _ _ _ (cb e7 HB) e9.out (cb d3 HB) e8.out A7.out).mono ?_); rintro e o2 ⟨rfl, hb⟩; refine ⟨_, rfl, ?_⟩; replace a5 := bkb a5 hb; replace HB := bstep HB hb; clear hb; obtain ⟨m8, m7, m4, m3⟩ := cz2 a5) | (go_at_call 47; (with_reducible refine (q4_in.calls _ _ _ _ _ A9.out).mono ?_); rintro e w' ⟨rfl, ⟨nd, rfl⟩⟩))
   go_meet
   case rel => exact ⟨_, _, eqs, H', ⟨by first | omega | exact Nat.le_refl _⟩, ⟨bk a5⟩, ⟨bb HB⟩⟩
 case rest =>
  clear j5
  obtain ⟨kq, e6, rfl, HA, o3, a5, HB⟩ := hcut
  cases kq with
  | zero => exact absurd HA.out (by simp [q4_Fits.j0])
  | succ j4 =>
   have H := HA.out
   clear HA
   simp only [q4_Fits.j0] at H
   by_cases j3 : e6 = true
   ·subst j3
    replace H := ift H
    obtain rfl := Option.some.inj H
    go_wp2
    go_ret
    exact ⟨erf, bb HB⟩
   replace j3 := Bool.eq_false_iff.mpr j3
   subst j3
   replace H := iff_ H
   obtain ⟨j8, H⟩ := itn H
   have n5 := decide_eq_true j8
   clear j8
   obtain ⟨j7, H⟩ := itn H
   have n4 := decide_eq_true j7
   clear j7
   obtain ⟨h2, j9, H⟩ := obA H
   by_cases j2 : h2 = true
   subst j2
   replace H := ift H
   obtain ⟨h1, n3, H⟩ := obA H
   obtain rfl := Option.some.inj H
   rotate_left
   replace j2 := Bool.eq_false_iff.mpr j2
   subst j2
   replace H := iff_ H
   obtain rfl := Option.some.inj H
   all_goals
    try go_wp2
    replace a5 := Aside0.mk (blk_drew a5.out)
    replace HB := Aside0.mk (below_drew1 HB.out)
    have h6 : 0 ≤ a1 := odt
    have h4 : a1 < (a4.length : Int) := odt
    obtain ⟨a0, m1, b7, b6, b5, b4, b3, b2, b1⟩ := at_T71 d3.out a1 h6 h4
    have b8 := b1
    have b9 := b2
    have c0 := b3
    have c1 := b4
    have c2 := b5
    have c3 := b6
    have c4 := b7
    cases m1
    replace b7 := hxc HB b7
    replace b6 := hxc HB b6
    replace b5 := hxc HB b5
    replace b4 := hxc HB b4
    replace b3 := hxc HB b3
    replace b2 := hxc HB b2
    replace b1 := hxc HB b1
    replace h6 := eq_true h6
    replace h4 := eq_true h4
   ·refine start_ (n := 21) (S := fun w' => w'.cell? ⟨d8, 0, none⟩ = some (.slice a9 a6.length a8) ∧ w'.cell? ⟨d8, 1, none⟩ = some (.slice (some a0) a4.length a7) ∧ w'.cell? (a0.add ((a1).toNat * 7)) = some (.string ((rd_T71 a4 a1).f0)) ∧ w'.cell? ⟨(a0.add ((a1).toNat * 7)).block, (a0.add ((a1).toNat * 7)).off + 1, none⟩ = some (.int .i64 ((rd_T71 a4 a1).f1)) ∧ w'.cell? ⟨(a0.add ((a1).toNat * 7)).block, (a0.add ((a1).toNat * 7)).off + 2, none⟩ = some (.int .i64 ((rd_T71 a4 a1).f2)) ∧ w'.cell? ⟨(a0.add ((a1).toNat * 7)).block, (a0.add ((a1).toNat * 7)).off + 3, none⟩ = some (.int .i64 ((rd_T71 a4 a1).f3)) ∧ w'.cell? ⟨(a0.add ((a1).toNat * 7)).block, (a0.add ((a1).toNat * 7)).off + 4, none⟩ = some (.int .i64 ((rd_T71 a4 a1).f4)) ∧ w'.cell? ⟨(a0.add ((a1).toNat * 7)).block, (a0.add ((a1).toNat * 7)).off + 5, none⟩ = some (.int .i64 ((rd_T71 a4 a1).f5)) ∧ w'.cell? ⟨(a0.add ((a1).toNat * 7)).block, (a0.add ((a1).toNat * 7)).off + 6, none⟩ = some (.int .i64 ((rd_T71 a4 a1).f6))) (ds := []) #[false, false, false, false, false, false, false, false, false, false, false, false, false, false, false, false, false, false, false, false, false] (by kernel_rfl) rfl rfl ⟨bc a5 0, bc a5 1, (hxc HB c4), (hxc HB c3), (hxc HB c2), (hxc HB c1), (hxc HB c0), (hxc HB b9), (hxc HB b8)⟩ (fun hHeld => ?_); refine with_tabW q4_Fits.tab3 q4_Fits.bits3 (fun HT_ HW_ => ?_)
    generalize wc.drew = n8 at a5 HB b7 b6 b5 b4 b3 b2 b1 hHeld ⊢
    refine pu 1 24 (bits 21 0x2) HT_ (h := ?_)
    refine pu 2 25 (bits 21 0x6) HT_ (h := ?_)
    refine pu 4 27 (bits 21 0x16) HT_ (h := ?_)
    refine tk 0 23 (bits 21 0x17) HT_ HW_ hHeld (hy := by rintro w' ⟨s0, s1, s2, s3, s4, s5, s6, s7, s8⟩; go_simp; with_reducible rfl) (h := ?_)
    refine tk 3 26 (bits 21 0x1f) HT_ HW_ hHeld (hy := by rintro w' ⟨s0, s1, s2, s3, s4, s5, s6, s7, s8⟩; go_simp; with_reducible rfl) (h := ?_)
    refine pu 5 28 (bits 21 0x3f) HT_ (h := ?_)
    refine pu 6 29 (bits 21 0x7f) HT_ (h := ?_)
    refine tk 7 30 (bits 21 0xff) HT_ HW_ hHeld (hy := by rintro w' ⟨s0, s1, s2, s3, s4, s5, s6, s7, s8⟩; go_simp; with_reducible rfl) (h := ?_)
    refine one_ (i := 8) (N := some 31) #[true, true, true, true, true, true, true, true, true, false, false, false, false, false, false, false, false, false, false, false, false] rfl rfl (one_of HT_.out (by kernel_rfl)) (by decide) (fun K hK => ?_)
    refine goes_ Try.func46 (by kernel_rfl) rfl #[.agg #[.slice a9 a6.length a8, .slice (some a0) a4.length a7], .int .i64 a2, .int .i64 ((rd_T71 a4 a1).f1)] (by rfl) rfl rfl (by (try simp only [List.map_toArray, List.map_cons, List.map_nil]); first | done | rfl | (simp only [List.length_drop, List.length_take]; rfl)) ?_
    with_reducible refine (q4_Below1.calls j4 _ _ a6 _ _ a4 a2 ((rd_T71 a4 a1).f1) false _ ?d7 ?d6 ?d5 ?d4 j9.out).mono ?_
    (case d7 => exact cb e7 HB)
    (case d6 => exact e9.out)
    (case d5 => exact cb d3 HB)
    (case d4 => exact e8.out)
    rintro e n7 ⟨rfl, hb⟩
    refine ⟨_, rfl, ?_⟩
    replace a5 := bkb a5 hb
    replace HB := bstep HB hb
    (try clear hb)
    (try clear hb2)
    (try clear hk)
    (try clear hi)
    refine hK.out _ _ ⟨bc a5 0, bc a5 1, (hxc HB c4), (hxc HB c3), (hxc HB c2), (hxc HB c1), (hxc HB c0), (hxc HB b9), (hxc HB b8)⟩ (fun hHeld => ?_)
    clear hK K
    refine norm_ (a' := ?_) ?_ ?_
    rotate_left
    ·show Act.put _ (some 31) _ = _
     simp only [Act.put, List.setIfInBounds_toArray, List.set_cons_zero, List.set_cons_succ, i64_w, i32_w]
     rfl
    refine pu 9 32 (bits 21 0x3ff) HT_ (h := ?_)
    refine pn 10 33 (bits 21 0x7ff) HT_ (h := ?_)
    refine pn 11 34 (bits 21 0xfff) HT_ (h := ?_)
    refine pn 12 35 (bits 21 0x1fff) HT_ (h := ?_)
    refine pn 13 36 (bits 21 0x3fff) HT_ (h := ?_)
    refine pn 14 37 (bits 21 0x7fff) HT_ (h := ?_)
    refine pn 15 38 (bits 21 0xffff) HT_ (h := ?_)
    refine pn 16 39 (bits 21 0x1ffff) HT_ (h := ?_)
    refine pn 17 40 (bits 21 0x3ffff) HT_ (h := ?_)
    refine pn 18 41 (bits 21 0x7ffff) HT_ (h := ?_)
    refine pu 19 42 (bits 21 0xfffff) HT_ (h := ?_)
    refine pu 20 8 (bits 21 0x1fffff) HT_ (h := ?_)
    refine done_ (done_of HT_.out (by kernel_rfl)) ?_
    try go_wp2
    go_ret
    exact ⟨erf, bb HB⟩
   ·have h5 : 0 ≤ a1 := odt
    have h3 : a1 < (a4.length : Int) := odt
    obtain ⟨j6, m0, d2, d1, d0, c9, c7, c6, c5⟩ := at_T71 d3.out a1 h5 h3
    have d9 := c5
    have e0 := c6
    have e1 := c7
    have e2 := c9
    have e3 := d0
    have e4 := d1
    have e5 := d2
    obtain rfl : a0 = j6 := (by injection m0)
    replace d2 := hxc HB d2
    replace d1 := hxc HB d1
    replace d0 := hxc HB d0
    replace c9 := hxc HB c9
    replace c7 := hxc HB c7
    replace c6 := hxc HB c6
    replace c5 := hxc HB c5
    replace h5 := eq_true h5
    replace h3 := eq_true h3
    refine start_ (n := 21) (S := fun w' => w'.cell? ⟨d8, 0, none⟩ = some (.slice a9 a6.length a8) ∧ w'.cell? ⟨d8, 1, none⟩ = some (.slice (some a0) a4.length a7) ∧ w'.cell? (a0.add ((a1).toNat * 7)) = some (.string ((rd_T71 a4 a1).f0)) ∧ w'.cell? ⟨(a0.add ((a1).toNat * 7)).block, (a0.add ((a1).toNat * 7)).off + 1, none⟩ = some (.int .i64 ((rd_T71 a4 a1).f1)) ∧ w'.cell? ⟨(a0.add ((a1).toNat * 7)).block, (a0.add ((a1).toNat * 7)).off + 2, none⟩ = some (.int .i64 ((rd_T71 a4 a1).f2)) ∧ w'.cell? ⟨(a0.add ((a1).toNat * 7)).block, (a0.add ((a1).toNat * 7)).off + 3, none⟩ = some (.int .i64 ((rd_T71 a4 a1).f3)) ∧ w'.cell? ⟨(a0.add ((a1).toNat * 7)).block, (a0.add ((a1).toNat * 7)).off + 4, none⟩ = some (.int .i64 ((rd_T71 a4 a1).f4)) ∧ w'.cell? ⟨(a0.add ((a1).toNat * 7)).block, (a0.add ((a1).toNat * 7)).off + 5, none⟩ = some (.int .i64 ((rd_T71 a4 a1).f5)) ∧ w'.cell? ⟨(a0.add ((a1).toNat * 7)).block, (a0.add ((a1).toNat * 7)).off + 6, none⟩ = some (.int .i64 ((rd_T71 a4 a1).f6)) ∧ w'.cell? (a0.add ((a1).toNat * 7)) = some (.string ((rd_T71 a4 a1).f0)) ∧ w'.cell? ⟨(a0.add ((a1).toNat * 7)).block, (a0.add ((a1).toNat * 7)).off + 1, none⟩ = some (.int .i64 ((rd_T71 a4 a1).f1)) ∧ w'.cell? ⟨(a0.add ((a1).toNat * 7)).block, (a0.add ((a1).toNat * 7)).off + 2, none⟩ = some (.int .i64 ((rd_T71 a4 a1).f2)) ∧ w'.cell? ⟨(a0.add ((a1).toNat * 7)).block, (a0.add ((a1).toNat * 7)).off + 3, none⟩ = some (.int .i64 ((rd_T71 a4 a1).f3)) ∧ w'.cell? ⟨(a0.add ((a1).toNat * 7)).block, (a0.add ((a1).toNat * 7)).off + 4, none⟩ = some (.int .i64 ((rd_T71 a4 a1).f4)) ∧ w'.cell? ⟨(a0.add ((a1).toNat * 7)).block, (a0.add ((a1).toNat * 7)).off + 5, none⟩ = some (.int .i64 ((rd_T71 a4 a1).f5)) ∧ w'.cell? ⟨(a0.add ((a1).toNat * 7)).block, (a0.add ((a1).toNat * 7)).off + 6, none⟩ = some (.int .i64 ((rd_T71 a4 a1).f6))) (ds := []) #[false, false, false, false, false, false, false, false, false, false, false, false, false, false, false, false, false, false, false, false, false] (by kernel_rfl) rfl rfl ⟨bc a5 0, bc a5 1, (hxc HB c4), (hxc HB c3), (hxc HB c2), (hxc HB c1), (hxc HB c0), (hxc HB b9), (hxc HB b8), (hxc HB e5), (hxc HB e4), (hxc HB e3), (hxc HB e2), (hxc HB e1), (hxc HB e0), (hxc HB d9)⟩ (fun hHeld => ?_); refine with_tabW q4_Fits.tab3 q4_Fits.bits3 (fun HT_ HW_ => ?_)
    generalize wc.drew = o1 at a5 HB b7 b6 b5 b4 b3 b2 b1 d2 d1 d0 c9 c7 c6 c5 hHeld ⊢
    refine pu 1 24 (bits 21 0x2) HT_ (h := ?_)
    refine pu 2 25 (bits 21 0x6) HT_ (h := ?_)
    refine pu 4 27 (bits 21 0x16) HT_ (h := ?_)
    refine tk 0 23 (bits 21 0x17) HT_ HW_ hHeld (hy := by rintro w' ⟨s0, s1, s2, s3, s4, s5, s6, s7, s8, s9, h0, g9, g8, g7, g6, g5⟩; go_simp; with_reducible rfl) (h := ?_)
    refine tk 3 26 (bits 21 0x1f) HT_ HW_ hHeld (hy := by rintro w' ⟨s0, s1, s2, s3, s4, s5, s6, s7, s8, s9, h0, g9, g8, g7, g6, g5⟩; go_simp; with_reducible rfl) (h := ?_)
    refine pu 5 28 (bits 21 0x3f) HT_ (h := ?_)
    refine pu 6 29 (bits 21 0x7f) HT_ (h := ?_)
    refine tk 7 30 (bits 21 0xff) HT_ HW_ hHeld (hy := by rintro w' ⟨s0, s1, s2, s3, s4, s5, s6, s7, s8, s9, h0, g9, g8, g7, g6, g5⟩; go_simp; with_reducible rfl) (h := ?_)
    refine one_ (i := 8) (N := some 31) #[true, true, true, true, true, true, true, true, true, false, false, false, false, false, false, false, false, false, false, false, false] rfl rfl (one_of HT_.out (by kernel_rfl)) (by decide) (fun K hK => ?_)
    refine goes_ Try.func46 (by kernel_rfl) rfl #[.agg #[.slice a9 a6.length a8, .slice (some a0) a4.length a7], .int .i64 a2, .int .i64 ((rd_T71 a4 a1).f1)] (by rfl) rfl rfl (by (try simp only [List.map_toArray, List.map_cons, List.map_nil]); first | done | rfl | (simp only [List.length_drop, List.length_take]; rfl)) ?_
    with_reducible refine (q4_Below1.calls j4 _ _ a6 _ _ a4 a2 ((rd_T71 a4 a1).f1) true _ ?d7 ?d6 ?d5 ?d4 j9.out).mono ?_
    (case d7 => exact cb e7 HB)
    (case d6 => exact e9.out)
    (case d5 => exact cb d3 HB)
    (case d4 => exact e8.out)
    rintro e o0 ⟨rfl, hb⟩
    refine ⟨_, rfl, ?_⟩
    replace a5 := bkb a5 hb
    replace HB := bstep HB hb
    (try clear hb)
    (try clear hb2)
    (try clear hk)
    (try clear hi)
    refine hK.out _ _ ⟨bc a5 0, bc a5 1, (hxc HB c4), (hxc HB c3), (hxc HB c2), (hxc HB c1), (hxc HB c0), (hxc HB b9), (hxc HB b8), (hxc HB e5), (hxc HB e4), (hxc HB e3), (hxc HB e2), (hxc HB e1), (hxc HB e0), (hxc HB d9)⟩ (fun hHeld => ?_)
    clear hK K
    refine norm_ (a' := ?_) ?_ ?_
    rotate_left
    ·show Act.put _ (some 31) _ = _
     simp only [Act.put, List.setIfInBounds_toArray, List.set_cons_zero, List.set_cons_succ, i64_w, i32_w]
     rfl
    refine pu 9 32 (bits 21 0x3ff) HT_ (h := ?_)
    refine pu 11 34 (bits 21 0xbff) HT_ (h := ?_)
    refine pu 12 35 (bits 21 0x1bff) HT_ (h := ?_)
    refine pu 14 37 (bits 21 0x5bff) HT_ (h := ?_)
    refine tk 10 33 (bits 21 0x5fff) HT_ HW_ hHeld (hy := by rintro w' ⟨s0, s1, s2, s3, s4, s5, s6, s7, s8, s9, h0, g9, g8, g7, g6, g5⟩; go_simp; with_reducible rfl) (h := ?_)
    refine tk 13 36 (bits 21 0x7fff) HT_ HW_ hHeld (hy := by rintro w' ⟨s0, s1, s2, s3, s4, s5, s6, s7, s8, s9, h0, g9, g8, g7, g6, g5⟩; go_simp; with_reducible rfl) (h := ?_)
    refine pu 15 38 (bits 21 0xffff) HT_ (h := ?_)
    refine pu 16 39 (bits 21 0x1ffff) HT_ (h := ?_)
    refine tk 17 40 (bits 21 0x3ffff) HT_ HW_ hHeld (hy := by rintro w' ⟨s0, s1, s2, s3, s4, s5, s6, s7, s8, s9, h0, g9, g8, g7, g6, g5⟩; go_simp; with_reducible rfl) (h := ?_)
    refine one_ (i := 18) (N := some 41) #[true, true, true, true, true, true, true, true, true, true, true, true, true, true, true, true, true, true, true, false, false] rfl rfl (one_of HT_.out (by kernel_rfl)) (by decide) (fun K hK => ?_)
    refine goes_ Try.func46 (by kernel_rfl) rfl #[.agg #[.slice a9 a6.length a8, .slice (some a0) a4.length a7], .int .i64 a3, .int .i64 ((rd_T71 a4 a1).f2)] (by rfl) rfl rfl (by (try simp only [List.map_toArray, List.map_cons, List.map_nil]); first | done | rfl | (simp only [List.length_drop, List.length_take]; rfl)) ?_
    with_reducible refine (q4_Below1.calls j4 _ _ a6 _ _ a4 a3 ((rd_T71 a4 a1).f2) h1 _ ?d7 ?d6 ?d5 ?d4 n3.out).mono ?_
    (case d7 => exact cb e7 HB)
    (case d6 => exact e9.out)
    (case d5 => exact cb d3 HB)
    (case d4 => exact e8.out)
    rintro e n9 ⟨rfl, hb⟩
    refine ⟨_, rfl, ?_⟩
    replace a5 := bkb a5 hb
    replace HB := bstep HB hb
    (try clear hb)
    (try clear hb2)
    (try clear hk)
    (try clear hi)
    refine hK.out _ _ ⟨bc a5 0, bc a5 1, (hxc HB c4), (hxc HB c3), (hxc HB c2), (hxc HB c1), (hxc HB c0), (hxc HB b9), (hxc HB b8), (hxc HB e5), (hxc HB e4), (hxc HB e3), (hxc HB e2), (hxc HB e1), (hxc HB e0), (hxc HB d9)⟩ (fun hHeld => ?_)
    clear hK K
    refine norm_ (a' := ?_) ?_ ?_
    rotate_left
    ·show Act.put _ (some 41) _ = _
     simp only [Act.put, List.setIfInBounds_toArray, List.set_cons_zero, List.set_cons_succ, i64_w, i32_w]
     rfl
    refine pu 19 42 (bits 21 0xfffff) HT_ (h := ?_)
    refine pu 20 8 (bits 21 0x1fffff) HT_ (h := ?_)
    refine done_ (done_of HT_.out (by kernel_rfl)) ?_
    try go_wp2
    go_ret
    exact ⟨erf, bb HB⟩
end Go.Proofs.Ytfpianecohobjaa.P
