/- StatisticOf: a part of its proof. No condition. -/
import Derived.Test.YtfpianecohobjaaGreatOPx0
import Derived.Test.YtfpianecohobjaaGreatOMa
import Derived.Test.YtfpianecohobjaaGreatOMg
import Derived.Test.YtfpianecohobjaaGreatOMc
import Derived.Test.YtfpianecohobjaaGreatOH2
namespace Go.Proofs.YtfpianecohobjaaGreat.P
open Go.RowKit Go.Proofs.YtfpianecohobjaaGreatW.PrintWords Go.Proofs.YtfpianecohobjaaGreatW.PrintLast Go.Proofs.YtfpianecohobjaaGreatW.PrintMore
set_option maxHeartbeats 8000000
set_option maxRecDepth 100000
set_option linter.unusedVariables false
set_option linter.unusedSimpArgs false
def types_Fits.j0 : Nat → Int → Int → Int → Bool → List (S96) → List (S101) → Option (Bool)
 | 0, _, _, _, _, _, _ => none
 | k + 1, x1, x2, x3, o2, g9, b2 => if o2 = true then (some false) else (if 0 ≤ x1 then (if x1 < (b2.length : Int) then ((types_is.f k g9 b2 x2 ((rd_T101 b2 x1).f1)).bind fun h6 => (if h6 = true then ((types_is.f k g9 b2 x3 ((rd_T101 b2 x1).f2)).bind fun m0 => (some m0)) else (some false))) else (none)) else (none))
def types_Fits.f (k : Nat) (a8 : List (S96)) (a6 : List (S101)) (a1 : Int) (a2 : Int) (a3 : Int) : Option (Bool) := (types_given.f k a8 a6 (([a2, a3] : List Int))).bind fun d7 => (if d7 = 0 then (if a1 < 0 then (types_Fits.j0 k a1 a2 a3 true a8 a6) else (types_Fits.j0 k a1 a2 a3 (decide (a1 ≥ (a6.length : Int))) a8 a6)) else (types_Fits.j0 k a1 a2 a3 true a8 a6))
theorem types_Fits.mono_l : ∀ k, (∀ y0 y1 y2 y3 y4 y5, LeO (types_Fits.j0 k y0 y1 y2 y3 y4 y5) (types_Fits.j0 (k + 1) y0 y1 y2 y3 y4 y5))
 | 0 => by (intros; intro r h; simp [types_Fits.j0] at h)
 | k + 1 => by
  have ih0 := types_Fits.mono_l k
  (intros; first | unfold types_Fits.j0)
  all_goals with_reducible repeat' first | exact ih0 .. | exact types_given.mono .. | exact types_is.mono .. | exact LeO.refl _ | exact LeO.none _ | refine LeO.ite ?_ ?_ | refine LeO.bind ?_ fun _ => ?_
theorem types_Fits.mono : ∀ a0 a1 a2 a3 a4 k, LeO (types_Fits.f k a0 a1 a2 a3 a4) (types_Fits.f (k + 1) a0 a1 a2 a3 a4) := by
 intro a0 a1 a2 a3 a4 k
 have ih0 := types_Fits.mono_l k
 unfold types_Fits.f
 with_reducible repeat' first | exact ih0 .. | exact types_given.mono .. | exact types_is.mono .. | exact LeO.refl _ | exact LeO.none _ | refine LeO.ite ?_ ?_ | refine LeO.bind ?_ fun _ => ?_
def types_Fits.T3 : Bool × List (List Nat × List Nat) := (true, [([], []), ([], []), ([], []), ([2], [2]), ([], []), ([3, 4], [3, 4]), ([5], [5]), ([6], [6]), ([0, 1, 7], [0, 1, 7]), ([8, 8], [8]), ([9], [9]), ([9], [9]), ([9], [9]), ([12, 9], [9, 12]), ([9], [9]), ([13, 14, 9], [9, 13, 14]), ([15, 9], [9, 15]), ([16, 9], [9, 16]), ([10, 11, 17, 9, 9], [9, 10, 11, 17]), ([9, 18], [9, 18]), ([19, 18, 0, 1, 2, 3, 4, 5, 6, 7, 8, 9, 10, 11, 12, 13, 14, 15, 16, 17, 18, 19], [19])])
def types_Fits.B3 : List Nat := [0, 0, 0, 4, 0, 28, 60, 124, 255, 511, 1023, 1023, 1023, 5119, 1023, 29695, 62463, 127999, 262143, 524287, 1048575]
theorem types_Fits.tab3 : rtab .any (opsOf Tryz.f53 3) = types_Fits.T3 := by kernel_rfl
theorem types_Fits.bits3 : waitsOk types_Fits.T3.2 types_Fits.B3 = true := by kernel_rfl
theorem types_Fits.calls (k : Nat) (b1 : Option Addr) (b0 : Nat) (a8 : List (S96)) (g8 : Option Addr) (a9 : Nat) (a6 : List (S101)) (a1 : Int) (a2 : Int) (a3 : Int) (r : Bool) (w : World) (j3 : Kd.C k96 w b1 a8.length a8) (j5 : a8.length ≤ b0) (j2 : Kd.C k101 w g8 a6.length a6) (j4 : a6.length ≤ a9) (h : types_Fits.f k a8 a6 a1 a2 a3 = some r) :
  Calls Tryz.prog 53 #[.agg #[.slice b1 a8.length b0, .slice g8 a6.length a9], .int .i64 a1, .int .i64 a2, .int .i64 a3] w fun e w' => e = .returned (.bool r) ∧ Below w.heap.size w w' := by
 have hu31 := Tryz.underlying31
 have g3 := Aside0.mk j3
 have g5 := Aside0.mk j5
 clear j3 j5
 have d6 := Aside0.mk j2
 have g4 := Aside0.mk j4
 clear j2 j4
 have HB := Aside0.mk (Below.refl w.heap.size w)
 have H : ((types_given.f k a8 a6 (([a2, a3] : List Int))).bind fun d7 => (if d7 = 0 then (if a1 < 0 then (types_Fits.j0 k a1 a2 a3 true a8 a6) else (types_Fits.j0 k a1 a2 a3 (decide (a1 ≥ (a6.length : Int))) a8 a6)) else (types_Fits.j0 k a1 a2 a3 true a8 a6))) = some r := h
 clear h
 have m1 := Aside0.mk H
 clear H
 go_enter Tryz.func53, Tryz.ntmps53
 go_upto_region 1 with ((with_reducible refine gate_dst (N := 4) rfl ?_); (try (refine gate_guard (by rfl) ?_; dsimp only)); refine be 4 #[.slice b1 a8.length b0, .slice g8 a6.length a9] 31 ?_; intro e3 hg w6 hbox hb; have a7 := Aside0.mk (hbox); have o7 := bsz HB hg; replace HB := bstep HB hb; clear hb hbox hg)
 (try simp only [Act.put, List.setIfInBounds_toArray, List.set_cons_zero, List.set_cons_succ])
 go_cut [25] (fun o3 wc => ∃ (kq : Nat) (g2 : Bool), o3 = .bool g2 ∧ Aside0 (types_Fits.j0 kq a1 a2 a3 g2 a8 a6 = some r) ∧ Aside0 (kq ≤ k) ∧ Aside0 (wc.heap[e3]? = some (.cells #[(.slice b1 a8.length b0), (.slice g8 a6.length a9)] 31 (0, 0))) ∧ Aside0 (Below w.heap.size w wc))
 case first =>
  have H := m1.out
  clear m1
  obtain ⟨j9, e2⟩ : ∃ y_ : List Int, y_ = (([a2, a3] : List Int)) := ⟨_, rfl⟩
  replace H : ((types_given.f k a8 a6 j9).bind fun d7 => (if d7 = 0 then (if a1 < 0 then (types_Fits.j0 k a1 a2 a3 true a8 a6) else (types_Fits.j0 k a1 a2 a3 (decide (a1 ≥ (a6.length : Int))) a8 a6)) else (types_Fits.j0 k a1 a2 a3 true a8 a6))) = some r := by first | (rw [e2]; with_reducible exact H) | (have H2_ := (Option.bind_some _ _).symm.trans H; rw [e2]; with_reducible exact H2_) | (have H2_ := (Option.bind_some _ _).symm.trans H; with_reducible exact H2_) | with_reducible exact H | (rw [e2]; exact H) | exact H
  have j8 := Aside0.mk e2
  clear e2
  obtain ⟨d7, A7, H⟩ := obA H
  by_cases c8 : d7 = 0
  rw [if_pos c8] at H
  have g7 := beq_iff_eq.mpr c8
  have n2 := bne_eq_false_iff_eq.mpr c8
  clear c8
  (first | rw [g7] | (simp only [i64_w, i32_w]; rw [g7]) | skip)
  by_cases c9 : a1 < 0
  rw [if_pos c9] at H
  have n1 := decide_eq_true c9
  clear c9
  have H' := Aside0.mk H
  clear H
  rotate_left
  rw [if_neg c9] at H
  have n1 := decide_eq_false c9
  clear c9
  have H' := Aside0.mk H
  clear H
  rotate_left
  rw [if_neg c8] at H
  have g7 := beq_eq_false_iff_ne.mpr c8
  have n2 := bne_iff_ne.mpr c8
  (first | rw [g7] | (simp only [i64_w, i32_w]; rw [g7]) | skip)
  have H' := Aside0.mk H
  clear H
  all_goals
   obtain ⟨o1, o0, n7, n6⟩ := cz2 a7
   go_wp2_with (first | ((with_reducible refine gate_dst (N := 12) rfl ?_); (try (refine gate_guard (by rfl) ?_; dsimp only)); refine Kd.R_lit (Kd.int .i64) _ 3 ?hg (N := 12) ?hd (xs := ([a2, a3] : List Int)) (inner := [.int .i64 a2, .int .i64 a3]) (ok := fun _ => True) (okp := fun _ => True) ?hr ?hp (fun _ hk => hk) trivial (Below.refl _ _) (Nat.le_refl _) (by simp) ?_; (case hd => rfl); (case hg => rfl); (case hr => first | (go_simp; done) | (go_simp; rfl)); (case hp => exact (Reps.one (show Kd.M (Kd.int .i64) _ _ _ a2 [.int .i64 a2] from rfl) (Reps.one (show Kd.M (Kd.int .i64) _ _ _ a3 [.int .i64 a3] from rfl) (Reps.none _ _)))); intro o8 p5 g6 hb hg_ hnew_; clear hg_ hnew_; (first | rw [← j8.out] at g6 | (simp only [Int.reduceToNat] at g6; rw [← j8.out] at g6)); have e4 := Aside0.mk (Kd.R_lower g6 (below_size (bb HB))); replace a7 := bkb a7 hb; replace HB := bstep HB hb; clear hb g6; obtain ⟨n3, n0, eo13⟩ := Kd.R_slice e4.out; subst eo13) | ((with_reducible refine gate_callee (f := 79) rfl ?_); refine gl 13 Tryz.func79 #[.agg #[.slice b1 a8.length b0, .slice g8 a6.length a9], .slice n3 j9.length n0] (h := ?_); (with_reducible refine (types_given.calls _ _ _ _ _ _ _ _ _ _ _ _ (cb g3 HB) g5.out (cb d6 HB) g4.out ?m3 ?m2 A7.out).mono ?_); (case m3 => repeat (first | exact (Kd.R_reads' e4.out).2.2 | (with_reducible refine Kd.C_alloc ?_ _) | (with_reducible refine Kd.C_drewN ?_ _) | (with_reducible refine Kd.C_drew ?_))); (case m2 => exact (Kd.R_reads' e4.out).2.1); rintro e p4 ⟨rfl, hb⟩; refine ⟨_, rfl, ?_⟩; replace e4 := kRb e4 hb; replace a7 := bkb a7 hb; replace HB := bstep HB hb; clear hb; obtain ⟨n9, n8, n5, n4⟩ := cz2 a7))
   go_meet
   case rel => exact ⟨_, _, eqs, H', ⟨by first | omega | exact Nat.le_refl _⟩, ⟨bk a7⟩, ⟨bb HB⟩⟩
 case rest =>
  clear m1
  obtain ⟨kq, g2, rfl, HA, p7, a7, HB⟩ := hcut
  cases kq with
  | zero => exact absurd HA.out (by simp [types_Fits.j0])
  | succ p6 =>
   have H := HA.out
   clear HA
   simp only [types_Fits.j0] at H
   by_cases j7 : g2 = true
   ·subst j7
    replace H := ift H
    obtain rfl := Option.some.inj H
    go_wp2
    go_ret
    exact ⟨erf, bb HB⟩
   replace j7 := Bool.eq_false_iff.mpr j7
   subst j7
   replace H := iff_ H
   obtain ⟨m6, H⟩ := itn H
   have o6 := decide_eq_true m6
   clear m6
   obtain ⟨m5, H⟩ := itn H
   have o5 := decide_eq_true m5
   clear m5
   obtain ⟨h6, m7, H⟩ := obA H
   by_cases j6 : h6 = true
   subst j6
   replace H := ift H
   obtain ⟨m0, o4, H⟩ := obA H
   obtain rfl := Option.some.inj H
   rotate_left
   replace j6 := Bool.eq_false_iff.mpr j6
   subst j6
   replace H := iff_ H
   obtain rfl := Option.some.inj H
   all_goals
    try go_wp2
    replace a7 := Aside0.mk (blk_drew a7.out)
    replace HB := Aside0.mk (below_drew1 HB.out)
    have j1 : 0 ≤ a1 := odt
    have h8 : a1 < (a6.length : Int) := odt
    obtain ⟨a5, m9, b9, b8, b7, b6, b5, b4, b3⟩ := at_T101 d6.out a1 j1 h8
    have c0 := b3
    have c1 := b4
    have c2 := b5
    have c3 := b6
    have c4 := b7
    have c5 := b8
    have c6 := b9
    cases m9
    replace b9 := hxc HB b9
    replace b8 := hxc HB b8
    replace b7 := hxc HB b7
    replace b6 := hxc HB b6
    replace b5 := hxc HB b5
    replace b4 := hxc HB b4
    replace b3 := hxc HB b3
    replace j1 := eq_true j1
    replace h8 := eq_true h8
   ·refine start_ (n := 21) (S := fun w' => w'.cell? ⟨e3, 0, none⟩ = some (.slice b1 a8.length b0) ∧ w'.cell? ⟨e3, 1, none⟩ = some (.slice (some a5) a6.length a9) ∧ w'.cell? (a5.add ((a1).toNat * 7)) = some (.string ((rd_T101 a6 a1).f0)) ∧ w'.cell? ⟨(a5.add ((a1).toNat * 7)).block, (a5.add ((a1).toNat * 7)).off + 1, none⟩ = some (.int .i64 ((rd_T101 a6 a1).f1)) ∧ w'.cell? ⟨(a5.add ((a1).toNat * 7)).block, (a5.add ((a1).toNat * 7)).off + 2, none⟩ = some (.int .i64 ((rd_T101 a6 a1).f2)) ∧ w'.cell? ⟨(a5.add ((a1).toNat * 7)).block, (a5.add ((a1).toNat * 7)).off + 3, none⟩ = some (.int .i64 ((rd_T101 a6 a1).f3)) ∧ w'.cell? ⟨(a5.add ((a1).toNat * 7)).block, (a5.add ((a1).toNat * 7)).off + 4, none⟩ = some (.int .i64 ((rd_T101 a6 a1).f4)) ∧ w'.cell? ⟨(a5.add ((a1).toNat * 7)).block, (a5.add ((a1).toNat * 7)).off + 5, none⟩ = some (.int .i64 ((rd_T101 a6 a1).f5)) ∧ w'.cell? ⟨(a5.add ((a1).toNat * 7)).block, (a5.add ((a1).toNat * 7)).off + 6, none⟩ = some (.int .i64 ((rd_T101 a6 a1).f6))) (ds := []) #[false, false, false, false, false, false, false, false, false, false, false, false, false, false, false, false, false, false, false, false, false] (by kernel_rfl) rfl rfl ⟨bc a7 0, bc a7 1, (hxc HB c6), (hxc HB c5), (hxc HB c4), (hxc HB c3), (hxc HB c2), (hxc HB c1), (hxc HB c0)⟩ (fun hHeld => ?_); refine with_tabW types_Fits.tab3 types_Fits.bits3 (fun HT_ HW_ => ?_)
    generalize wc.drew = p0 at a7 HB b9 b8 b7 b6 b5 b4 b3 hHeld ⊢
    refine pu 1 27 (bits 21 0x2) HT_ (h := ?_)
    refine pu 2 28 (bits 21 0x6) HT_ (h := ?_)
    refine pu 4 30 (bits 21 0x16) HT_ (h := ?_)
    refine tk 0 26 (bits 21 0x17) HT_ HW_ hHeld (hy := by rintro w' ⟨s0, s1, s2, s3, s4, s5, s6, s7, s8⟩; go_simp; with_reducible rfl) (h := ?_)
    refine tk 3 29 (bits 21 0x1f) HT_ HW_ hHeld (hy := by rintro w' ⟨s0, s1, s2, s3, s4, s5, s6, s7, s8⟩; go_simp; with_reducible rfl) (h := ?_)
    refine pu 5 31 (bits 21 0x3f) HT_ (h := ?_)
    refine pu 6 32 (bits 21 0x7f) HT_ (h := ?_)
    refine tk 7 33 (bits 21 0xff) HT_ HW_ hHeld (hy := by rintro w' ⟨s0, s1, s2, s3, s4, s5, s6, s7, s8⟩; go_simp; with_reducible rfl) (h := ?_)
    refine one_ (i := 8) (N := some 34) #[true, true, true, true, true, true, true, true, true, false, false, false, false, false, false, false, false, false, false, false, false] rfl rfl (one_of HT_.out (by kernel_rfl)) (by decide) (fun K hK => ?_)
    refine goes_ Tryz.func80 (by kernel_rfl) rfl #[.agg #[.slice b1 a8.length b0, .slice (some a5) a6.length a9], .int .i64 a2, .int .i64 ((rd_T101 a6 a1).f1)] (by rfl) rfl rfl (by (try simp only [List.map_toArray, List.map_cons, List.map_nil]); first | done | rfl | (simp only [List.length_drop, List.length_take]; rfl)) ?_
    with_reducible refine (types_is.calls _ _ _ _ _ _ _ _ _ _ _ ?e1 ?e0 ?d9 ?d8 m7.out).mono ?_
    (case e1 => exact cb g3 HB)
    (case e0 => exact g5.out)
    (case d9 => exact cb d6 HB)
    (case d8 => exact g4.out)
    rintro e o9 ⟨rfl, hb⟩
    refine ⟨_, rfl, ?_⟩
    replace a7 := bkb a7 hb
    replace HB := bstep HB hb
    clear hb
    refine hK.out _ _ ⟨bc a7 0, bc a7 1, (hxc HB c6), (hxc HB c5), (hxc HB c4), (hxc HB c3), (hxc HB c2), (hxc HB c1), (hxc HB c0)⟩ (fun hHeld => ?_)
    clear hK K
    refine norm_ (a' := ?_) ?_ ?_
    rotate_left
    ·show Act.put _ (some 34) _ = _
     simp only [Act.put, List.setIfInBounds_toArray, List.set_cons_zero, List.set_cons_succ, i64_w, i32_w]
     rfl
    refine pu 9 35 (bits 21 0x3ff) HT_ (h := ?_)
    refine pn 10 36 (bits 21 0x7ff) HT_ (h := ?_)
    refine pn 11 37 (bits 21 0xfff) HT_ (h := ?_)
    refine pn 12 38 (bits 21 0x1fff) HT_ (h := ?_)
    refine pn 13 39 (bits 21 0x3fff) HT_ (h := ?_)
    refine pn 14 40 (bits 21 0x7fff) HT_ (h := ?_)
    refine pn 15 41 (bits 21 0xffff) HT_ (h := ?_)
    refine pn 16 42 (bits 21 0x1ffff) HT_ (h := ?_)
    refine pn 17 43 (bits 21 0x3ffff) HT_ (h := ?_)
    refine pn 18 44 (bits 21 0x7ffff) HT_ (h := ?_)
    refine pu 19 45 (bits 21 0xfffff) HT_ (h := ?_)
    refine pu 20 8 (bits 21 0x1fffff) HT_ (h := ?_)
    refine done_ (done_of HT_.out (by kernel_rfl)) ?_
    try go_wp2
    go_ret
    exact ⟨erf, bb HB⟩
   ·have h9 : 0 ≤ a1 := odt
    have h7 : a1 < (a6.length : Int) := odt
    obtain ⟨m4, m8, d5, d4, d3, d2, d1, d0, c7⟩ := at_T101 d6.out a1 h9 h7
    have e5 := c7
    have e6 := d0
    have e7 := d1
    have e8 := d2
    have e9 := d3
    have g0 := d4
    have g1 := d5
    obtain rfl : a5 = m4 := (by injection m8)
    replace d5 := hxc HB d5
    replace d4 := hxc HB d4
    replace d3 := hxc HB d3
    replace d2 := hxc HB d2
    replace d1 := hxc HB d1
    replace d0 := hxc HB d0
    replace c7 := hxc HB c7
    replace h9 := eq_true h9
    replace h7 := eq_true h7
    refine start_ (n := 21) (S := fun w' => w'.cell? ⟨e3, 0, none⟩ = some (.slice b1 a8.length b0) ∧ w'.cell? ⟨e3, 1, none⟩ = some (.slice (some a5) a6.length a9) ∧ w'.cell? (a5.add ((a1).toNat * 7)) = some (.string ((rd_T101 a6 a1).f0)) ∧ w'.cell? ⟨(a5.add ((a1).toNat * 7)).block, (a5.add ((a1).toNat * 7)).off + 1, none⟩ = some (.int .i64 ((rd_T101 a6 a1).f1)) ∧ w'.cell? ⟨(a5.add ((a1).toNat * 7)).block, (a5.add ((a1).toNat * 7)).off + 2, none⟩ = some (.int .i64 ((rd_T101 a6 a1).f2)) ∧ w'.cell? ⟨(a5.add ((a1).toNat * 7)).block, (a5.add ((a1).toNat * 7)).off + 3, none⟩ = some (.int .i64 ((rd_T101 a6 a1).f3)) ∧ w'.cell? ⟨(a5.add ((a1).toNat * 7)).block, (a5.add ((a1).toNat * 7)).off + 4, none⟩ = some (.int .i64 ((rd_T101 a6 a1).f4)) ∧ w'.cell? ⟨(a5.add ((a1).toNat * 7)).block, (a5.add ((a1).toNat * 7)).off + 5, none⟩ = some (.int .i64 ((rd_T101 a6 a1).f5)) ∧ w'.cell? ⟨(a5.add ((a1).toNat * 7)).block, (a5.add ((a1).toNat * 7)).off + 6, none⟩ = some (.int .i64 ((rd_T101 a6 a1).f6)) ∧ w'.cell? (a5.add ((a1).toNat * 7)) = some (.string ((rd_T101 a6 a1).f0)) ∧ w'.cell? ⟨(a5.add ((a1).toNat * 7)).block, (a5.add ((a1).toNat * 7)).off + 1, none⟩ = some (.int .i64 ((rd_T101 a6 a1).f1)) ∧ w'.cell? ⟨(a5.add ((a1).toNat * 7)).block, (a5.add ((a1).toNat * 7)).off + 2, none⟩ = some (.int .i64 ((rd_T101 a6 a1).f2)) ∧ w'.cell? ⟨(a5.add ((a1).toNat * 7)).block, (a5.add ((a1).toNat * 7)).off + 3, none⟩ = some (.int .i64 ((rd_T101 a6 a1).f3)) ∧ w'.cell? ⟨(a5.add ((a1).toNat * 7)).block, (a5.add ((a1).toNat * 7)).off + 4, none⟩ = some (.int .i64 ((rd_T101 a6 a1).f4)) ∧ w'.cell? ⟨(a5.add ((a1).toNat * 7)).block, (a5.add ((a1).toNat * 7)).off + 5, none⟩ = some (.int .i64 ((rd_T101 a6 a1).f5)) ∧ w'.cell? ⟨(a5.add ((a1).toNat * 7)).block, (a5.add ((a1).toNat * 7)).off + 6, none⟩ = some (.int .i64 ((rd_T101 a6 a1).f6))) (ds := []) #[false, false, false, false, false, false, false, false, false, false, false, false, false, false, false, false, false, false, false, false, false] (by kernel_rfl) rfl rfl ⟨bc a7 0, bc a7 1, (hxc HB c6), (hxc HB c5), (hxc HB c4), (hxc HB c3), (hxc HB c2), (hxc HB c1), (hxc HB c0), (hxc HB g1), (hxc HB g0), (hxc HB e9), (hxc HB e8), (hxc HB e7), (hxc HB e6), (hxc HB e5)⟩ (fun hHeld => ?_); refine with_tabW types_Fits.tab3 types_Fits.bits3 (fun HT_ HW_ => ?_)
    generalize wc.drew = p3 at a7 HB b9 b8 b7 b6 b5 b4 b3 d5 d4 d3 d2 d1 d0 c7 hHeld ⊢
    refine pu 1 27 (bits 21 0x2) HT_ (h := ?_)
    refine pu 2 28 (bits 21 0x6) HT_ (h := ?_)
    refine pu 4 30 (bits 21 0x16) HT_ (h := ?_)
    refine tk 0 26 (bits 21 0x17) HT_ HW_ hHeld (hy := by rintro w' ⟨s0, s1, s2, s3, s4, s5, s6, s7, s8, s9, h5, h4, h3, h2, h1, h0⟩; go_simp; with_reducible rfl) (h := ?_)
    refine tk 3 29 (bits 21 0x1f) HT_ HW_ hHeld (hy := by rintro w' ⟨s0, s1, s2, s3, s4, s5, s6, s7, s8, s9, h5, h4, h3, h2, h1, h0⟩; go_simp; with_reducible rfl) (h := ?_)
    refine pu 5 31 (bits 21 0x3f) HT_ (h := ?_)
    refine pu 6 32 (bits 21 0x7f) HT_ (h := ?_)
    refine tk 7 33 (bits 21 0xff) HT_ HW_ hHeld (hy := by rintro w' ⟨s0, s1, s2, s3, s4, s5, s6, s7, s8, s9, h5, h4, h3, h2, h1, h0⟩; go_simp; with_reducible rfl) (h := ?_)
    refine one_ (i := 8) (N := some 34) #[true, true, true, true, true, true, true, true, true, false, false, false, false, false, false, false, false, false, false, false, false] rfl rfl (one_of HT_.out (by kernel_rfl)) (by decide) (fun K hK => ?_)
    refine goes_ Tryz.func80 (by kernel_rfl) rfl #[.agg #[.slice b1 a8.length b0, .slice (some a5) a6.length a9], .int .i64 a2, .int .i64 ((rd_T101 a6 a1).f1)] (by rfl) rfl rfl (by (try simp only [List.map_toArray, List.map_cons, List.map_nil]); first | done | rfl | (simp only [List.length_drop, List.length_take]; rfl)) ?_
    with_reducible refine (types_is.calls _ _ _ _ _ _ _ _ _ _ _ ?e1 ?e0 ?d9 ?d8 m7.out).mono ?_
    (case e1 => exact cb g3 HB)
    (case e0 => exact g5.out)
    (case d9 => exact cb d6 HB)
    (case d8 => exact g4.out)
    rintro e p2 ⟨rfl, hb⟩
    refine ⟨_, rfl, ?_⟩
    replace a7 := bkb a7 hb
    replace HB := bstep HB hb
    clear hb
    refine hK.out _ _ ⟨bc a7 0, bc a7 1, (hxc HB c6), (hxc HB c5), (hxc HB c4), (hxc HB c3), (hxc HB c2), (hxc HB c1), (hxc HB c0), (hxc HB g1), (hxc HB g0), (hxc HB e9), (hxc HB e8), (hxc HB e7), (hxc HB e6), (hxc HB e5)⟩ (fun hHeld => ?_)
    clear hK K
    refine norm_ (a' := ?_) ?_ ?_
    rotate_left
    ·show Act.put _ (some 34) _ = _
     simp only [Act.put, List.setIfInBounds_toArray, List.set_cons_zero, List.set_cons_succ, i64_w, i32_w]
     rfl
    refine pu 9 35 (bits 21 0x3ff) HT_ (h := ?_)
    refine pu 11 37 (bits 21 0xbff) HT_ (h := ?_)
    refine pu 12 38 (bits 21 0x1bff) HT_ (h := ?_)
    refine pu 14 40 (bits 21 0x5bff) HT_ (h := ?_)
    refine tk 10 36 (bits 21 0x5fff) HT_ HW_ hHeld (hy := by rintro w' ⟨s0, s1, s2, s3, s4, s5, s6, s7, s8, s9, h5, h4, h3, h2, h1, h0⟩; go_simp; with_reducible rfl) (h := ?_)
    refine tk 13 39 (bits 21 0x7fff) HT_ HW_ hHeld (hy := by rintro w' ⟨s0, s1, s2, s3, s4, s5, s6, s7, s8, s9, h5, h4, h3, h2, h1, h0⟩; go_simp; with_reducible rfl) (h := ?_)
    refine pu 15 41 (bits 21 0xffff) HT_ (h := ?_)
    refine pu 16 42 (bits 21 0x1ffff) HT_ (h := ?_)
    refine tk 17 43 (bits 21 0x3ffff) HT_ HW_ hHeld (hy := by rintro w' ⟨s0, s1, s2, s3, s4, s5, s6, s7, s8, s9, h5, h4, h3, h2, h1, h0⟩; go_simp; with_reducible rfl) (h := ?_)
    refine one_ (i := 18) (N := some 44) #[true, true, true, true, true, true, true, true, true, true, true, true, true, true, true, true, true, true, true, false, false] rfl rfl (one_of HT_.out (by kernel_rfl)) (by decide) (fun K hK => ?_)
    refine goes_ Tryz.func80 (by kernel_rfl) rfl #[.agg #[.slice b1 a8.length b0, .slice (some a5) a6.length a9], .int .i64 a3, .int .i64 ((rd_T101 a6 a1).f2)] (by rfl) rfl rfl (by (try simp only [List.map_toArray, List.map_cons, List.map_nil]); first | done | rfl | (simp only [List.length_drop, List.length_take]; rfl)) ?_
    with_reducible refine (types_is.calls _ _ _ _ _ _ _ _ _ _ _ ?e1 ?e0 ?d9 ?d8 o4.out).mono ?_
    (case e1 => exact cb g3 HB)
    (case e0 => exact g5.out)
    (case d9 => exact cb d6 HB)
    (case d8 => exact g4.out)
    rintro e p1 ⟨rfl, hb⟩
    refine ⟨_, rfl, ?_⟩
    replace a7 := bkb a7 hb
    replace HB := bstep HB hb
    clear hb
    refine hK.out _ _ ⟨bc a7 0, bc a7 1, (hxc HB c6), (hxc HB c5), (hxc HB c4), (hxc HB c3), (hxc HB c2), (hxc HB c1), (hxc HB c0), (hxc HB g1), (hxc HB g0), (hxc HB e9), (hxc HB e8), (hxc HB e7), (hxc HB e6), (hxc HB e5)⟩ (fun hHeld => ?_)
    clear hK K
    refine norm_ (a' := ?_) ?_ ?_
    rotate_left
    ·show Act.put _ (some 44) _ = _
     simp only [Act.put, List.setIfInBounds_toArray, List.set_cons_zero, List.set_cons_succ, i64_w, i32_w]
     rfl
    refine pu 19 45 (bits 21 0xfffff) HT_ (h := ?_)
    refine pu 20 8 (bits 21 0x1fffff) HT_ (h := ?_)
    refine done_ (done_of HT_.out (by kernel_rfl)) ?_
    try go_wp2
    go_ret
    exact ⟨erf, bb HB⟩
mutual
def statistic_typed.l0 : Nat → List Int → Int → Int → List (S96) → List (S101) → List Int → List (S56) → Option (Int)
 | 0, _, _, _, _, _, _, _ => none
 | k + 1, n9, q0, g8, b9, b8, b3, b7 => if g8 < q0 then (if 0 ≤ g8 then (if g8 < (n9.length : Int) then (if (rd n9 g8) ≥ (b9.length : Int) then (some 6) else (statistic_typed.l0 k n9 q0 (wrap64 (g8 + 1)) b9 b8 b3 b7)) else (none)) else (none)) else (statistic_typed.l1 k b7 (b7.length : Int) 0 b9 b8 b3 b7)
def statistic_typed.l1 : Nat → List (S56) → Int → Int → List (S96) → List (S101) → List Int → List (S56) → Option (Int)
 | 0, _, _, _, _, _, _, _ => none
 | k + 1, d8, p9, c9, b9, b8, b3, b7 => if c9 < p9 then (if 0 ≤ c9 then (if c9 < (d8.length : Int) then (if ((rd_T56 d8 c9).f0) ≥ (b8.length : Int) then (some 6) else (if 0 ≤ ((rd_T56 d8 c9).f1) then (if ((rd_T56 d8 c9).f1) < (b3.length : Int) then (if 0 ≤ ((rd_T56 d8 c9).f2) then (if ((rd_T56 d8 c9).f2) < (b3.length : Int) then ((types_Fits.f k b9 b8 ((rd_T56 d8 c9).f0) (rd b3 ((rd_T56 d8 c9).f1)) (rd b3 ((rd_T56 d8 c9).f2))).bind fun h0 => (if h0 = true then (statistic_typed.l1 k d8 p9 (wrap64 (c9 + 1)) b9 b8 b3 b7) else (some 13))) else (none)) else (none)) else (none)) else (none))) else (none)) else (none)) else (some 0)
end
def statistic_typed.f (k : Nat) (b1 : List (S96)) (b0 : List (S101)) (a8 : List Int) (a5 : List (S56)) : Option (Int) := (types_Valid.f k b1 b0).bind fun e5 => (if e5.2 = 0 then ((graph_Valid.f k a8 a5).bind fun d9 => (if d9 = 0 then (statistic_typed.l0 k a8 (a8.length : Int) 0 b1 b0 a8 a5) else (some d9))) else (some e5.2))
theorem statistic_typed.mono_l : ∀ k, (∀ y0 y1 y2 y3 y4 y5 y6, LeO (statistic_typed.l0 k y0 y1 y2 y3 y4 y5 y6) (statistic_typed.l0 (k + 1) y0 y1 y2 y3 y4 y5 y6)) ∧ (∀ y0 y1 y2 y3 y4 y5 y6, LeO (statistic_typed.l1 k y0 y1 y2 y3 y4 y5 y6) (statistic_typed.l1 (k + 1) y0 y1 y2 y3 y4 y5 y6))
 | 0 => by refine ⟨?_, ?_⟩ <;> (intros; intro r h; simp [statistic_typed.l0, statistic_typed.l1] at h)
 | k + 1 => by
  obtain ⟨ih0, ih1⟩ := statistic_typed.mono_l k
  refine ⟨?_, ?_⟩ <;> (intros; first | unfold statistic_typed.l0 | unfold statistic_typed.l1)
  all_goals with_reducible repeat' first | exact ih0 .. | exact ih1 .. | exact graph_Valid.mono .. | exact types_Fits.mono .. | exact types_Valid.mono .. | exact LeO.refl _ | exact LeO.none _ | refine LeO.ite ?_ ?_ | refine LeO.bind ?_ fun _ => ?_
theorem statistic_typed.mono : ∀ a0 a1 a2 a3 k, LeO (statistic_typed.f k a0 a1 a2 a3) (statistic_typed.f (k + 1) a0 a1 a2 a3) := by
 intro a0 a1 a2 a3 k
 obtain ⟨ih0, ih1⟩ := statistic_typed.mono_l k
 unfold statistic_typed.f
 with_reducible repeat' first | exact ih0 .. | exact ih1 .. | exact graph_Valid.mono .. | exact types_Fits.mono .. | exact types_Valid.mono .. | exact LeO.refl _ | exact LeO.none _ | refine LeO.ite ?_ ?_ | refine LeO.bind ?_ fun _ => ?_
def statistic_typed.T18 : Bool × List (List Nat × List Nat) := (true, [([], []), ([], []), ([1], [1]), ([], []), ([3], [3]), ([], []), ([5], [5]), ([4, 6], [4, 6]), ([7], [7]), ([], []), ([9], [9]), ([], []), ([11], [11]), ([10, 12], [10, 12]), ([13], [13]), ([0, 2, 8, 14], [0, 2, 8, 14]), ([15], [15])])
def statistic_typed.B18 : List Nat := [0, 0, 2, 0, 8, 0, 32, 120, 248, 0, 512, 0, 2048, 7680, 15872, 32767, 65535]
theorem statistic_typed.tab18 : rtab .any (opsOf Tryz.f40 18) = statistic_typed.T18 := by kernel_rfl
theorem statistic_typed.bits18 : waitsOk statistic_typed.T18.2 statistic_typed.B18 = true := by kernel_rfl
theorem statistic_typed.calls (k : Nat) (c8 : Option Addr) (c5 : Nat) (b1 : List (S96)) (c7 : Option Addr) (c3 : Nat) (b0 : List (S101)) (e2 : Option Addr) (d1 : Nat) (a8 : List Int) (e6 : Option Addr) (d0 : Nat) (a5 : List (S56)) (r : Int) (w : World) (j1 : Kd.C k96 w c8 b1.length b1) (j5 : b1.length ≤ c5) (j0 : Kd.C k101 w c7 b0.length b0) (j4 : b0.length ≤ c3) (h9 : Kd.C (Kd.int .i64) w e2 a8.length a8) (j3 : a8.length ≤ d1) (h8 : Kd.C k56 w e6 a5.length a5) (j2 : a5.length ≤ d0) (h : statistic_typed.f k b1 b0 a8 a5 = some r) :
  Calls Tryz.prog 40 #[.agg #[.slice c8 b1.length c5, .slice c7 b0.length c3], .agg #[.slice e2 a8.length d1, .slice e6 a5.length d0]] w fun e w' => e = .returned (.int .i64 r) ∧ Below w.heap.size w w' := by
 have hu31 := Tryz.underlying31
 have hu35 := Tryz.underlying35
 have hu56 := Tryz.underlying56
 have j9 := Aside0.mk j1
 have m2 := Aside0.mk j5
 clear j1 j5
 have j8 := Aside0.mk j0
 have m1 := Aside0.mk j4
 clear j0 j4
 have e8 := Aside0.mk h9
 have p7 := Aside0.mk j3
 clear h9 j3
 have g7 := Aside0.mk h8
 have p6 := Aside0.mk j2
 clear h8 j2
 have HB := Aside0.mk (Below.refl w.heap.size w)
 have H : ((types_Valid.f k b1 b0).bind fun e5 => (if e5.2 = 0 then ((graph_Valid.f k a8 a5).bind fun d9 => (if d9 = 0 then (statistic_typed.l0 k a8 (a8.length : Int) 0 b1 b0 a8 a5) else (some d9))) else (some e5.2))) = some r := h
 clear h
 obtain ⟨⟨C0, r0⟩, A3, H⟩ := obA H
 try dsimp only at H
 by_cases c4 : r0 = 0
 rw [if_pos c4] at H
 have o7 := beq_iff_eq.mpr c4
 have o6 := bne_eq_false_iff_eq.mpr c4
 clear c4
 obtain ⟨d9, A5, H⟩ := obA H
 by_cases c6 : d9 = 0
 rw [if_pos c6] at H
 have o5 := beq_iff_eq.mpr c6
 have o4 := bne_eq_false_iff_eq.mpr c6
 clear c6
 have H' := Aside0.mk H
 clear H
 rotate_left
 rw [if_neg c6] at H
 have o5 := beq_eq_false_iff_ne.mpr c6
 have o4 := bne_iff_ne.mpr c6
 obtain rfl := Option.some.inj H
 rotate_left
 rw [if_neg c4] at H
 have o7 := beq_eq_false_iff_ne.mpr c4
 have o6 := bne_iff_ne.mpr c4
 obtain rfl := Option.some.inj H
 all_goals
  go_enter Tryz.func40, Tryz.ntmps40
  go_wp2_with (first | ((with_reducible refine gate_dst (N := 2) rfl ?_); refine be 2 #[.slice c8 b1.length c5, .slice c7 b0.length c3] 31 ?_; intro e4 hg C4 hbox hb; have a6 := Aside0.mk (hbox); have A9 := bsz HB hg; replace HB := bstep HB hb; clear hb hbox hg) | ((with_reducible refine gate_dst (N := 3) rfl ?_); refine be 3 #[.slice e2 a8.length d1, .slice e6 a5.length d0] 35 ?_; intro e3 hg C3 hbox hb; have a7 := Aside0.mk (hbox); have A8 := bsz HB hg; replace HB := bstep HB hb; have b6 := blt a6 hg; have b5 := bgt a6 hg; replace a6 := bkb a6 hb; clear hb hbox hg; have x0 := b6.out; have w1 := b5.out; obtain ⟨n4, n3, m6, m5⟩ := cz2 a6) | ((with_reducible refine gate_callee (f := 57) rfl ?_); refine gl 14 Tryz.func57 #[.agg #[.slice c8 b1.length c5, .slice c7 b0.length c3]] (h := ?_); (with_reducible refine (types_Valid.calls _ _ _ _ _ _ _ _ _ _ (cb j9 HB) m2.out (cb j8 HB) m1.out A3.out).mono ?_); rintro e C2 ⟨rfl, hb⟩; refine ⟨_, rfl, ?_⟩; replace a6 := bkb a6 hb; replace a7 := bkb a7 hb; replace HB := bstep HB hb; clear hb; obtain ⟨n2, n1, m4, m3⟩ := cz2 a7) | ((with_reducible refine gate_callee (f := 37) rfl ?_); refine gl 21 Tryz.func37 #[.agg #[.slice e2 a8.length d1, .slice e6 a5.length d0]] (h := ?_); (with_reducible refine (graph_Valid.calls _ _ _ _ _ _ _ _ _ (cb e8 HB) p7.out (cb g7 HB) p6.out A5.out).mono ?_); rintro e C1 ⟨rfl, hb⟩; refine ⟨_, rfl, ?_⟩; replace a6 := bkb a6 hb; replace a7 := bkb a7 hb; replace HB := bstep HB hb; clear hb; obtain ⟨n8, n7, n0, m9⟩ := cz2 a7))
 ·go_ret
  exact ⟨erf, bb HB⟩
 ·go_loopg [28] k (fun kq v9 w' => ∃ (b4 : Int), v9 = .int .i64 b4 ∧ Aside0 (statistic_typed.l0 kq a8 (a8.length : Int) b4 b1 b0 a8 a5 = some r) ∧ Aside0 (kq ≤ k) ∧ Aside0 (w'.heap[e4]? = some (.cells #[(.slice c8 b1.length c5), (.slice c7 b0.length c3)] 31 (0, 0))) ∧ Aside0 (w'.heap[e3]? = some (.cells #[(.slice e2 a8.length d1), (.slice e6 a5.length d0)] 35 (0, 0))) ∧ Aside0 (Below w.heap.size w w'))
  case atStart => exact ⟨(0), eqs, H', ⟨Nat.le_refl _⟩, ⟨bk a6⟩, ⟨bk a7⟩, ⟨bb HB⟩⟩
  case round =>
   clear H' o7 o6 o5 o4 n4 n3 n2 n1 n8 n7 m6 m5 m4 m3 n0 m9
   obtain ⟨b4, rfl, HA, m0, a6, a7, HB⟩ := hrel
   cases gk with
   | zero => exact absurd HA.out (by simp [statistic_typed.l0])
   | succ k1 =>
    have H := HA.out
    clear HA
    simp only [statistic_typed.l0] at H
    by_cases g5 : b4 < (a8.length : Int)
    ·rw [if_pos g5] at H
     have j7 := decide_eq_true g5
     clear g5
     obtain ⟨q8, H⟩ := itn H
     have A6 := decide_eq_true q8
     clear q8
     obtain ⟨q7, H⟩ := itn H
     have A4 := decide_eq_true q7
     clear q7
     by_cases g4 : (rd a8 b4) ≥ (b1.length : Int)
     rw [if_pos g4] at H
     have p4 : decide ((b1.length : Int) ≤ (rd a8 b4)) = true := decide_eq_true g4
     clear g4
     obtain rfl := Option.some.inj H
     rotate_left
     rw [if_neg g4] at H
     have p4 : decide ((b1.length : Int) ≤ (rd a8 b4)) = false := decide_eq_false g4
     clear g4
     have H' := Aside0.mk H
     clear H
     all_goals
      have h6 : 0 ≤ b4 := odt
      have h3 : b4 < (a8.length : Int) := odt
      obtain ⟨A7, r3, e9⟩ := Kd.at_int e8.out b4 h6 h3
      cases r3
      replace e9 := hxc HB e9
      replace h6 := eq_true h6
      replace h3 := eq_true h3
      have x9 := b6.out
      have w9 := b5.out
      obtain ⟨v6, v5, t4, t3⟩ := cz2 a6
      go_wp2
     ·go_roundg k1
      case measure => have := m0.out; omega
      case rel => exact ⟨(wrap64 (b4 + 1)), eqs, H', ⟨by have := m0.out; omega⟩, ⟨bk a6⟩, ⟨bk a7⟩, ⟨bb HB⟩⟩
     ·go_ret
      exact ⟨erf, bb HB⟩
    rw [if_neg g5] at H
    have j7 := decide_eq_false g5
    clear g5
    have H' := Aside0.mk H
    clear H
    have x8 := b5.out
    have w8 := b6.out
    obtain ⟨n6, n5, m8, m7⟩ := cz2 a7
    go_wp2
    go_loopg [41] k1 (fun kq v8 w' => ∃ (a4 : Int), v8 = .int .i64 a4 ∧ Aside0 (statistic_typed.l1 kq a5 (a5.length : Int) a4 b1 b0 a8 a5 = some r) ∧ Aside0 (kq ≤ k1) ∧ Aside0 (w'.heap[e4]? = some (.cells #[(.slice c8 b1.length c5), (.slice c7 b0.length c3)] 31 (0, 0))) ∧ Aside0 (w'.heap[e3]? = some (.cells #[(.slice e2 a8.length d1), (.slice e6 a5.length d0)] 35 (0, 0))) ∧ Aside0 (Below w.heap.size w w'))
    case atStart => exact ⟨(0), eqs, H', ⟨Nat.le_refl _⟩, ⟨bk a6⟩, ⟨bk a7⟩, ⟨bb HB⟩⟩
    case round =>
     clear H' j7 n6 n5 m8 m7
     obtain ⟨a4, rfl, HA, q9, a6, a7, HB⟩ := hrel
     cases gk with
     | zero => exact absurd HA.out (by simp [statistic_typed.l1])
     | succ k2 =>
      have H := HA.out
      clear HA
      simp only [statistic_typed.l1] at H
      by_cases g3 : a4 < (a5.length : Int)
      rotate_left
      ·rw [if_neg g3] at H
       have p3 := decide_eq_false g3
       clear g3
       obtain rfl := Option.some.inj H
       go_wp2
       go_ret
       exact ⟨erf, bb HB⟩
      rw [if_pos g3] at H
      have p3 := decide_eq_true g3
      clear g3
      obtain ⟨q6, H⟩ := itn H
      have A2 := decide_eq_true q6
      clear q6
      obtain ⟨q5, H⟩ := itn H
      have A1 := decide_eq_true q5
      clear q5
      by_cases g2 : ((rd_T56 a5 a4).f0) ≥ (b0.length : Int)
      ·rw [if_pos g2] at H
       have p2 : decide ((b0.length : Int) ≤ ((rd_T56 a5 a4).f0)) = true := decide_eq_true g2
       clear g2
       obtain rfl := Option.some.inj H
       have e1 : 0 ≤ a4 := odt
       have e0 : a4 < (a5.length : Int) := odt
       obtain ⟨g6, h7, c2, c1, c0⟩ := at_T56 g7.out a4 e1 e0
       cases h7
       replace c2 := hxc HB c2
       replace c1 := hxc HB c1
       replace c0 := hxc HB c0
       replace e1 := eq_true e1
       replace e0 := eq_true e0
       go_wp2_with ((with_reducible refine gate_dst (N := 11) rfl ?_); refine be 11 #[.int .i64 0, .int .i64 0, .int .i64 0] 56 ?_; intro a9 hg C7 hbox hb; have b2 := Aside0.mk (hbox); have p8 := bsz HB hg; replace HB := bstep HB hb; have d5 := blt a6 hg; have d3 := bgt a6 hg; replace a6 := bkb a6 hb; have d4 := blt a7 hg; have d2 := bgt a7 hg; replace a7 := bkb a7 hb; clear hb hbox hg; have x7 := d3.out; have w7 := d5.out; have x6 := d2.out; have w6 := d4.out; obtain ⟨v4, v3, v2, t2, t1, t0⟩ := cz3 b2; have x5 := b6.out; have w5 := b5.out; obtain ⟨v1, v0, s9, r9⟩ := cz2 a6)
       go_ret
       exact ⟨erf, bb HB⟩
      rw [if_neg g2] at H
      have p2 : decide ((b0.length : Int) ≤ ((rd_T56 a5 a4).f0)) = false := decide_eq_false g2
      clear g2
      obtain ⟨q4, H⟩ := itn H
      have A0 := decide_eq_true q4
      clear q4
      obtain ⟨q3, H⟩ := itn H
      have y9 := decide_eq_true q3
      clear q3
      obtain ⟨q2, H⟩ := itn H
      have y8 := decide_eq_true q2
      clear q2
      obtain ⟨q1, H⟩ := itn H
      have y7 := decide_eq_true q1
      clear q1
      obtain ⟨h0, w0, H⟩ := obA H
      by_cases j6 : h0 = true
      subst j6
      replace H := ift H
      have H' := Aside0.mk H
      clear H
      rotate_left
      replace j6 := Bool.eq_false_iff.mpr j6
      subst j6
      replace H := iff_ H
      obtain rfl := Option.some.inj H
      all_goals
       have e1 : 0 ≤ a4 := odt
       have e0 : a4 < (a5.length : Int) := odt
       obtain ⟨g6, h7, c2, c1, c0⟩ := at_T56 g7.out a4 e1 e0
       cases h7
       replace c2 := hxc HB c2
       replace c1 := hxc HB c1
       replace c0 := hxc HB c0
       replace e1 := eq_true e1
       replace e0 := eq_true e0
       try go_wp2_with ((with_reducible refine gate_dst (N := 11) rfl ?_); refine be 11 #[.int .i64 0, .int .i64 0, .int .i64 0] 56 ?_; intro a9 hg g9 hbox hb; have b2 := Aside0.mk (hbox); have p8 := bsz HB hg; replace HB := bstep HB hb; have d5 := blt a6 hg; have d3 := bgt a6 hg; replace a6 := bkb a6 hb; have d4 := blt a7 hg; have d2 := bgt a7 hg; replace a7 := bkb a7 hb; clear hb hbox hg; have x4 := d3.out; have w4 := d5.out; have x3 := d2.out; have w3 := d4.out; obtain ⟨t9, t8, t7, r8, r7, r6⟩ := cz3 b2; have x1 := b6.out; have w2 := b5.out; obtain ⟨t6, t5, r5, r4⟩ := cz2 a6)
       have o3 : Aside0 ((((g9.setCell ⟨a9, 0, none⟩ (.int .i64 ((rd_T56 a5 a4).f0))).setCell ⟨a9, 1, none⟩ (.int .i64 ((rd_T56 a5 a4).f1))).setCell ⟨a9, 2, none⟩ (.int .i64 ((rd_T56 a5 a4).f2))).heap[e4]? = some (.cells #[.slice c8 b1.length c5, .slice c7 b0.length c3] 31 (0, 0))) := ⟨bkF a6⟩
       have o2 : Aside0 ((((g9.setCell ⟨a9, 0, none⟩ (.int .i64 ((rd_T56 a5 a4).f0))).setCell ⟨a9, 1, none⟩ (.int .i64 ((rd_T56 a5 a4).f1))).setCell ⟨a9, 2, none⟩ (.int .i64 ((rd_T56 a5 a4).f2))).heap[e3]? = some (.cells #[.slice e2 a8.length d1, .slice (some g6) a5.length d0] 35 (0, 0))) := ⟨bkF a7⟩
       have o1 : Aside0 ((((g9.setCell ⟨a9, 0, none⟩ (.int .i64 ((rd_T56 a5 a4).f0))).setCell ⟨a9, 1, none⟩ (.int .i64 ((rd_T56 a5 a4).f1))).setCell ⟨a9, 2, none⟩ (.int .i64 ((rd_T56 a5 a4).f2))).heap[a9]? = some (.cells #[.int .i64 ((rd_T56 a5 a4).f0), .int .i64 ((rd_T56 a5 a4).f1), .int .i64 ((rd_T56 a5 a4).f2)] 56 (0, 0))) := ⟨bkP b2⟩
       have o0 : Aside0 (Below w.heap.size w (((g9.setCell ⟨a9, 0, none⟩ (.int .i64 ((rd_T56 a5 a4).f0))).setCell ⟨a9, 1, none⟩ (.int .i64 ((rd_T56 a5 a4).f1))).setCell ⟨a9, 2, none⟩ (.int .i64 ((rd_T56 a5 a4).f2)))) := ⟨bb HB⟩
       clear a6 a7 b2 HB
       generalize (((g9.setCell ⟨a9, 0, none⟩ (.int .i64 ((rd_T56 a5 a4).f0))).setCell ⟨a9, 1, none⟩ (.int .i64 ((rd_T56 a5 a4).f1))).setCell ⟨a9, 2, none⟩ (.int .i64 ((rd_T56 a5 a4).f2))) = v7 at o3 o2 o1 o0 ⊢
       have a6 := o3
       have a7 := o2
       have b2 := o1
       have HB := o0
       clear o3 o2 o1 o0
       replace a6 := Aside0.mk (blk_drew a6.out)
       replace a7 := Aside0.mk (blk_drew a7.out)
       replace b2 := Aside0.mk (blk_drew b2.out)
       replace HB := Aside0.mk (below_drew1 HB.out)
       have h5 : 0 ≤ (((rd_T56 a5 a4).f1) : Int) := odt
       have h2 : ((rd_T56 a5 a4).f1) < (a8.length : Int) := odt
       obtain ⟨e7, r2, d7⟩ := Kd.at_int e8.out ((rd_T56 a5 a4).f1) h5 h2
       have g1 := d7
       cases r2
       replace d7 := hxc HB d7
       replace h5 := eq_true h5
       replace h2 := eq_true h2
       have h4 : 0 ≤ (((rd_T56 a5 a4).f2) : Int) := odt
       have h1 : ((rd_T56 a5 a4).f2) < (a8.length : Int) := odt
       obtain ⟨p5, r1, d6⟩ := Kd.at_int e8.out ((rd_T56 a5 a4).f2) h4 h1
       have g0 := d6
       obtain rfl : e7 = p5 := (by injection r1)
       replace d6 := hxc HB d6
       replace h4 := eq_true h4
       replace h1 := eq_true h1
       refine start_ (n := 17) (S := fun w' => w'.cell? ⟨e4, 0, none⟩ = some (.slice c8 b1.length c5) ∧ w'.cell? ⟨e4, 1, none⟩ = some (.slice c7 b0.length c3) ∧ w'.cell? ⟨a9, 0, none⟩ = some (.int .i64 ((rd_T56 a5 a4).f0)) ∧ w'.cell? ⟨a9, 1, none⟩ = some (.int .i64 ((rd_T56 a5 a4).f1)) ∧ w'.cell? ⟨a9, 2, none⟩ = some (.int .i64 ((rd_T56 a5 a4).f2)) ∧ w'.cell? ⟨e3, 0, none⟩ = some (.slice (some e7) a8.length d1) ∧ w'.cell? ⟨e3, 1, none⟩ = some (.slice (some g6) a5.length d0) ∧ w'.cell? (e7.add (((rd_T56 a5 a4).f1)).toNat) = some (.int .i64 (rd a8 ((rd_T56 a5 a4).f1))) ∧ w'.cell? (e7.add (((rd_T56 a5 a4).f2)).toNat) = some (.int .i64 (rd a8 ((rd_T56 a5 a4).f2)))) (ds := []) #[false, false, false, false, false, false, false, false, false, false, false, false, false, false, false, false, false] (by kernel_rfl) rfl rfl ⟨bc a6 0, bc a6 1, bc b2 0, bc b2 1, bc b2 2, bc a7 0, bc a7 1, (hxc HB g1), (hxc HB g0)⟩ (fun hHeld => ?_); refine with_tabW statistic_typed.tab18 statistic_typed.bits18 (fun HT_ HW_ => ?_)
       generalize v7.drew = C6 at a6 a7 b2 HB d7 d6 hHeld ⊢
       refine pu 1 52 (bits 17 0x2) HT_ (h := ?_)
       refine pu 3 54 (bits 17 0xa) HT_ (h := ?_)
       refine pu 5 56 (bits 17 0x2a) HT_ (h := ?_)
       refine pu 9 60 (bits 17 0x22a) HT_ (h := ?_)
       refine pu 11 62 (bits 17 0xa2a) HT_ (h := ?_)
       refine tk 0 51 (bits 17 0xa2b) HT_ HW_ hHeld (hy := by rintro w' ⟨s0, s1, s2, s3, s4, s5, s6, s7, s8⟩; go_simp; with_reducible rfl) (h := ?_)
       refine tk 2 53 (bits 17 0xa2f) HT_ HW_ hHeld (hy := by rintro w' ⟨s0, s1, s2, s3, s4, s5, s6, s7, s8⟩; go_simp; with_reducible rfl) (h := ?_)
       refine tk 4 55 (bits 17 0xa3f) HT_ HW_ hHeld (hy := by rintro w' ⟨s0, s1, s2, s3, s4, s5, s6, s7, s8⟩; go_simp; with_reducible rfl) (h := ?_)
       refine tk 6 57 (bits 17 0xa7f) HT_ HW_ hHeld (hy := by rintro w' ⟨s0, s1, s2, s3, s4, s5, s6, s7, s8⟩; go_simp; with_reducible rfl) (h := ?_)
       refine pu 7 58 (bits 17 0xaff) HT_ (h := ?_)
       refine tk 8 59 (bits 17 0xbff) HT_ HW_ hHeld (hy := by rintro w' ⟨s0, s1, s2, s3, s4, s5, s6, s7, s8⟩; go_simp; with_reducible rfl) (h := ?_)
       refine tk 10 61 (bits 17 0xfff) HT_ HW_ hHeld (hy := by rintro w' ⟨s0, s1, s2, s3, s4, s5, s6, s7, s8⟩; go_simp; with_reducible rfl) (h := ?_)
       refine tk 12 63 (bits 17 0x1fff) HT_ HW_ hHeld (hy := by rintro w' ⟨s0, s1, s2, s3, s4, s5, s6, s7, s8⟩; go_simp; with_reducible rfl) (h := ?_)
       refine pu 13 64 (bits 17 0x3fff) HT_ (h := ?_)
       refine tk 14 65 (bits 17 0x7fff) HT_ HW_ hHeld (hy := by rintro w' ⟨s0, s1, s2, s3, s4, s5, s6, s7, s8⟩; go_simp; with_reducible rfl) (h := ?_)
       refine one_ (i := 15) (N := some 66) #[true, true, true, true, true, true, true, true, true, true, true, true, true, true, true, true, false] rfl rfl (one_of HT_.out (by kernel_rfl)) (by decide) (fun K hK => ?_)
       refine goes_ Tryz.func53 (by kernel_rfl) rfl #[.agg #[.slice c8 b1.length c5, .slice c7 b0.length c3], .int .i64 ((rd_T56 a5 a4).f0), .int .i64 (rd a8 ((rd_T56 a5 a4).f1)), .int .i64 (rd a8 ((rd_T56 a5 a4).f2))] (by rfl) rfl rfl (by (try simp only [List.map_toArray, List.map_cons, List.map_nil]); first | done | rfl | (simp only [List.length_drop, List.length_take]; rfl)) ?_
       with_reducible refine (types_Fits.calls _ _ _ _ _ _ _ _ _ _ _ _ ?p1 ?p0 ?o9 ?o8 w0.out).mono ?_
       (case p1 => exact cb j9 HB)
       (case p0 => exact m2.out)
       (case o9 => exact cb j8 HB)
       (case o8 => exact m1.out)
       rintro e C5 ⟨rfl, hb⟩
       refine ⟨_, rfl, ?_⟩
       replace a6 := bkb a6 hb
       replace a7 := bkb a7 hb
       replace b2 := bkb b2 hb
       replace HB := bstep HB hb
       clear hb
       refine hK.out _ _ ⟨bc a6 0, bc a6 1, bc b2 0, bc b2 1, bc b2 2, bc a7 0, bc a7 1, (hxc HB g1), (hxc HB g0)⟩ (fun hHeld => ?_)
       clear hK K
       refine norm_ (a' := ?_) ?_ ?_
       rotate_left
       ·show Act.put _ (some 66) _ = _
        simp only [Act.put, List.setIfInBounds_toArray, List.set_cons_zero, List.set_cons_succ, i64_w, i32_w]
        rfl
       refine pu 16 67 (bits 17 0x1ffff) HT_ (h := ?_)
       refine done_ (done_of HT_.out (by kernel_rfl)) ?_
       try go_wp2
      ·go_ret
       exact ⟨erf, bb HB⟩
      ·go_roundg k2
       case measure => have := m0.out; have := q9.out; omega
       case rel => exact ⟨(wrap64 (a4 + 1)), eqs, H', ⟨by have := m0.out; have := q9.out; omega⟩, ⟨bk a6⟩, ⟨bk a7⟩, ⟨bb HB⟩⟩
 ·go_ret
  exact ⟨erf, bb HB⟩
mutual
def statistic_Of.l0 : Nat → List Int → Int → Int → List Int → List (S56) → List (S75) → Option ((List (S75)) × (List (S75)) × Int)
 | 0, _, _, _, _, _, _ => none
 | k + 1, q5, v1, j2, b6, c6, c7 => if j2 < v1 then (if 0 ≤ j2 then (if j2 < (q5.length : Int) then ((statistic_counted.f c7 (rd q5 j2) 0 0 1).bind fun e9 => (statistic_Of.l0 k q5 v1 (wrap64 (j2 + 1)) b6 c6 e9)) else (none)) else (none)) else (statistic_Of.l1 k c6 (c6.length : Int) 0 b6 c6 c7 ([] : List (S75)))
def statistic_Of.l1 : Nat → List (S56) → Int → Int → List Int → List (S56) → List (S75) → List (S75) → Option ((List (S75)) × (List (S75)) × Int)
 | 0, _, _, _, _, _, _, _ => none
 | k + 1, e6, v0, c8, b6, c6, c7, h0 => if c8 < v0 then (if 0 ≤ c8 then (if c8 < (e6.length : Int) then (if 0 ≤ ((rd_T56 e6 c8).f1) then (if ((rd_T56 e6 c8).f1) < (b6.length : Int) then (if 0 ≤ ((rd_T56 e6 c8).f2) then (if ((rd_T56 e6 c8).f2) < (b6.length : Int) then ((statistic_counted.f h0 ((rd_T56 e6 c8).f0) (rd b6 ((rd_T56 e6 c8).f1)) (rd b6 ((rd_T56 e6 c8).f2)) 1).bind fun d9 => (statistic_Of.l1 k e6 v0 (wrap64 (c8 + 1)) b6 c6 c7 d9)) else (none)) else (none)) else (none)) else (none)) else (none)) else (none)) else (some (c7, h0, 0))
end
def statistic_Of.f (k : Nat) (b9 : List (S96)) (b8 : List (S101)) (b1 : List Int) (a5 : List (S56)) : Option ((List (S75)) × (List (S75)) × Int) := (statistic_typed.f k b9 b8 b1 a5).bind fun e0 => (if e0 = 0 then (statistic_Of.l0 k b1 (b1.length : Int) 0 b1 a5 ([] : List (S75))) else (some (([] : List (S75)), ([] : List (S75)), e0)))
theorem statistic_Of.mono_l : ∀ k, (∀ y0 y1 y2 y3 y4 y5, LeO (statistic_Of.l0 k y0 y1 y2 y3 y4 y5) (statistic_Of.l0 (k + 1) y0 y1 y2 y3 y4 y5)) ∧ (∀ y0 y1 y2 y3 y4 y5 y6, LeO (statistic_Of.l1 k y0 y1 y2 y3 y4 y5 y6) (statistic_Of.l1 (k + 1) y0 y1 y2 y3 y4 y5 y6))
 | 0 => by refine ⟨?_, ?_⟩ <;> (intros; intro r h; simp [statistic_Of.l0, statistic_Of.l1] at h)
 | k + 1 => by
  obtain ⟨ih0, ih1⟩ := statistic_Of.mono_l k
  refine ⟨?_, ?_⟩ <;> (intros; first | unfold statistic_Of.l0 | unfold statistic_Of.l1)
  all_goals with_reducible repeat' first | exact ih0 .. | exact ih1 .. | exact statistic_typed.mono .. | exact LeO.refl _ | exact LeO.none _ | refine LeO.ite ?_ ?_ | refine LeO.bind ?_ fun _ => ?_
theorem statistic_Of.mono : ∀ a0 a1 a2 a3 k, LeO (statistic_Of.f k a0 a1 a2 a3) (statistic_Of.f (k + 1) a0 a1 a2 a3) := by
 intro a0 a1 a2 a3 k
 obtain ⟨ih0, ih1⟩ := statistic_Of.mono_l k
 unfold statistic_Of.f
 with_reducible repeat' first | exact ih0 .. | exact ih1 .. | exact statistic_typed.mono .. | exact LeO.refl _ | exact LeO.none _ | refine LeO.ite ?_ ?_ | refine LeO.bind ?_ fun _ => ?_
def statistic_Of.T13 : Bool × List (List Nat × List Nat) := (true, [([], []), ([0], [0]), ([], []), ([2], [2]), ([], []), ([4], [4]), ([], []), ([6], [6]), ([5, 7], [5, 7]), ([8], [8]), ([], []), ([10], [10]), ([], []), ([12], [12]), ([11, 13], [11, 13]), ([14], [14]), ([3, 9, 15], [3, 9, 15]), ([1, 16], [1, 16]), ([0, 1, 2, 3, 4, 5, 6, 7, 8, 9, 10, 11, 12, 13, 14, 15, 16, 17], []), ([18, 17, 17, 0, 1, 2, 3, 4, 5, 6, 7, 8, 9, 10, 11, 12, 13, 14, 15, 16, 17], [17, 18])])
def statistic_Of.B13 : List Nat := [0, 1, 0, 4, 0, 16, 0, 64, 240, 496, 0, 1024, 0, 4096, 15360, 31744, 65532, 131071, 262143, 524287]
theorem statistic_Of.tab13 : rtab .any (opsOf Tryz.f14 13) = statistic_Of.T13 := by kernel_rfl
theorem statistic_Of.bits13 : waitsOk statistic_Of.T13.2 statistic_Of.B13 = true := by kernel_rfl
theorem statistic_Of.calls (k : Nat) (e5 : Option Addr) (e2 : Nat) (b9 : List (S96)) (e4 : Option Addr) (e1 : Nat) (b8 : List (S101)) (e3 : Option Addr) (d0 : Nat) (b1 : List Int) (g0 : Option Addr) (c9 : Nat) (a5 : List (S56)) (r1 : List (S75)) (r2 : List (S75)) (r3 : Int) (w : World) (n8 : Kd.C k96 w e5 b9.length b9) (o2 : b9.length ≤ e2) (n7 : Kd.C k101 w e4 b8.length b8) (o1 : b8.length ≤ e1) (n6 : Kd.C (Kd.int .i64) w e3 b1.length b1) (o0 : b1.length ≤ d0) (n5 : Kd.C k56 w g0 a5.length a5) (n9 : a5.length ≤ c9) (h : statistic_Of.f k b9 b8 b1 a5 = some (r1, r2, r3)) :
  Calls Tryz.prog 14 #[.agg #[.slice e5 b9.length e2, .slice e4 b8.length e1], .agg #[.slice e3 b1.length d0, .slice g0 a5.length c9]] w fun e w' => ∃ q7 q6 : Value, e = .returned (.tuple #[.agg #[q7, q6], .int .i64 r3]) ∧ Kd.R k75 75 w' w.heap.size (fun k_ => some k_ ≠ (q6 : Value).ownBlock) q7 r1 ∧ Kd.R k75 75 w' w.heap.size (fun k_ => some k_ ≠ (q7 : Value).ownBlock) q6 r2 ∧ Below w.heap.size w w' := by
 have hu31 := Tryz.underlying31
 have hu35 := Tryz.underlying35
 have hu46 := Tryz.underlying46
 have hu75 := Tryz.underlying75
 have hu56 := Tryz.underlying56
 have t5 := Aside0.mk n8
 have t9 := Aside0.mk o2
 clear n8 o2
 have t4 := Aside0.mk n7
 have t8 := Aside0.mk o1
 clear n7 o1
 have g9 := Aside0.mk n6
 have t7 := Aside0.mk o0
 clear n6 o0
 have o5 := Aside0.mk n5
 have t6 := Aside0.mk n9
 clear n5 n9
 have HB := Aside0.mk (Below.refl w.heap.size w)
 have H : ((statistic_typed.f k b9 b8 b1 a5).bind fun e0 => (if e0 = 0 then (statistic_Of.l0 k b1 (b1.length : Int) 0 b1 a5 ([] : List (S75))) else (some (([] : List (S75)), ([] : List (S75)), e0)))) = some (r1, r2, r3) := h
 clear h
 obtain ⟨e0, A3, H⟩ := obA H
 by_cases c4 : e0 = 0
 rw [if_pos c4] at H
 have t0 := beq_iff_eq.mpr c4
 have s9 := bne_eq_false_iff_eq.mpr c4
 clear c4
 have H' := Aside0.mk H
 clear H
 rotate_left
 rw [if_neg c4] at H
 have t0 := beq_eq_false_iff_ne.mpr c4
 have s9 := bne_iff_ne.mpr c4
 simp only [Option.some.injEq, Prod.mk.injEq] at H
 obtain ⟨rfl, rfl, rfl⟩ := H
 all_goals
  go_enter Tryz.func14, Tryz.ntmps14
  go_wp2_with (first | ((with_reducible refine gate_dst (N := 2) rfl ?_); refine be 2 #[.slice e5 b9.length e2, .slice e4 b8.length e1] 31 ?_; intro j1 hg J7 hbox hb; have a8 := Aside0.mk (hbox); have J0 := bsz HB hg; replace HB := bstep HB hb; clear hb hbox hg) | ((with_reducible refine gate_dst (N := 3) rfl ?_); refine be 3 #[.slice e3 b1.length d0, .slice g0 a5.length c9] 35 ?_; intro e8 hg J6 hbox hb; have a7 := Aside0.mk (hbox); have I9 := bsz HB hg; replace HB := bstep HB hb; have g7 := blt a8 hg; have g5 := bgt a8 hg; replace a8 := bkb a8 hb; clear hb hbox hg) | ((with_reducible refine gate_dst (N := 4) rfl ?_); refine be 4 #[.slice none 0 0, .slice none 0 0] 46 ?_; intro c5 hg J5 hbox hb; have b0 := Aside0.mk (hbox); have I8 := bsz HB hg; replace HB := bstep HB hb; have g6 := blt a8 hg; have g4 := bgt a8 hg; replace a8 := bkb a8 hb; have d5 := blt a7 hg; have d4 := bgt a7 hg; replace a7 := bkb a7 hb; clear hb hbox hg; have F9 := g7.out; have E0 := g5.out; have F8 := g6.out; have D9 := g4.out; obtain ⟨q0, p9, p2, p1⟩ := cz2 a8; have F7 := d5.out; have D8 := d4.out; obtain ⟨p8, p7, p0, o9⟩ := cz2 a7) | ((with_reducible refine gate_callee (f := 40) rfl ?_); refine gl 14 Tryz.func40 #[.agg #[.slice e5 b9.length e2, .slice e4 b8.length e1], .agg #[.slice e3 b1.length d0, .slice g0 a5.length c9]] (h := ?_); (with_reducible refine (statistic_typed.calls _ _ _ _ _ _ _ _ _ _ _ _ _ _ _ (cb t5 HB) t9.out (cb t4 HB) t8.out (cb g9 HB) t7.out (cb o5 HB) t6.out A3.out).mono ?_); rintro e J4 ⟨rfl, hb⟩; refine ⟨_, rfl, ?_⟩; replace a8 := bkb a8 hb; replace a7 := bkb a7 hb; replace b0 := bkb b0 hb; replace HB := bstep HB hb; clear hb; obtain ⟨C0, A9, x9, x8⟩ := cz2 b0) | ((with_reducible refine gate_dst (N := 7) rfl ?_); refine be 7 #[.slice none 0 0, .slice none 0 0] 46 ?_; intro c3 hg L0 hbox hb; have a9 := Aside0.mk (hbox); have I7 := bsz HB hg; replace HB := bstep HB hb; have d6 := blt a8 hg; have d2 := bgt a8 hg; replace a8 := bkb a8 hb; have c2 := blt a7 hg; have c1 := bgt a7 hg; replace a7 := bkb a7 hb; have d3 := blt b0 hg; have d1 := bgt b0 hg; replace b0 := bkb b0 hb; clear hb hbox hg; have H5 := c2.out; have F6 := c1.out; obtain ⟨q4, q3, p6, p5⟩ := cz2 a7))
 ·refine bodyPost_ret (results_ct rfl _ _ c5 46 #[.slice none 0 0, .slice none 0 0] (0, 0) _ rfl (bkP b0) Tryz.underlying46 rfl (by kernel_rfl)) rfl ?_
  exact ⟨_, _, erf, by first | exact Kd.R_nil _ _ _ _ _ | exact Kd.N_nil _ _ _ _ _ | exact Kd.V_nil _ _ _ _ _ | exact Kd.Q_nil _ _ _ _ _ | exact Kd.S_nil _ _ _ _ _, by first | exact Kd.R_nil _ _ _ _ _ | exact Kd.N_nil _ _ _ _ _ | exact Kd.V_nil _ _ _ _ _ | exact Kd.Q_nil _ _ _ _ _ | exact Kd.S_nil _ _ _ _ _, bb HB⟩
 ·go_loopg [22] k (fun kq D5 w' => ∃ (c0 : Int) (b3 : List (S75)) (b5 : Value), D5 = .int .i64 c0 ∧ Aside0 (statistic_Of.l0 kq b1 (b1.length : Int) c0 b1 a5 b3 = some (r1, r2, r3)) ∧ Aside0 (kq ≤ k) ∧ Aside0 (Kd.R k75 75 w' w.heap.size (fun _ => True) b5 b3) ∧ Aside0 (w'.heap[j1]? = some (.cells #[(.slice e5 b9.length e2), (.slice e4 b8.length e1)] 31 (0, 0))) ∧ Aside0 (w'.heap[e8]? = some (.cells #[(.slice e3 b1.length d0), (.slice g0 a5.length c9)] 35 (0, 0))) ∧ Aside0 (w'.heap[c5]? = some (.cells #[(.slice none 0 0), (.slice none 0 0)] 46 (0, 0))) ∧ Aside0 (w'.heap[c3]? = some (.cells #[b5, (.slice none 0 0)] 46 (0, 0))) ∧ Aside0 (Below w.heap.size w w'))
  case atStart => exact ⟨(0), (([] : List (S75))), (.slice none 0 0), eqs, H', ⟨Nat.le_refl _⟩, ⟨by first | exact Kd.R_nil _ _ _ _ _ | exact Kd.N_nil _ _ _ _ _ | exact Kd.V_nil _ _ _ _ _ | exact Kd.Q_nil _ _ _ _ _ | exact Kd.S_nil _ _ _ _ _⟩, ⟨bk a8⟩, ⟨bk a7⟩, ⟨bk b0⟩, ⟨bk a9⟩, ⟨bb HB⟩⟩
  case round =>
   clear H' t0 s9 q0 p9 p8 p7 q4 q3 p2 p1 p0 o9 p6 p5
   obtain ⟨c0, b3, b5, rfl, HA, o8, HO_255000, a8, a7, b0, a9, HB⟩ := hrel
   cases gk with
   | zero => exact absurd HA.out (by simp [statistic_Of.l0])
   | succ k1 =>
    have H := HA.out
    clear HA
    simp only [statistic_Of.l0] at H
    by_cases h8 : c0 < (b1.length : Int)
    ·rw [if_pos h8] at H
     have o3 := decide_eq_true h8
     clear h8
     obtain ⟨v9, H⟩ := itn H
     have I4 := decide_eq_true v9
     clear v9
     obtain ⟨v8, H⟩ := itn H
     have I3 := decide_eq_true v8
     clear v8
     obtain ⟨e9, D7, H⟩ := obA H
     have H' := Aside0.mk H
     clear H
     have m6 : 0 ≤ c0 := odt
     have m2 : c0 < (b1.length : Int) := odt
     obtain ⟨I5, w5, h4⟩ := Kd.at_int g9.out c0 m6 m2
     cases w5
     replace h4 := hxc HB h4
     replace m6 := eq_true m6
     replace m2 := eq_true m2
     have H4 := d2.out
     have F5 := d6.out
     have H3 := c1.out
     have F4 := c2.out
     have H2 := d1.out
     have F3 := d3.out
     obtain ⟨D1, D0, A8, A7⟩ := cz2 a9
     obtain ⟨w7, w6, eo25⟩ := Kd.R_slice HO_255000.out
     subst eo25
     go_wp2_with ((with_reducible refine gate_callee (f := 41) rfl ?_); refine gl 30 Tryz.func41 #[.slice w7 b3.length w6, .agg #[.int .i64 (rd b1 c0), .int .i64 0, .int .i64 0, .int .i64 1]] (h := ?_); (with_reducible refine (statistic_counted.calls _ _ b3 (rd b1 c0) 0 0 1 e9 _ ?j0 ?h9 D7.out).mono ?_); (case j0 => repeat (first | exact (Kd.R_reads' HO_255000.out).2.2 | (with_reducible refine Kd.C_alloc ?_ _) | (with_reducible refine Kd.C_drewN ?_ _) | (with_reducible refine Kd.C_drew ?_))); (case h9 => exact (Kd.R_reads' HO_255000.out).2.1); rintro e J9 ⟨J2, rfl, g1, hb⟩; refine ⟨_, rfl, ?_⟩; have o7 := Aside0.mk (Kd.R_lower (Kd.R_new' g1 (Kd.R_lt (kR HO_255000))) (below_size (bb HB))); replace HO_255000 := Aside0.mk (Kd.R_elder' (kR HO_255000) (Kd.R_base g1) hb); replace a8 := bkb a8 hb; replace a7 := bkb a7 hb; replace b0 := bkb b0 hb; replace a9 := bkb a9 hb; replace HB := bstep HB hb; clear hb g1; obtain ⟨t1, r9, eo27⟩ := Kd.R_slice o7.out; subst eo27; obtain ⟨C9, C8, A6, A5⟩ := cz2 a9)
     go_roundg k1
     case measure => have := o8.out; omega
     case rel => exact ⟨(wrap64 (c0 + 1)), (e9), (.slice t1 e9.length r9), eqs, H', ⟨by have := o8.out; omega⟩, ⟨by (with_reducible repeat (first | apply Kd.R_alloc | apply Kd.R_drewN | apply Kd.R_drew)); exact Kd.R_mono (Kd.R_far (p := ⟨c3, 0, none⟩) (Kd.R_types o7.out a9.out (by decide)) (fun _ hk => hk.2) (.slice t1 e9.length r9)) (fun _ hk => trivial)⟩, ⟨bkF a8⟩, ⟨bkF a7⟩, ⟨bkF b0⟩, ⟨bkP a9⟩, ⟨bb HB⟩⟩
    rw [if_neg h8] at H
    have o3 := decide_eq_false h8
    clear h8
    have H' := Aside0.mk H
    clear H
    have H1 := g5.out
    have F2 := g7.out
    have H0 := d5.out
    have F1 := d4.out
    have G9 := c2.out
    have F0 := c1.out
    obtain ⟨q2, q1, p4, p3⟩ := cz2 a7
    go_wp2
    go_loopg [36] k1 (fun kq D4 w' => ∃ (a4 : Int) (b2 : List (S75)) (b7 : Value), D4 = .int .i64 a4 ∧ Aside0 (statistic_Of.l1 kq a5 (a5.length : Int) a4 b1 a5 b3 b2 = some (r1, r2, r3)) ∧ Aside0 (kq ≤ k1) ∧ Aside0 (Kd.R k75 75 w' w.heap.size (fun k_ => some k_ ≠ (b7 : Value).ownBlock) b5 b3) ∧ Aside0 (Kd.R k75 75 w' w.heap.size (fun k_ => some k_ ≠ (b5 : Value).ownBlock) b7 b2) ∧ Aside0 (w'.heap[j1]? = some (.cells #[(.slice e5 b9.length e2), (.slice e4 b8.length e1)] 31 (0, 0))) ∧ Aside0 (w'.heap[e8]? = some (.cells #[(.slice e3 b1.length d0), (.slice g0 a5.length c9)] 35 (0, 0))) ∧ Aside0 (w'.heap[c5]? = some (.cells #[(.slice none 0 0), (.slice none 0 0)] 46 (0, 0))) ∧ Aside0 (w'.heap[c3]? = some (.cells #[b5, b7] 46 (0, 0))) ∧ Aside0 (Below w.heap.size w w'))
    case atStart => exact ⟨(0), (([] : List (S75))), (.slice none 0 0), eqs, H', ⟨Nat.le_refl _⟩, ⟨by (with_reducible repeat (first | apply Kd.R_alloc | apply Kd.R_drewN | apply Kd.R_drew)); exact Kd.R_mono HO_255000.out (fun _ hk => (by simp [Value.ownBlock]))⟩, ⟨by first | exact Kd.R_nil _ _ _ _ _ | exact Kd.N_nil _ _ _ _ _ | exact Kd.V_nil _ _ _ _ _ | exact Kd.Q_nil _ _ _ _ _ | exact Kd.S_nil _ _ _ _ _⟩, ⟨bk a8⟩, ⟨bk a7⟩, ⟨bk b0⟩, ⟨bk a9⟩, ⟨bb HB⟩⟩
    case round =>
     clear H' o3 q2 q1 p4 p3
     obtain ⟨a4, b2, b7, rfl, HA, w0, HO_255000, HO_255001, a8, a7, b0, a9, HB⟩ := hrel
     cases gk with
     | zero => exact absurd HA.out (by simp [statistic_Of.l1])
     | succ k2 =>
      have H := HA.out
      clear HA
      simp only [statistic_Of.l1] at H
      by_cases h7 : a4 < (a5.length : Int)
      rotate_left
      ·rw [if_neg h7] at H
       have t2 := decide_eq_false h7
       clear h7
       simp only [Option.some.injEq, Prod.mk.injEq] at H
       obtain ⟨rfl, rfl, rfl⟩ := H
       have G4 := d2.out
       have E5 := d6.out
       have G3 := c1.out
       have E4 := c2.out
       have G2 := d1.out
       have E3 := d3.out
       obtain ⟨C4, C3, A0, y9⟩ := cz2 a9
       obtain ⟨n2, m8, eo57⟩ := Kd.R_slice HO_255000.out
       subst eo57
       have G1 := g4.out
       have E2 := g6.out
       have G0 := d4.out
       have E1 := d5.out
       obtain ⟨C2, C1, y8, y7⟩ := cz2 b0
       obtain ⟨n1, m7, eo61⟩ := Kd.R_slice HO_255001.out
       subst eo61
       go_wp2
       refine bodyPost_ret (results_ct rfl _ _ c5 46 #[.slice n2 b3.length m8, .slice n1 b2.length m7] (0, 0) _ rfl (bkP b0) Tryz.underlying46 rfl (by kernel_rfl)) rfl ?_
       exact ⟨_, _, erf, by (with_reducible repeat (first | apply Kd.R_alloc | apply Kd.R_drewN | apply Kd.R_drew)); exact Kd.R_mono (Kd.R_far (p := ⟨c5, 1, none⟩) (Kd.R_far (p := ⟨c5, 0, none⟩) (Kd.R_types HO_255000.out b0.out (by decide)) (fun _ hk => hk.2) (.slice n2 b3.length m8)) (fun _ hk => hk.2) (.slice n1 b2.length m7)) (fun _ hk => hk.1), by (with_reducible repeat (first | apply Kd.R_alloc | apply Kd.R_drewN | apply Kd.R_drew)); exact Kd.R_mono (Kd.R_far (p := ⟨c5, 1, none⟩) (Kd.R_far (p := ⟨c5, 0, none⟩) (Kd.R_types HO_255001.out b0.out (by decide)) (fun _ hk => hk.2) (.slice n2 b3.length m8)) (fun _ hk => hk.2) (.slice n1 b2.length m7)) (fun _ hk => hk.1), bb HB⟩
      rw [if_pos h7] at H
      have t2 := decide_eq_true h7
      clear h7
      obtain ⟨v7, H⟩ := itn H
      have I2 := decide_eq_true v7
      clear v7
      obtain ⟨v6, H⟩ := itn H
      have I1 := decide_eq_true v6
      clear v6
      obtain ⟨v5, H⟩ := itn H
      have I0 := decide_eq_true v5
      clear v5
      obtain ⟨v4, H⟩ := itn H
      have H9 := decide_eq_true v4
      clear v4
      obtain ⟨v3, H⟩ := itn H
      have H8 := decide_eq_true v3
      clear v3
      obtain ⟨v2, H⟩ := itn H
      have H7 := decide_eq_true v2
      clear v2
      obtain ⟨d9, D6, H⟩ := obA H
      have H' := Aside0.mk H
      clear H
      have m5 : 0 ≤ a4 := odt
      have m1 : a4 < (a5.length : Int) := odt
      obtain ⟨o4, w4, h3, h2, h1⟩ := at_T56 o5.out a4 m5 m1
      cases w4
      replace h3 := hxc HB h3
      replace h2 := hxc HB h2
      replace h1 := hxc HB h1
      replace m5 := eq_true m5
      replace m1 := eq_true m1
      try go_wp2_with ((with_reducible refine gate_dst (N := 11) rfl ?_); refine be 11 #[.int .i64 0, .int .i64 0, .int .i64 0] 56 ?_; intro a6 hg e7 hbox hb; replace HO_255000 := kRb HO_255000 hb; replace HO_255001 := kRb HO_255001 hb; have b4 := Aside0.mk (hbox); have I6 := bsz HB hg; replace HB := bstep HB hb; have j8 := blt a8 hg; have j5 := bgt a8 hg; replace a8 := bkb a8 hb; have j7 := blt a7 hg; have j4 := bgt a7 hg; replace a7 := bkb a7 hb; have j6 := blt b0 hg; have j3 := bgt b0 hg; replace b0 := bkb b0 hb; have g3 := blt a9 hg; have g2 := bgt a9 hg; replace a9 := bkb a9 hb; clear hb hbox hg; have G8 := j5.out; have E9 := j8.out; have G7 := j4.out; have E8 := j7.out; have G6 := j3.out; have E7 := j6.out; have G5 := g2.out; have E6 := g3.out; obtain ⟨C7, C6, C5, A4, A2, A1⟩ := cz3 b4)
      have r8 : Aside0 (Kd.R k75 75 (((e7.setCell ⟨a6, 0, none⟩ (.int .i64 ((rd_T56 a5 a4).f0))).setCell ⟨a6, 1, none⟩ (.int .i64 ((rd_T56 a5 a4).f1))).setCell ⟨a6, 2, none⟩ (.int .i64 ((rd_T56 a5 a4).f2))) w.heap.size (fun k_ => some k_ ≠ (b7 : Value).ownBlock) b5 b3) := ⟨by (with_reducible repeat (first | apply Kd.R_alloc | apply Kd.R_drewN | apply Kd.R_drew)); exact Kd.R_mono (Kd.R_far (p := ⟨a6, 2, none⟩) (Kd.R_far (p := ⟨a6, 1, none⟩) (Kd.R_far (p := ⟨a6, 0, none⟩) (Kd.R_types HO_255000.out b4.out (by decide)) (fun _ hk => hk.2) (.int .i64 ((rd_T56 a5 a4).f0))) (fun _ hk => hk.2) (.int .i64 ((rd_T56 a5 a4).f1))) (fun _ hk => hk.2) (.int .i64 ((rd_T56 a5 a4).f2))) (fun _ hk => hk.1)⟩
      have r7 : Aside0 (Kd.R k75 75 (((e7.setCell ⟨a6, 0, none⟩ (.int .i64 ((rd_T56 a5 a4).f0))).setCell ⟨a6, 1, none⟩ (.int .i64 ((rd_T56 a5 a4).f1))).setCell ⟨a6, 2, none⟩ (.int .i64 ((rd_T56 a5 a4).f2))) w.heap.size (fun k_ => some k_ ≠ (b5 : Value).ownBlock) b7 b2) := ⟨by (with_reducible repeat (first | apply Kd.R_alloc | apply Kd.R_drewN | apply Kd.R_drew)); exact Kd.R_mono (Kd.R_far (p := ⟨a6, 2, none⟩) (Kd.R_far (p := ⟨a6, 1, none⟩) (Kd.R_far (p := ⟨a6, 0, none⟩) (Kd.R_types HO_255001.out b4.out (by decide)) (fun _ hk => hk.2) (.int .i64 ((rd_T56 a5 a4).f0))) (fun _ hk => hk.2) (.int .i64 ((rd_T56 a5 a4).f1))) (fun _ hk => hk.2) (.int .i64 ((rd_T56 a5 a4).f2))) (fun _ hk => hk.1)⟩
      have r6 : Aside0 ((((e7.setCell ⟨a6, 0, none⟩ (.int .i64 ((rd_T56 a5 a4).f0))).setCell ⟨a6, 1, none⟩ (.int .i64 ((rd_T56 a5 a4).f1))).setCell ⟨a6, 2, none⟩ (.int .i64 ((rd_T56 a5 a4).f2))).heap[j1]? = some (.cells #[.slice e5 b9.length e2, .slice e4 b8.length e1] 31 (0, 0))) := ⟨bkF a8⟩
      have r5 : Aside0 ((((e7.setCell ⟨a6, 0, none⟩ (.int .i64 ((rd_T56 a5 a4).f0))).setCell ⟨a6, 1, none⟩ (.int .i64 ((rd_T56 a5 a4).f1))).setCell ⟨a6, 2, none⟩ (.int .i64 ((rd_T56 a5 a4).f2))).heap[e8]? = some (.cells #[.slice e3 b1.length d0, .slice (some o4) a5.length c9] 35 (0, 0))) := ⟨bkF a7⟩
      have r4 : Aside0 ((((e7.setCell ⟨a6, 0, none⟩ (.int .i64 ((rd_T56 a5 a4).f0))).setCell ⟨a6, 1, none⟩ (.int .i64 ((rd_T56 a5 a4).f1))).setCell ⟨a6, 2, none⟩ (.int .i64 ((rd_T56 a5 a4).f2))).heap[c5]? = some (.cells #[.slice none 0 0, .slice none 0 0] 46 (0, 0))) := ⟨bkF b0⟩
      have r0 : Aside0 ((((e7.setCell ⟨a6, 0, none⟩ (.int .i64 ((rd_T56 a5 a4).f0))).setCell ⟨a6, 1, none⟩ (.int .i64 ((rd_T56 a5 a4).f1))).setCell ⟨a6, 2, none⟩ (.int .i64 ((rd_T56 a5 a4).f2))).heap[c3]? = some (.cells #[b5, b7] 46 (0, 0))) := ⟨bkF a9⟩
      have q9 : Aside0 ((((e7.setCell ⟨a6, 0, none⟩ (.int .i64 ((rd_T56 a5 a4).f0))).setCell ⟨a6, 1, none⟩ (.int .i64 ((rd_T56 a5 a4).f1))).setCell ⟨a6, 2, none⟩ (.int .i64 ((rd_T56 a5 a4).f2))).heap[a6]? = some (.cells #[.int .i64 ((rd_T56 a5 a4).f0), .int .i64 ((rd_T56 a5 a4).f1), .int .i64 ((rd_T56 a5 a4).f2)] 56 (0, 0))) := ⟨bkP b4⟩
      have q8 : Aside0 (Below w.heap.size w (((e7.setCell ⟨a6, 0, none⟩ (.int .i64 ((rd_T56 a5 a4).f0))).setCell ⟨a6, 1, none⟩ (.int .i64 ((rd_T56 a5 a4).f1))).setCell ⟨a6, 2, none⟩ (.int .i64 ((rd_T56 a5 a4).f2)))) := ⟨bb HB⟩
      clear HO_255000 HO_255001 a8 a7 b0 a9 b4 HB
      generalize (((e7.setCell ⟨a6, 0, none⟩ (.int .i64 ((rd_T56 a5 a4).f0))).setCell ⟨a6, 1, none⟩ (.int .i64 ((rd_T56 a5 a4).f1))).setCell ⟨a6, 2, none⟩ (.int .i64 ((rd_T56 a5 a4).f2))) = D3 at r8 r7 r6 r5 r4 r0 q9 q8 ⊢
      have HO_255000 := r8
      have HO_255001 := r7
      have a8 := r6
      have a7 := r5
      have b0 := r4
      have a9 := r0
      have b4 := q9
      have HB := q8
      clear r8 r7 r6 r5 r4 r0 q9 q8
      replace HO_255000 := Aside0.mk (Kd.R_drew HO_255000.out)
      replace HO_255001 := Aside0.mk (Kd.R_drew HO_255001.out)
      replace a8 := Aside0.mk (blk_drew a8.out)
      replace a7 := Aside0.mk (blk_drew a7.out)
      replace b0 := Aside0.mk (blk_drew b0.out)
      replace a9 := Aside0.mk (blk_drew a9.out)
      replace b4 := Aside0.mk (blk_drew b4.out)
      replace HB := Aside0.mk (below_drew1 HB.out)
      have m4 : 0 ≤ (((rd_T56 a5 a4).f1) : Int) := odt
      have m0 : ((rd_T56 a5 a4).f1) < (b1.length : Int) := odt
      obtain ⟨g8, w3, d8⟩ := Kd.at_int g9.out ((rd_T56 a5 a4).f1) m4 m0
      have h6 := d8
      cases w3
      replace d8 := hxc HB d8
      replace m4 := eq_true m4
      replace m0 := eq_true m0
      have m3 : 0 ≤ (((rd_T56 a5 a4).f2) : Int) := odt
      have j9 : ((rd_T56 a5 a4).f2) < (b1.length : Int) := odt
      obtain ⟨t3, w2, d7⟩ := Kd.at_int g9.out ((rd_T56 a5 a4).f2) m3 j9
      have h5 := d7
      obtain rfl : g8 = t3 := (by injection w2)
      replace d7 := hxc HB d7
      replace m3 := eq_true m3
      replace j9 := eq_true j9
      obtain ⟨n4, n0, eo49⟩ := Kd.R_slice HO_255001.out
      (first | subst eo49 | (injection eo49 with f1_ f2_ f3_; have f4_ := f1_.symm; have f5_ := f3_.symm; clear f1_ f2_ f3_; subst f4_; subst f5_))
      refine start_ (n := 20) (S := fun w' => w'.cell? ⟨c3, 0, none⟩ = some (b5) ∧ w'.cell? ⟨c3, 1, none⟩ = some (.slice n4 b2.length n0) ∧ w'.cell? ⟨a6, 0, none⟩ = some (.int .i64 ((rd_T56 a5 a4).f0)) ∧ w'.cell? ⟨a6, 1, none⟩ = some (.int .i64 ((rd_T56 a5 a4).f1)) ∧ w'.cell? ⟨a6, 2, none⟩ = some (.int .i64 ((rd_T56 a5 a4).f2)) ∧ w'.cell? ⟨e8, 0, none⟩ = some (.slice (some g8) b1.length d0) ∧ w'.cell? ⟨e8, 1, none⟩ = some (.slice (some o4) a5.length c9) ∧ w'.cell? (g8.add (((rd_T56 a5 a4).f1)).toNat) = some (.int .i64 (rd b1 ((rd_T56 a5 a4).f1))) ∧ w'.cell? (g8.add (((rd_T56 a5 a4).f2)).toNat) = some (.int .i64 (rd b1 ((rd_T56 a5 a4).f2)))) (ds := [19]) #[false, false, false, false, false, false, false, false, false, false, false, false, false, false, false, false, false, false, false, false] (by kernel_rfl) rfl rfl ⟨bc a9 0, bc a9 1, bc b4 0, bc b4 1, bc b4 2, bc a7 0, bc a7 1, (hxc HB h6), (hxc HB h5)⟩ (fun hHeld => ?_); refine with_tabW statistic_Of.tab13 statistic_Of.bits13 (fun HT_ HW_ => ?_)
      generalize D3.drew = J8 at HO_255000 HO_255001 a8 a7 b0 a9 b4 HB d8 d7 hHeld ⊢
      refine pu 0 40 (bits 20 0x1) HT_ (h := ?_)
      refine pu 2 42 (bits 20 0x5) HT_ (h := ?_)
      refine pu 4 44 (bits 20 0x15) HT_ (h := ?_)
      refine pu 6 46 (bits 20 0x55) HT_ (h := ?_)
      refine pu 10 50 (bits 20 0x455) HT_ (h := ?_)
      refine pu 12 52 (bits 20 0x1455) HT_ (h := ?_)
      refine tk 1 41 (bits 20 0x1457) HT_ HW_ hHeld (hy := by rintro w' ⟨s0, s1, s2, s3, s4, s5, s6, s7, s8⟩; go_simp; with_reducible rfl) (h := ?_)
      refine tk 3 43 (bits 20 0x145f) HT_ HW_ hHeld (hy := by rintro w' ⟨s0, s1, s2, s3, s4, s5, s6, s7, s8⟩; go_simp; with_reducible rfl) (h := ?_)
      refine tk 5 45 (bits 20 0x147f) HT_ HW_ hHeld (hy := by rintro w' ⟨s0, s1, s2, s3, s4, s5, s6, s7, s8⟩; go_simp; with_reducible rfl) (h := ?_)
      refine tk 7 47 (bits 20 0x14ff) HT_ HW_ hHeld (hy := by rintro w' ⟨s0, s1, s2, s3, s4, s5, s6, s7, s8⟩; go_simp; with_reducible rfl) (h := ?_)
      refine pu 8 48 (bits 20 0x15ff) HT_ (h := ?_)
      refine tk 9 49 (bits 20 0x17ff) HT_ HW_ hHeld (hy := by rintro w' ⟨s0, s1, s2, s3, s4, s5, s6, s7, s8⟩; go_simp; with_reducible rfl) (h := ?_)
      refine tk 11 51 (bits 20 0x1fff) HT_ HW_ hHeld (hy := by rintro w' ⟨s0, s1, s2, s3, s4, s5, s6, s7, s8⟩; go_simp; with_reducible rfl) (h := ?_)
      refine tk 13 53 (bits 20 0x3fff) HT_ HW_ hHeld (hy := by rintro w' ⟨s0, s1, s2, s3, s4, s5, s6, s7, s8⟩; go_simp; with_reducible rfl) (h := ?_)
      refine pu 14 54 (bits 20 0x7fff) HT_ (h := ?_)
      refine tk 15 55 (bits 20 0xffff) HT_ HW_ hHeld (hy := by rintro w' ⟨s0, s1, s2, s3, s4, s5, s6, s7, s8⟩; go_simp; with_reducible rfl) (h := ?_)
      refine pu 16 56 (bits 20 0x1ffff) HT_ (h := ?_)
      refine one_ (i := 17) (N := some 57) #[true, true, true, true, true, true, true, true, true, true, true, true, true, true, true, true, true, true, false, false] rfl rfl (one_of HT_.out (by kernel_rfl)) (by decide) (fun K hK => ?_)
      refine goes_ Tryz.func41 (by kernel_rfl) rfl #[.slice n4 b2.length n0, .agg #[.int .i64 ((rd_T56 a5 a4).f0), .int .i64 (rd b1 ((rd_T56 a5 a4).f1)), .int .i64 (rd b1 ((rd_T56 a5 a4).f2)), .int .i64 1]] (by rfl) rfl rfl (by (try simp only [List.map_toArray, List.map_cons, List.map_nil]); first | done | rfl | (simp only [List.length_drop, List.length_take]; rfl)) ?_
      with_reducible refine (statistic_counted.calls _ _ b2 ((rd_T56 a5 a4).f0) (rd b1 ((rd_T56 a5 a4).f1)) (rd b1 ((rd_T56 a5 a4).f2)) 1 d9 _ ?j0 ?h9 D6.out).mono ?_
      (case j0 => repeat (first | exact (Kd.R_reads' HO_255001.out).2.2 | (with_reducible refine Kd.C_alloc ?_ _) | (with_reducible refine Kd.C_drewN ?_ _) | (with_reducible refine Kd.C_drew ?_)))
      (case h9 => exact (Kd.R_reads' HO_255001.out).2.1)
      rintro e D2 ⟨J1, rfl, g1, hb⟩
      refine ⟨_, rfl, ?_⟩
      have o6 := Aside0.mk (Kd.R_lower (Kd.R_new' (Kd.R_new' g1 (Kd.R_lt (kR HO_255000))) (Kd.R_lt (kR HO_255001))) (below_size (bb HB)))
      replace HO_255000 := Aside0.mk (Kd.R_elder' (kR HO_255000) (Kd.R_base g1) hb)
      replace HO_255001 := Aside0.mk (Kd.R_elder' (kR HO_255001) (Kd.R_base g1) hb)
      replace a8 := bkb a8 hb
      replace a7 := bkb a7 hb
      replace b0 := bkb b0 hb
      replace a9 := bkb a9 hb
      replace b4 := bkb b4 hb
      replace HB := bstep HB hb
      clear hb g1
      obtain ⟨n3, m9, eo51⟩ := Kd.R_slice o6.out
      (first | subst eo51 | (injection eo51 with f1_ f2_ f3_; have f4_ := f1_.symm; have f5_ := f3_.symm; clear f1_ f2_ f3_; subst f4_; subst f5_))
      refine hK.out _ _ ⟨bc a9 0, bc a9 1, bc b4 0, bc b4 1, bc b4 2, bc a7 0, bc a7 1, (hxc HB h6), (hxc HB h5)⟩ (fun hHeld => ?_)
      clear hK K
      refine norm_ (a' := ?_) ?_ ?_
      rotate_left
      ·show Act.put _ (some 57) _ = _
       simp only [Act.put, List.setIfInBounds_toArray, List.set_cons_zero, List.set_cons_succ, i64_w, i32_w]
       rfl
      refine pu 18 58 (bits 20 0x7ffff) HT_ (h := ?_)
      refine last_ (i := 19) (N := none) #[true, true, true, true, true, true, true, true, true, true, true, true, true, true, true, true, true, true, true, true] rfl rfl (one_of HT_.out (by kernel_rfl)) (by decide) (fun K hK => ?_)
      have J3 : D2.cell? ⟨c3, 1, none⟩ = some (.slice n4 b2.length n0) := bc a9 1
      have H6 := blk_frozen a9.out 1
      have x2 := d6.out
      have x0 := c2.out
      have w9 := d3.out
      have w8 := g2.out
      have x7 := d2.out
      have x6 := c1.out
      have x4 := d1.out
      have x3 := g3.out
      refine skip_ (w1 := ?_) (by rfl) rfl ?_ ?_
      rotate_left
      ·go_simp
       rfl
      refine hK.out _ _ ?_
      clear hK K
      refine done_ (done_of HT_.out (by kernel_rfl)) ?_
      try go_wp2
      go_roundg k2
      case measure => have := o8.out; have := w0.out; omega
      case rel => exact ⟨(wrap64 (a4 + 1)), (d9), (.slice n3 d9.length m9), eqs, H', ⟨by have := o8.out; have := w0.out; omega⟩, ⟨by (with_reducible repeat (first | apply Kd.R_alloc | apply Kd.R_drewN | apply Kd.R_drew)); exact Kd.R_mono (Kd.R_far (p := ⟨c3, 1, none⟩) (Kd.R_types HO_255000.out a9.out (by decide)) (fun _ hk => hk.2) (.slice n3 d9.length m9)) (fun _ hk => hk.1.2)⟩, ⟨by (with_reducible repeat (first | apply Kd.R_alloc | apply Kd.R_drewN | apply Kd.R_drew)); exact Kd.R_mono (Kd.R_far (p := ⟨c3, 1, none⟩) (Kd.R_types o6.out a9.out (by decide)) (fun _ hk => hk.2) (.slice n3 d9.length m9)) (fun _ hk => hk.1.1.2)⟩, ⟨bkF a8⟩, ⟨bkF a7⟩, ⟨bkF b0⟩, ⟨bkP a9⟩, ⟨bb HB⟩⟩
end Go.Proofs.YtfpianecohobjaaGreat.P
