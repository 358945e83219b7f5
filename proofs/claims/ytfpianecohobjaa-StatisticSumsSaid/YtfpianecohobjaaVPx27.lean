/- StatisticOf: a part of its proof. No condition. -/
import Derived.Test.YtfpianecohobjaaVPx0
import Derived.Test.YtfpianecohobjaaVPx7
import Derived.Test.YtfpianecohobjaaVPx9
namespace Go.Proofs.Ytfpianecohobjaa.P
open Go.RowKit Go.Proofs.YtfpianecohobjaaW.PrintWords Go.Proofs.YtfpianecohobjaaW.PrintLast Go.Proofs.YtfpianecohobjaaW.PrintMore
set_option maxHeartbeats 8000000
set_option maxRecDepth 100000
set_option linter.unusedVariables false
set_option linter.unusedSimpArgs false
def types_Fits.j0 : Nat → Int → Int → Int → Bool → List (S68) → List (S71) → Option (Bool)
 | 0, _, _, _, _, _, _ => none
 | k + 1, x1, x2, x3, p0, h1, b3 => if p0 = true then (some false) else (if 0 ≤ x1 then (if x1 < (b3.length : Int) then ((types_is.f k h1 b3 x2 ((rd_T71 b3 x1).f1)).bind fun j2 => (if j2 = true then ((types_is.f k h1 b3 x3 ((rd_T71 b3 x1).f2)).bind fun m3 => (some m3)) else (some false))) else (none)) else (none))
def types_Fits.f (k : Nat) (a8 : List (S68)) (a5 : List (S71)) (a1 : Int) (a2 : Int) (a3 : Int) : Option (Bool) := (types_given.f k a8 a5 (([a2, a3] : List Int))).bind fun d8 => (if d8 = 0 then (if a1 < 0 then (types_Fits.j0 k a1 a2 a3 true a8 a5) else (types_Fits.j0 k a1 a2 a3 (decide (a1 ≥ (a5.length : Int))) a8 a5)) else (types_Fits.j0 k a1 a2 a3 true a8 a5))
theorem types_Fits.mono_l : ∀ k, (∀ y0 y1 y2 y3 y4 y5, LeO (types_Fits.j0 k y0 y1 y2 y3 y4 y5) (types_Fits.j0 (k + 1) y0 y1 y2 y3 y4 y5))
 | 0 => by (intros; intro r h; simp [types_Fits.j0] at h)
 | k + 1 => by
  have ih0 := types_Fits.mono_l k
  (intros; first | unfold types_Fits.j0)
  all_goals with_reducible repeat' first | exact ih0 .. | exact types_given.mono .. | exact types_is.mono .. | exact LeO.refl _ | exact LeO.none _ | refine LeO.ite ?_ ?_ | refine LeO.bind ?_ fun _ => ?_
theorem types_Fits.mono : ∀ a0 a1 a2 a3 a4 k, LeO (types_Fits.f k a0 a1 a2 a3 a4) (types_Fits.f (k + 1) a0 a1 a2 a3 a4) := by
 intro a0 a1 a2 a3 a4 k
 have ih0 := types_Fits.mono_l k
 unfold types_Fits.f
 with_reducible repeat' first | exact ih0 .. | exact types_given.mono .. | exact types_is.mono .. | exact LeO.refl _ | exact LeO.none _ | refine LeO.ite ?_ ?_ | refine LeO.bind ?_ fun _ => ?_
def types_Fits.T3 : Bool × List (List Nat × List Nat) := (true, [([], []), ([], []), ([], []), ([2], [2]), ([], []), ([3, 4], [3, 4]), ([5], [5]), ([6], [6]), ([0, 1, 7], [0, 1, 7]), ([8, 8], [8]), ([9], [9]), ([9], [9]), ([9], [9]), ([12, 9], [9, 12]), ([9], [9]), ([13, 14, 9], [9, 13, 14]), ([15, 9], [9, 15]), ([16, 9], [9, 16]), ([10, 11, 17, 9, 9], [9, 10, 11, 17]), ([9, 18], [9, 18]), ([19, 18, 0, 1, 2, 3, 4, 5, 6, 7, 8, 9, 10, 11, 12, 13, 14, 15, 16, 17, 18, 19], [19])])
def types_Fits.B3 : List Nat := [0, 0, 0, 4, 0, 28, 60, 124, 255, 511, 1023, 1023, 1023, 5119, 1023, 29695, 62463, 127999, 262143, 524287, 1048575]
theorem types_Fits.tab3 : rtab .any (opsOf Try.f23 3) = types_Fits.T3 := by kernel_rfl
theorem types_Fits.bits3 : waitsOk types_Fits.T3.2 types_Fits.B3 = true := by kernel_rfl
theorem types_Fits.calls (k : Nat) (b2 : Option Addr) (b1 : Nat) (a8 : List (S68)) (g5 : Option Addr) (b0 : Nat) (a5 : List (S71)) (a1 : Int) (a2 : Int) (a3 : Int) (r : Bool) (w : World) (j8 : Kd.C k68 w b2 a8.length a8) (m0 : a8.length ≤ b1) (j7 : Kd.C k71 w g5 a5.length a5) (j9 : a5.length ≤ b0) (h : types_Fits.f k a8 a5 a1 a2 a3 = some r) :
  Calls Try.prog 23 #[.agg #[.slice b2 a8.length b1, .slice g5 a5.length b0], .int .i64 a1, .int .i64 a2, .int .i64 a3] w fun e w' => e = .returned (.bool r) ∧ Below w.heap.size w w' := by
 have hu25 := Try.underlying25
 have e5 := Aside0.mk j8
 have e7 := Aside0.mk m0
 clear j8 m0
 have d0 := Aside0.mk j7
 have e6 := Aside0.mk j9
 clear j7 j9
 have HB := Aside0.mk (Below.refl w.heap.size w)
 have H : ((types_given.f k a8 a5 (([a2, a3] : List Int))).bind fun d8 => (if d8 = 0 then (if a1 < 0 then (types_Fits.j0 k a1 a2 a3 true a8 a5) else (types_Fits.j0 k a1 a2 a3 (decide (a1 ≥ (a5.length : Int))) a8 a5)) else (types_Fits.j0 k a1 a2 a3 true a8 a5))) = some r := h
 clear h
 have m4 := Aside0.mk H
 clear H
 go_enter Try.func23, Try.ntmps23
 go_upto_region 1 with (first | ((with_reducible refine gate_dst (N := 4) rfl ?_); (try (refine gate_guard (by rfl) ?_; dsimp only)); refine be 4 #[.slice b2 a8.length b1, .slice g5 a5.length b0] 25 ?_; intro e4 hg w6 hbox hb; have a7 := Aside0.mk (hbox); have p5 := bsz HB hg; replace HB := bstep HB hb; clear hb hbox hg))
 (try simp only [Act.put, List.setIfInBounds_toArray, List.set_cons_zero, List.set_cons_succ])
 go_cut [25] (fun p1 wc => ∃ (kq : Nat) (g6 : Bool), p1 = .bool g6 ∧ Aside0 (types_Fits.j0 kq a1 a2 a3 g6 a8 a5 = some r) ∧ Aside0 (kq ≤ k) ∧ Aside0 (wc.heap[e4]? = some (.cells #[(.slice b2 a8.length b1), (.slice g5 a5.length b0)] 25 (0, 0))) ∧ Aside0 (Below w.heap.size w wc))
 case first =>
  have H := m4.out
  clear m4
  obtain ⟨j1, e3⟩ : ∃ y_ : List Int, y_ = (([a2, a3] : List Int)) := ⟨_, rfl⟩
  replace H : ((types_given.f k a8 a5 j1).bind fun d8 => (if d8 = 0 then (if a1 < 0 then (types_Fits.j0 k a1 a2 a3 true a8 a5) else (types_Fits.j0 k a1 a2 a3 (decide (a1 ≥ (a5.length : Int))) a8 a5)) else (types_Fits.j0 k a1 a2 a3 true a8 a5))) = some r := by first | (rw [e3]; with_reducible exact H) | (have H2_ := (Option.bind_some _ _).symm.trans H; rw [e3]; with_reducible exact H2_) | (have H2_ := (Option.bind_some _ _).symm.trans H; with_reducible exact H2_) | with_reducible exact H | (rw [e3]; exact H) | exact H
  have g7 := Aside0.mk e3
  clear e3
  obtain ⟨d8, A7, H⟩ := obA H
  by_cases c8 : d8 = 0
  rw [if_pos c8] at H
  have h0 := beq_iff_eq.mpr c8
  have n5 := bne_eq_false_iff_eq.mpr c8
  clear c8
  (first | rw [h0] | (simp only [i64_w, i32_w]; rw [h0]) | skip)
  by_cases c9 : a1 < 0
  ·rw [if_pos c9] at H
   have n4 := decide_eq_true c9
   clear c9
   have H' := Aside0.mk H
   clear H
   obtain ⟨o9, o8, o3, o2⟩ := cz2 a7
   go_wp2_with (first | ((with_reducible refine gate_dst (N := 12) rfl ?_); (try (refine gate_guard (by rfl) ?_; dsimp only)); refine Kd.R_lit (Kd.int .i64) _ 3 ?hg (N := 12) ?hd (xs := ([a2, a3] : List Int)) (inner := [.int .i64 a2, .int .i64 a3]) (ok := fun _ => True) (okp := fun _ => True) ?hr ?hp (fun _ hk => hk) trivial (Below.refl _ _) (Nat.le_refl _) (by simp) ?_; (case hd => rfl); (case hg => rfl); (case hr => first | (go_simp; done) | (go_simp; rfl)); (case hp => exact (Reps.one (show Kd.M (Kd.int .i64) _ _ _ a2 [.int .i64 a2] from rfl) (Reps.one (show Kd.M (Kd.int .i64) _ _ _ a3 [.int .i64 a3] from rfl) (Reps.none _ _)))); intro m9 q4 g9 hb hg_ hnew_; clear hg_ hnew_; (first | rw [← g7.out] at g9 | (simp only [Int.reduceToNat] at g9; rw [← g7.out] at g9)); have a9 := Aside0.mk (Kd.R_lower g9 (below_size (bb HB))); replace a7 := bkb a7 hb; replace HB := bstep HB hb; clear hb g9; obtain ⟨n7, n3, eo13⟩ := Kd.R_slice a9.out; subst eo13) | ((with_reducible refine gate_callee (f := 43) rfl ?_); refine gl 13 Try.func43 #[.agg #[.slice b2 a8.length b1, .slice g5 a5.length b0], .slice n7 j1.length n3] (h := ?_); (with_reducible refine (types_given.calls _ _ _ _ _ _ _ _ _ _ _ _ (cb e5 HB) e7.out (cb d0 HB) e6.out ?h3 ?h2 A7.out).mono ?_); (case h3 => repeat (first | exact (Kd.R_reads' a9.out).2.2 | (with_reducible refine Kd.C_alloc ?_ _) | (with_reducible refine Kd.C_drewN ?_ _) | (with_reducible refine Kd.C_drew ?_))); (case h2 => exact (Kd.R_reads' a9.out).2.1); rintro e q3 ⟨rfl, hb⟩; refine ⟨_, rfl, ?_⟩; replace a7 := bkb a7 hb; replace HB := bstep HB hb; clear hb))
   go_meet
   case rel => exact ⟨_, (true), eqs, H', ⟨by first | omega | exact Nat.le_refl _⟩, ⟨bk a7⟩, ⟨bb HB⟩⟩
  rw [if_neg c9] at H
  have n4 := decide_eq_false c9
  clear c9
  have H' := Aside0.mk H
  clear H
  rotate_left
  rw [if_neg c8] at H
  have h0 := beq_eq_false_iff_ne.mpr c8
  have n5 := bne_iff_ne.mpr c8
  (first | rw [h0] | (simp only [i64_w, i32_w]; rw [h0]) | skip)
  have H' := Aside0.mk H
  clear H
  all_goals
   obtain ⟨o7, o6, o1, o0⟩ := cz2 a7
   go_wp2_with (first | ((with_reducible refine gate_dst (N := 12) rfl ?_); (try (refine gate_guard (by rfl) ?_; dsimp only)); refine Kd.R_lit (Kd.int .i64) _ 3 ?hg (N := 12) ?hd (xs := ([a2, a3] : List Int)) (inner := [.int .i64 a2, .int .i64 a3]) (ok := fun _ => True) (okp := fun _ => True) ?hr ?hp (fun _ hk => hk) trivial (Below.refl _ _) (Nat.le_refl _) (by simp) ?_; (case hd => rfl); (case hg => rfl); (case hr => first | (go_simp; done) | (go_simp; rfl)); (case hp => exact (Reps.one (show Kd.M (Kd.int .i64) _ _ _ a2 [.int .i64 a2] from rfl) (Reps.one (show Kd.M (Kd.int .i64) _ _ _ a3 [.int .i64 a3] from rfl) (Reps.none _ _)))); intro m9 q2 g8 hb hg_ hnew_; clear hg_ hnew_; (first | rw [← g7.out] at g8 | (simp only [Int.reduceToNat] at g8; rw [← g7.out] at g8)); have a9 := Aside0.mk (Kd.R_lower g8 (below_size (bb HB))); replace a7 := bkb a7 hb; replace HB := bstep HB hb; clear hb g8; obtain ⟨n6, n2, eo18⟩ := Kd.R_slice a9.out; subst eo18) | ((with_reducible refine gate_callee (f := 43) rfl ?_); refine gl 13 Try.func43 #[.agg #[.slice b2 a8.length b1, .slice g5 a5.length b0], .slice n6 j1.length n2] (h := ?_); (with_reducible refine (types_given.calls _ _ _ _ _ _ _ _ _ _ _ _ (cb e5 HB) e7.out (cb d0 HB) e6.out ?h3 ?h2 A7.out).mono ?_); (case h3 => repeat (first | exact (Kd.R_reads' a9.out).2.2 | (with_reducible refine Kd.C_alloc ?_ _) | (with_reducible refine Kd.C_drewN ?_ _) | (with_reducible refine Kd.C_drew ?_))); (case h2 => exact (Kd.R_reads' a9.out).2.1); rintro e q1 ⟨rfl, hb⟩; refine ⟨_, rfl, ?_⟩; replace a9 := kRb a9 hb; replace a7 := bkb a7 hb; replace HB := bstep HB hb; clear hb; obtain ⟨o5, o4, n9, n8⟩ := cz2 a7))
   go_meet
   case rel => exact ⟨_, _, eqs, H', ⟨by first | omega | exact Nat.le_refl _⟩, ⟨bk a7⟩, ⟨bb HB⟩⟩
 case rest =>
  clear m4
  obtain ⟨kq, g6, rfl, HA, q6, a7, HB⟩ := hcut
  cases kq with
  | zero => exact absurd HA.out (by simp [types_Fits.j0])
  | succ q5 =>
   have H := HA.out
   clear HA
   simp only [types_Fits.j0] at H
   by_cases m2 : g6 = true
   ·subst m2
    replace H := ift H
    obtain rfl := Option.some.inj H
    go_wp2
    go_ret
    exact ⟨erf, bb HB⟩
   replace m2 := Bool.eq_false_iff.mpr m2
   subst m2
   replace H := iff_ H
   obtain ⟨m7, H⟩ := itn H
   have p4 := decide_eq_true m7
   clear m7
   obtain ⟨m6, H⟩ := itn H
   have p3 := decide_eq_true m6
   clear m6
   obtain ⟨j2, m8, H⟩ := obA H
   by_cases m1 : j2 = true
   subst m1
   replace H := ift H
   obtain ⟨m3, p2, H⟩ := obA H
   obtain rfl := Option.some.inj H
   rotate_left
   replace m1 := Bool.eq_false_iff.mpr m1
   subst m1
   replace H := iff_ H
   obtain rfl := Option.some.inj H
   all_goals
    try go_wp2
    replace a7 := Aside0.mk (blk_drew a7.out)
    replace HB := Aside0.mk (below_drew1 HB.out)
    have j6 : 0 ≤ a1 := odt
    have j4 : a1 < (a5.length : Int) := odt
    obtain ⟨a6, n1, c0, b9, b8, b7, b6, b5, b4⟩ := at_T71 d0.out a1 j6 j4
    have c1 := b4
    have c2 := b5
    have c3 := b6
    have c4 := b7
    have c5 := b8
    have c6 := b9
    have c7 := c0
    cases n1
    replace c0 := hxc HB c0
    replace b9 := hxc HB b9
    replace b8 := hxc HB b8
    replace b7 := hxc HB b7
    replace b6 := hxc HB b6
    replace b5 := hxc HB b5
    replace b4 := hxc HB b4
    replace j6 := eq_true j6
    replace j4 := eq_true j4
   ·refine start_ (n := 21) (S := fun w' => w'.cell? ⟨e4, 0, none⟩ = some (.slice b2 a8.length b1) ∧ w'.cell? ⟨e4, 1, none⟩ = some (.slice (some a6) a5.length b0) ∧ w'.cell? (a6.add ((a1).toNat * 7)) = some (.string ((rd_T71 a5 a1).f0)) ∧ w'.cell? ⟨(a6.add ((a1).toNat * 7)).block, (a6.add ((a1).toNat * 7)).off + 1, none⟩ = some (.int .i64 ((rd_T71 a5 a1).f1)) ∧ w'.cell? ⟨(a6.add ((a1).toNat * 7)).block, (a6.add ((a1).toNat * 7)).off + 2, none⟩ = some (.int .i64 ((rd_T71 a5 a1).f2)) ∧ w'.cell? ⟨(a6.add ((a1).toNat * 7)).block, (a6.add ((a1).toNat * 7)).off + 3, none⟩ = some (.int .i64 ((rd_T71 a5 a1).f3)) ∧ w'.cell? ⟨(a6.add ((a1).toNat * 7)).block, (a6.add ((a1).toNat * 7)).off + 4, none⟩ = some (.int .i64 ((rd_T71 a5 a1).f4)) ∧ w'.cell? ⟨(a6.add ((a1).toNat * 7)).block, (a6.add ((a1).toNat * 7)).off + 5, none⟩ = some (.int .i64 ((rd_T71 a5 a1).f5)) ∧ w'.cell? ⟨(a6.add ((a1).toNat * 7)).block, (a6.add ((a1).toNat * 7)).off + 6, none⟩ = some (.int .i64 ((rd_T71 a5 a1).f6))) (ds := []) #[false, false, false, false, false, false, false, false, false, false, false, false, false, false, false, false, false, false, false, false, false] (by kernel_rfl) rfl rfl ⟨bc a7 0, bc a7 1, (hxc HB c7), (hxc HB c6), (hxc HB c5), (hxc HB c4), (hxc HB c3), (hxc HB c2), (hxc HB c1)⟩ (fun hHeld => ?_); refine with_tabW types_Fits.tab3 types_Fits.bits3 (fun HT_ HW_ => ?_)
    generalize wc.drew = p7 at a7 HB c0 b9 b8 b7 b6 b5 b4 hHeld ⊢
    refine pu 1 27 (bits 21 0x2) HT_ (h := ?_)
    refine pu 2 28 (bits 21 0x6) HT_ (h := ?_)
    refine pu 4 30 (bits 21 0x16) HT_ (h := ?_)
    refine tk 0 26 (bits 21 0x17) HT_ HW_ hHeld (hy := by rintro w' ⟨s0, s1, s2, s3, s4, s5, s6, s7, s8⟩; go_simp; with_reducible rfl) (h := ?_)
    refine tk 3 29 (bits 21 0x1f) HT_ HW_ hHeld (hy := by rintro w' ⟨s0, s1, s2, s3, s4, s5, s6, s7, s8⟩; go_simp; with_reducible rfl) (h := ?_)
    refine pu 5 31 (bits 21 0x3f) HT_ (h := ?_)
    refine pu 6 32 (bits 21 0x7f) HT_ (h := ?_)
    refine tk 7 33 (bits 21 0xff) HT_ HW_ hHeld (hy := by rintro w' ⟨s0, s1, s2, s3, s4, s5, s6, s7, s8⟩; go_simp; with_reducible rfl) (h := ?_)
    refine one_ (i := 8) (N := some 34) #[true, true, true, true, true, true, true, true, true, false, false, false, false, false, false, false, false, false, false, false, false] rfl rfl (one_of HT_.out (by kernel_rfl)) (by decide) (fun K hK => ?_)
    refine goes_ Try.func44 (by kernel_rfl) rfl #[.agg #[.slice b2 a8.length b1, .slice (some a6) a5.length b0], .int .i64 a2, .int .i64 ((rd_T71 a5 a1).f1)] (by rfl) rfl rfl (by (try simp only [List.map_toArray, List.map_cons, List.map_nil]); first | done | rfl | (simp only [List.length_drop, List.length_take]; rfl)) ?_
    with_reducible refine (types_is.calls _ _ _ _ _ _ _ _ _ _ _ ?e2 ?e1 ?e0 ?d9 m8.out).mono ?_
    (case e2 => exact cb e5 HB)
    (case e1 => exact e7.out)
    (case e0 => exact cb d0 HB)
    (case d9 => exact e6.out)
    rintro e p6 ⟨rfl, hb⟩
    refine ⟨_, rfl, ?_⟩
    replace a7 := bkb a7 hb
    replace HB := bstep HB hb
    (try clear hb)
    (try clear hb2)
    (try clear hk)
    (try clear hi)
    refine hK.out _ _ ⟨bc a7 0, bc a7 1, (hxc HB c7), (hxc HB c6), (hxc HB c5), (hxc HB c4), (hxc HB c3), (hxc HB c2), (hxc HB c1)⟩ (fun hHeld => ?_)
    clear hK K
    refine norm_ (a' := ?_) ?_ ?_
    rotate_left
    ·show Act.put _ (some 34) _ = _
     simp only [Act.put, List.setIfInBounds_toArray, List.set_cons_zero, List.set_cons_succ, i64_w, i32_w]
     rfl
    refine pu 9 35 (bits 21 0x3ff) HT_ (h := ?_)
    refine pn 10 36 (bits 21 0x7ff) HT_ (h := ?_)
    refine pn 11 37 (bits 21 0xfff) HT_ (h := ?_)
    refine pn 12 38 (bits 21 0x1fff) HT_ (h := ?_)
    refine pn 13 39 (bits 21 0x3fff) HT_ (h := ?_)
    refine pn 14 40 (bits 21 0x7fff) HT_ (h := ?_)
    refine pn 15 41 (bits 21 0xffff) HT_ (h := ?_)
    refine pn 16 42 (bits 21 0x1ffff) HT_ (h := ?_)
    refine pn 17 43 (bits 21 0x3ffff) HT_ (h := ?_)
    refine pn 18 44 (bits 21 0x7ffff) HT_ (h := ?_)
    refine pu 19 45 (bits 21 0xfffff) HT_ (h := ?_)
    refine pu 20 8 (bits 21 0x1fffff) HT_ (h := ?_)
    refine done_ (done_of HT_.out (by kernel_rfl)) ?_
    try go_wp2
    go_ret
    exact ⟨erf, bb HB⟩
   ·have j5 : 0 ≤ a1 := odt
    have j3 : a1 < (a5.length : Int) := odt
    obtain ⟨m5, n0, d7, d6, d5, d4, d3, d2, d1⟩ := at_T71 d0.out a1 j5 j3
    have e8 := d1
    have e9 := d2
    have g0 := d3
    have g1 := d4
    have g2 := d5
    have g3 := d6
    have g4 := d7
    obtain rfl : a6 = m5 := (by injection n0)
    replace d7 := hxc HB d7
    replace d6 := hxc HB d6
    replace d5 := hxc HB d5
    replace d4 := hxc HB d4
    replace d3 := hxc HB d3
    replace d2 := hxc HB d2
    replace d1 := hxc HB d1
    replace j5 := eq_true j5
    replace j3 := eq_true j3
    refine start_ (n := 21) (S := fun w' => w'.cell? ⟨e4, 0, none⟩ = some (.slice b2 a8.length b1) ∧ w'.cell? ⟨e4, 1, none⟩ = some (.slice (some a6) a5.length b0) ∧ w'.cell? (a6.add ((a1).toNat * 7)) = some (.string ((rd_T71 a5 a1).f0)) ∧ w'.cell? ⟨(a6.add ((a1).toNat * 7)).block, (a6.add ((a1).toNat * 7)).off + 1, none⟩ = some (.int .i64 ((rd_T71 a5 a1).f1)) ∧ w'.cell? ⟨(a6.add ((a1).toNat * 7)).block, (a6.add ((a1).toNat * 7)).off + 2, none⟩ = some (.int .i64 ((rd_T71 a5 a1).f2)) ∧ w'.cell? ⟨(a6.add ((a1).toNat * 7)).block, (a6.add ((a1).toNat * 7)).off + 3, none⟩ = some (.int .i64 ((rd_T71 a5 a1).f3)) ∧ w'.cell? ⟨(a6.add ((a1).toNat * 7)).block, (a6.add ((a1).toNat * 7)).off + 4, none⟩ = some (.int .i64 ((rd_T71 a5 a1).f4)) ∧ w'.cell? ⟨(a6.add ((a1).toNat * 7)).block, (a6.add ((a1).toNat * 7)).off + 5, none⟩ = some (.int .i64 ((rd_T71 a5 a1).f5)) ∧ w'.cell? ⟨(a6.add ((a1).toNat * 7)).block, (a6.add ((a1).toNat * 7)).off + 6, none⟩ = some (.int .i64 ((rd_T71 a5 a1).f6)) ∧ w'.cell? (a6.add ((a1).toNat * 7)) = some (.string ((rd_T71 a5 a1).f0)) ∧ w'.cell? ⟨(a6.add ((a1).toNat * 7)).block, (a6.add ((a1).toNat * 7)).off + 1, none⟩ = some (.int .i64 ((rd_T71 a5 a1).f1)) ∧ w'.cell? ⟨(a6.add ((a1).toNat * 7)).block, (a6.add ((a1).toNat * 7)).off + 2, none⟩ = some (.int .i64 ((rd_T71 a5 a1).f2)) ∧ w'.cell? ⟨(a6.add ((a1).toNat * 7)).block, (a6.add ((a1).toNat * 7)).off + 3, none⟩ = some (.int .i64 ((rd_T71 a5 a1).f3)) ∧ w'.cell? ⟨(a6.add ((a1).toNat * 7)).block, (a6.add ((a1).toNat * 7)).off + 4, none⟩ = some (.int .i64 ((rd_T71 a5 a1).f4)) ∧ w'.cell? ⟨(a6.add ((a1).toNat * 7)).block, (a6.add ((a1).toNat * 7)).off + 5, none⟩ = some (.int .i64 ((rd_T71 a5 a1).f5)) ∧ w'.cell? ⟨(a6.add ((a1).toNat * 7)).block, (a6.add ((a1).toNat * 7)).off + 6, none⟩ = some (.int .i64 ((rd_T71 a5 a1).f6))) (ds := []) #[false, false, false, false, false, false, false, false, false, false, false, false, false, false, false, false, false, false, false, false, false] (by kernel_rfl) rfl rfl ⟨bc a7 0, bc a7 1, (hxc HB c7), (hxc HB c6), (hxc HB c5), (hxc HB c4), (hxc HB c3), (hxc HB c2), (hxc HB c1), (hxc HB g4), (hxc HB g3), (hxc HB g2), (hxc HB g1), (hxc HB g0), (hxc HB e9), (hxc HB e8)⟩ (fun hHeld => ?_); refine with_tabW types_Fits.tab3 types_Fits.bits3 (fun HT_ HW_ => ?_)
    generalize wc.drew = q0 at a7 HB c0 b9 b8 b7 b6 b5 b4 d7 d6 d5 d4 d3 d2 d1 hHeld ⊢
    refine pu 1 27 (bits 21 0x2) HT_ (h := ?_)
    refine pu 2 28 (bits 21 0x6) HT_ (h := ?_)
    refine pu 4 30 (bits 21 0x16) HT_ (h := ?_)
    refine tk 0 26 (bits 21 0x17) HT_ HW_ hHeld (hy := by rintro w' ⟨s0, s1, s2, s3, s4, s5, s6, s7, s8, s9, h9, h8, h7, h6, h5, h4⟩; go_simp; with_reducible rfl) (h := ?_)
    refine tk 3 29 (bits 21 0x1f) HT_ HW_ hHeld (hy := by rintro w' ⟨s0, s1, s2, s3, s4, s5, s6, s7, s8, s9, h9, h8, h7, h6, h5, h4⟩; go_simp; with_reducible rfl) (h := ?_)
    refine pu 5 31 (bits 21 0x3f) HT_ (h := ?_)
    refine pu 6 32 (bits 21 0x7f) HT_ (h := ?_)
    refine tk 7 33 (bits 21 0xff) HT_ HW_ hHeld (hy := by rintro w' ⟨s0, s1, s2, s3, s4, s5, s6, s7, s8, s9, h9, h8, h7, h6, h5, h4⟩; go_simp; with_reducible rfl) (h := ?_)
    refine one_ (i := 8) (N := some 34) #[true, true, true, true, true, true, true, true, true, false, false, false, false, false, false, false, false, false, false, false, false] rfl rfl (one_of HT_.out (by kernel_rfl)) (by decide) (fun K hK => ?_)
    refine goes_ Try.func44 (by kernel_rfl) rfl #[.agg #[.slice b2 a8.length b1, .slice (some a6) a5.length b0], .int .i64 a2, .int .i64 ((rd_T71 a5 a1).f1)] (by rfl) rfl rfl (by (try simp only [List.map_toArray, List.map_cons, List.map_nil]); first | done | rfl | (simp only [List.length_drop, List.length_take]; rfl)) ?_
    with_reducible refine (types_is.calls _ _ _ _ _ _ _ _ _ _ _ ?e2 ?e1 ?e0 ?d9 m8.out).mono ?_
    (case e2 => exact cb e5 HB)
    (case e1 => exact e7.out)
    (case e0 => exact cb d0 HB)
    (case d9 => exact e6.out)
    rintro e p9 ⟨rfl, hb⟩
    refine ⟨_, rfl, ?_⟩
    replace a7 := bkb a7 hb
    replace HB := bstep HB hb
    (try clear hb)
    (try clear hb2)
    (try clear hk)
    (try clear hi)
    refine hK.out _ _ ⟨bc a7 0, bc a7 1, (hxc HB c7), (hxc HB c6), (hxc HB c5), (hxc HB c4), (hxc HB c3), (hxc HB c2), (hxc HB c1), (hxc HB g4), (hxc HB g3), (hxc HB g2), (hxc HB g1), (hxc HB g0), (hxc HB e9), (hxc HB e8)⟩ (fun hHeld => ?_)
    clear hK K
    refine norm_ (a' := ?_) ?_ ?_
    rotate_left
    ·show Act.put _ (some 34) _ = _
     simp only [Act.put, List.setIfInBounds_toArray, List.set_cons_zero, List.set_cons_succ, i64_w, i32_w]
     rfl
    refine pu 9 35 (bits 21 0x3ff) HT_ (h := ?_)
    refine pu 11 37 (bits 21 0xbff) HT_ (h := ?_)
    refine pu 12 38 (bits 21 0x1bff) HT_ (h := ?_)
    refine pu 14 40 (bits 21 0x5bff) HT_ (h := ?_)
    refine tk 10 36 (bits 21 0x5fff) HT_ HW_ hHeld (hy := by rintro w' ⟨s0, s1, s2, s3, s4, s5, s6, s7, s8, s9, h9, h8, h7, h6, h5, h4⟩; go_simp; with_reducible rfl) (h := ?_)
    refine tk 13 39 (bits 21 0x7fff) HT_ HW_ hHeld (hy := by rintro w' ⟨s0, s1, s2, s3, s4, s5, s6, s7, s8, s9, h9, h8, h7, h6, h5, h4⟩; go_simp; with_reducible rfl) (h := ?_)
    refine pu 15 41 (bits 21 0xffff) HT_ (h := ?_)
    refine pu 16 42 (bits 21 0x1ffff) HT_ (h := ?_)
    refine tk 17 43 (bits 21 0x3ffff) HT_ HW_ hHeld (hy := by rintro w' ⟨s0, s1, s2, s3, s4, s5, s6, s7, s8, s9, h9, h8, h7, h6, h5, h4⟩; go_simp; with_reducible rfl) (h := ?_)
    refine one_ (i := 18) (N := some 44) #[true, true, true, true, true, true, true, true, true, true, true, true, true, true, true, true, true, true, true, false, false] rfl rfl (one_of HT_.out (by kernel_rfl)) (by decide) (fun K hK => ?_)
    refine goes_ Try.func44 (by kernel_rfl) rfl #[.agg #[.slice b2 a8.length b1, .slice (some a6) a5.length b0], .int .i64 a3, .int .i64 ((rd_T71 a5 a1).f2)] (by rfl) rfl rfl (by (try simp only [List.map_toArray, List.map_cons, List.map_nil]); first | done | rfl | (simp only [List.length_drop, List.length_take]; rfl)) ?_
    with_reducible refine (types_is.calls _ _ _ _ _ _ _ _ _ _ _ ?e2 ?e1 ?e0 ?d9 p2.out).mono ?_
    (case e2 => exact cb e5 HB)
    (case e1 => exact e7.out)
    (case e0 => exact cb d0 HB)
    (case d9 => exact e6.out)
    rintro e p8 ⟨rfl, hb⟩
    refine ⟨_, rfl, ?_⟩
    replace a7 := bkb a7 hb
    replace HB := bstep HB hb
    (try clear hb)
    (try clear hb2)
    (try clear hk)
    (try clear hi)
    refine hK.out _ _ ⟨bc a7 0, bc a7 1, (hxc HB c7), (hxc HB c6), (hxc HB c5), (hxc HB c4), (hxc HB c3), (hxc HB c2), (hxc HB c1), (hxc HB g4), (hxc HB g3), (hxc HB g2), (hxc HB g1), (hxc HB g0), (hxc HB e9), (hxc HB e8)⟩ (fun hHeld => ?_)
    clear hK K
    refine norm_ (a' := ?_) ?_ ?_
    rotate_left
    ·show Act.put _ (some 44) _ = _
     simp only [Act.put, List.setIfInBounds_toArray, List.set_cons_zero, List.set_cons_succ, i64_w, i32_w]
     rfl
    refine pu 19 45 (bits 21 0xfffff) HT_ (h := ?_)
    refine pu 20 8 (bits 21 0x1fffff) HT_ (h := ?_)
    refine done_ (done_of HT_.out (by kernel_rfl)) ?_
    try go_wp2
    go_ret
    exact ⟨erf, bb HB⟩
end Go.Proofs.Ytfpianecohobjaa.P
