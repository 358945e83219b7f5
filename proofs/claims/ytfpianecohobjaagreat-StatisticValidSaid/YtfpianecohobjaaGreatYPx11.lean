/- StatisticOf: a part of its proof. No condition. -/
import Derived.Test.YtfpianecohobjaaGreatYPx0
import Derived.Test.YtfpianecohobjaaGreatYMa
import Derived.Test.YtfpianecohobjaaGreatYPx8
namespace Go.Proofs.YtfpianecohobjaaGreat.P
open Go.RowKit Go.Proofs.YtfpianecohobjaaGreatW.PrintWords Go.Proofs.YtfpianecohobjaaGreatW.PrintLast Go.Proofs.YtfpianecohobjaaGreatW.PrintMore
set_option linter.unusedVariables false
set_option linter.unusedSimpArgs false
def types_Fits.j0 : Nat → Int → Int → Int → Bool → List (S96) → List (S101) → Option (Bool)
 | 0, _, _, _, _, _, _ => none
 | k + 1, x1, x2, x3, p8, h7, d5 => if p8 = true then (some false) else (if 0 ≤ x1 then (if x1 < (d5.length : Int) then ((types_is.f k h7 d5 x2 ((rd_T101 d5 x1).f1)).bind fun j6 => (if j6 = true then ((types_is.f k h7 d5 x3 ((rd_T101 d5 x1).f2)).bind fun j5 => (some j5)) else (some false))) else (none)) else (none))
def types_Fits.f (k : Nat) (a8 : List (S96)) (a5 : List (S101)) (a1 : Int) (a2 : Int) (a3 : Int) : Option (Bool) := (types_given.f k a8 a5 (([a2, a3] : List Int))).bind fun d4 => (if d4 = 0 then (if a1 < 0 then (types_Fits.j0 k a1 a2 a3 true a8 a5) else (types_Fits.j0 k a1 a2 a3 (decide (a1 ≥ (a5.length : Int))) a8 a5)) else (types_Fits.j0 k a1 a2 a3 true a8 a5))
theorem types_Fits.mono_l : ∀ k, (∀ y0 y1 y2 y3 y4 y5, LeO (types_Fits.j0 k y0 y1 y2 y3 y4 y5) (types_Fits.j0 (k + 1) y0 y1 y2 y3 y4 y5))
 | 0 => fun _ _ _ _ _ _ r h => by simp [types_Fits.j0] at h
 | k + 1 => by
  have ih0 := types_Fits.mono_l k
  ·intro y0 y1 y2 y3 y4 y5
   unfold types_Fits.j0
   repeat' first
   | (with_reducible exact ih0 _ _ _ _ _ _)
   | (with_reducible exact types_given.mono _ _ _ _)
   | (with_reducible exact types_is.mono _ _ _ _ _)
   | (with_reducible exact LeO.refl _)
   | (with_reducible exact LeO.none _)
   | (with_reducible refine LeO.ite ?_ ?_)
   | (with_reducible refine LeO.bind ?_ (fun _ => ?_))
theorem types_Fits.mono : ∀ a0 a1 a2 a3 a4 k, LeO (types_Fits.f k a0 a1 a2 a3 a4) (types_Fits.f (k + 1) a0 a1 a2 a3 a4) := by
 intro a0 a1 a2 a3 a4 k
 have ih0 := types_Fits.mono_l k
 unfold types_Fits.f
 repeat' first
   | (with_reducible exact ih0 _ _ _ _ _ _)
   | (with_reducible exact types_given.mono _ _ _ _)
   | (with_reducible exact types_is.mono _ _ _ _ _)
   | (with_reducible exact LeO.refl _)
   | (with_reducible exact LeO.none _)
   | (with_reducible refine LeO.ite ?_ ?_)
   | (with_reducible refine LeO.bind ?_ (fun _ => ?_))
def types_Fits.T3 : Bool × List (List Nat × List Nat) := (true, [([], []), ([], []), ([], []), ([2], [2]), ([], []), ([3, 4], [3, 4]), ([5], [5]), ([6], [6]), ([0, 1, 7], [0, 1, 7]), ([8, 8], [8]), ([9], [9]), ([9], [9]), ([9], [9]), ([12, 9], [9, 12]), ([9], [9]), ([13, 14, 9], [9, 13, 14]), ([15, 9], [9, 15]), ([16, 9], [9, 16]), ([10, 11, 17, 9, 9], [9, 10, 11, 17]), ([9, 18], [9, 18]), ([19, 18, 0, 1, 2, 3, 4, 5, 6, 7, 8, 9, 10, 11, 12, 13, 14, 15, 16, 17, 18, 19], [19])])
def types_Fits.B3 : List Nat := [0, 0, 0, 4, 0, 28, 60, 124, 255, 511, 1023, 1023, 1023, 5119, 1023, 29695, 62463, 127999, 262143, 524287, 1048575]
theorem types_Fits.tab3 : rtab .any (opsOf Tryz.f53 3) = types_Fits.T3 := by kernel_rfl
theorem types_Fits.bits3 : waitsOk types_Fits.T3.2 types_Fits.B3 = true := by kernel_rfl
set_option maxHeartbeats 8000000 in
set_option maxRecDepth 100000 in
theorem types_Fits.calls (k : Nat) (c3 : Option Addr) (c2 : Nat) (a8 : List (S96)) (g0 : Option Addr) (c1 : Nat) (a5 : List (S101)) (a1 : Int) (a2 : Int) (a3 : Int) (r : Bool) (w : World) (m1 : Kd.C k96 w c3 a8.length a8) (m3 : a8.length ≤ c2) (m0 : Kd.C k101 w g0 a5.length a5) (m2 : a5.length ≤ c1) (h : types_Fits.f k a8 a5 a1 a2 a3 = some r) :
  Calls Tryz.prog 53 #[.agg #[.slice c3 a8.length c2, .slice g0 a5.length c1], .int .i64 a1, .int .i64 a2, .int .i64 a3] w fun e w' => e = .returned (.bool r) ∧ Below w.heap.size w w' := by
 have hu31 := Tryz.underlying31
 have e4 := Aside0.mk m1
 have e6 := Aside0.mk m3
 clear m1 m3
 have c4 := Aside0.mk m0
 have e5 := Aside0.mk m2
 clear m0 m2
 have HB := Aside0.mk (Below.refl w.heap.size w)
 have H : ((types_given.f k a8 a5 (([a2, a3] : List Int))).bind fun d4 => (if d4 = 0 then (if a1 < 0 then (types_Fits.j0 k a1 a2 a3 true a8 a5) else (types_Fits.j0 k a1 a2 a3 (decide (a1 ≥ (a5.length : Int))) a8 a5)) else (types_Fits.j0 k a1 a2 a3 true a8 a5))) = some r := h
 clear h
 have m8 := Aside0.mk H
 clear H
 go_enter Tryz.func53, Tryz.ntmps53
 go_upto_region 1 with ((with_reducible refine gate_dst (N := 4) rfl ?_); (try (refine gate_guard (by rfl) ?_; dsimp only)); refine be 4 #[.slice c3 a8.length c2, .slice g0 a5.length c1] 31 ?_; intro g4 hg w6 hbox hb; have a7 := Aside0.mk (hbox); have q3 := bsz HB hg; replace HB := bstep HB hb; clear hb hbox hg)
 (try simp only [Act.put, List.setIfInBounds_toArray, List.set_cons_zero, List.set_cons_succ])
 go_cut [25] (fun p9 wc => ∃ (kq : Nat) (h2 : Bool), p9 = .bool h2 ∧ Aside0 (types_Fits.j0 kq a1 a2 a3 h2 a8 a5 = some r) ∧ Aside0 (kq ≤ k) ∧ Aside0 (wc.heap[g4]? = some (.cells #[(.slice c3 a8.length c2), (.slice g0 a5.length c1)] 31 (0, 0))) ∧ Aside0 (Below w.heap.size w wc))
 case first =>
  have H := m8.out
  clear m8
  obtain ⟨e7, g3⟩ : ∃ y_ : List Int, y_ = (([a2, a3] : List Int)) := ⟨_, rfl⟩
  replace H : ((types_given.f k a8 a5 e7).bind fun d4 => (if d4 = 0 then (if a1 < 0 then (types_Fits.j0 k a1 a2 a3 true a8 a5) else (types_Fits.j0 k a1 a2 a3 (decide (a1 ≥ (a5.length : Int))) a8 a5)) else (types_Fits.j0 k a1 a2 a3 true a8 a5))) = some r := by first | (rw [g3]; with_reducible exact H) | (have H2_ := (Option.bind_some _ _).symm.trans H; rw [g3]; with_reducible exact H2_) | (have H2_ := (Option.bind_some _ _).symm.trans H; with_reducible exact H2_) | with_reducible exact H | (rw [g3]; exact H) | exact H
  have e3 := Aside0.mk g3
  clear g3
  obtain ⟨d4, A7, H⟩ := obA H
  by_cases c8 : d4 = 0
  rotate_left
  ·rw [if_neg c8] at H
   have h6 := beq_eq_false_iff_ne.mpr c8
   have n8 := bne_iff_ne.mpr c8
   (first | rw [h6] | (simp only [i64_w, i32_w]; rw [h6]) | skip)
   have H' := Aside0.mk H
   clear H
   obtain ⟨p1, p0, o3, o2⟩ := cz2 a7
   go_wp2_with (first | ((with_reducible refine gate_dst (N := 12) rfl ?_); (try (refine gate_guard (by rfl) ?_; dsimp only)); refine Kd.R_lit (Kd.int .i64) _ 3 ?hg (N := 12) ?hd (xs := ([a2, a3] : List Int)) (inner := [.int .i64 a2, .int .i64 a3]) (ok := fun _ => True) (okp := fun _ => True) ?hr ?hp (fun _ hk => hk) trivial (Below.refl _ _) (Nat.le_refl _) (by simp) ?_; (case hd => rfl); (case hg => rfl); (case hr => first | (go_simp; done) | (go_simp; rfl)); (case hp => exact (Reps.one (show Kd.M (Kd.int .i64) _ _ _ a2 [.int .i64 a2] from rfl) (Reps.one (show Kd.M (Kd.int .i64) _ _ _ a3 [.int .i64 a3] from rfl) (Reps.none _ _)))); intro m6 r0 h3 hb hg_ hnew_; clear hg_ hnew_; (first | rw [← e3.out] at h3 | (simp only [Int.reduceToNat] at h3; rw [← e3.out] at h3)); have a9 := Aside0.mk (Kd.R_lower h3 (below_size (bb HB))); replace a7 := bkb a7 hb; replace HB := bstep HB hb; clear hb h3; obtain ⟨n9, n4, eo24⟩ := Kd.R_slice a9.out; subst eo24) | ((with_reducible refine gate_callee (f := 79) rfl ?_); refine gl 13 Tryz.func79 #[.agg #[.slice c3 a8.length c2, .slice g0 a5.length c1], .slice n9 e7.length n4] (h := ?_); (with_reducible refine (types_given.calls k _ _ a8 _ _ a5 _ _ e7 d4 _ ?c0 ?b9 ?b8 ?b7 ?g2 ?g1 A7.out).mono ?_); (case c0 => exact cb e4 HB); (case b9 => exact e6.out); (case b8 => exact cb c4 HB); (case b7 => exact e5.out); (case g2 => repeat (first | exact (Kd.R_reads' a9.out).2.2 | (with_reducible refine Kd.C_alloc ?_ _) | (with_reducible refine Kd.C_drewN ?_ _) | (with_reducible refine Kd.C_drew ?_))); (case g1 => exact (Kd.R_reads' a9.out).2.1); rintro e q9 ⟨rfl, hb⟩; refine ⟨_, rfl, ?_⟩; replace a9 := kRb a9 hb; replace a7 := bkb a7 hb; replace HB := bstep HB hb; (try clear hb); (try clear hb2); (try clear hk); (try clear hi)))
   go_meet
   case rel => exact ⟨_, (true), eqs, H', ⟨by first | omega | exact Nat.le_refl _⟩, ⟨bk a7⟩, ⟨bb HB⟩⟩
  rw [if_pos c8] at H
  have h6 := beq_iff_eq.mpr c8
  have n8 := bne_eq_false_iff_eq.mpr c8
  clear c8
  (first | rw [h6] | (simp only [i64_w, i32_w]; rw [h6]) | skip)
  by_cases c9 : a1 < 0
  rotate_left
  ·rw [if_neg c9] at H
   have n7 := decide_eq_false c9
   clear c9
   have H' := Aside0.mk H
   clear H
   obtain ⟨p5, p4, o7, o6⟩ := cz2 a7
   go_wp2_with (first | ((with_reducible refine gate_dst (N := 12) rfl ?_); (try (refine gate_guard (by rfl) ?_; dsimp only)); refine Kd.R_lit (Kd.int .i64) _ 3 ?hg (N := 12) ?hd (xs := ([a2, a3] : List Int)) (inner := [.int .i64 a2, .int .i64 a3]) (ok := fun _ => True) (okp := fun _ => True) ?hr ?hp (fun _ hk => hk) trivial (Below.refl _ _) (Nat.le_refl _) (by simp) ?_; (case hd => rfl); (case hg => rfl); (case hr => first | (go_simp; done) | (go_simp; rfl)); (case hp => exact (Reps.one (show Kd.M (Kd.int .i64) _ _ _ a2 [.int .i64 a2] from rfl) (Reps.one (show Kd.M (Kd.int .i64) _ _ _ a3 [.int .i64 a3] from rfl) (Reps.none _ _)))); intro m6 r2 h4 hb hg_ hnew_; clear hg_ hnew_; (first | rw [← e3.out] at h4 | (simp only [Int.reduceToNat] at h4; rw [← e3.out] at h4)); have a9 := Aside0.mk (Kd.R_lower h4 (below_size (bb HB))); replace a7 := bkb a7 hb; replace HB := bstep HB hb; clear hb h4; obtain ⟨o0, n5, eo18⟩ := Kd.R_slice a9.out; subst eo18) | ((with_reducible refine gate_callee (f := 79) rfl ?_); refine gl 13 Tryz.func79 #[.agg #[.slice c3 a8.length c2, .slice g0 a5.length c1], .slice o0 e7.length n5] (h := ?_); (with_reducible refine (types_given.calls k _ _ a8 _ _ a5 _ _ e7 d4 _ ?c0 ?b9 ?b8 ?b7 ?g2 ?g1 A7.out).mono ?_); (case c0 => exact cb e4 HB); (case b9 => exact e6.out); (case b8 => exact cb c4 HB); (case b7 => exact e5.out); (case g2 => repeat (first | exact (Kd.R_reads' a9.out).2.2 | (with_reducible refine Kd.C_alloc ?_ _) | (with_reducible refine Kd.C_drewN ?_ _) | (with_reducible refine Kd.C_drew ?_))); (case g1 => exact (Kd.R_reads' a9.out).2.1); rintro e r1 ⟨rfl, hb⟩; refine ⟨_, rfl, ?_⟩; replace a9 := kRb a9 hb; replace a7 := bkb a7 hb; replace HB := bstep HB hb; (try clear hb); (try clear hb2); (try clear hk); (try clear hi); obtain ⟨p3, p2, o5, o4⟩ := cz2 a7))
   go_meet
   case rel => exact ⟨_, (decide (a1 ≥ (a5.length : Int))), eqs, H', ⟨by first | omega | exact Nat.le_refl _⟩, ⟨bk a7⟩, ⟨bb HB⟩⟩
  rw [if_pos c9] at H
  have n7 := decide_eq_true c9
  clear c9
  have H' := Aside0.mk H
  clear H
  obtain ⟨p7, p6, o9, o8⟩ := cz2 a7
  go_wp2_with (first | ((with_reducible refine gate_dst (N := 12) rfl ?_); (try (refine gate_guard (by rfl) ?_; dsimp only)); refine Kd.R_lit (Kd.int .i64) _ 3 ?hg (N := 12) ?hd (xs := ([a2, a3] : List Int)) (inner := [.int .i64 a2, .int .i64 a3]) (ok := fun _ => True) (okp := fun _ => True) ?hr ?hp (fun _ hk => hk) trivial (Below.refl _ _) (Nat.le_refl _) (by simp) ?_; (case hd => rfl); (case hg => rfl); (case hr => first | (go_simp; done) | (go_simp; rfl)); (case hp => exact (Reps.one (show Kd.M (Kd.int .i64) _ _ _ a2 [.int .i64 a2] from rfl) (Reps.one (show Kd.M (Kd.int .i64) _ _ _ a3 [.int .i64 a3] from rfl) (Reps.none _ _)))); intro m6 r4 h5 hb hg_ hnew_; clear hg_ hnew_; (first | rw [← e3.out] at h5 | (simp only [Int.reduceToNat] at h5; rw [← e3.out] at h5)); have a9 := Aside0.mk (Kd.R_lower h5 (below_size (bb HB))); replace a7 := bkb a7 hb; replace HB := bstep HB hb; clear hb h5; obtain ⟨o1, n6, eo13⟩ := Kd.R_slice a9.out; subst eo13) | ((with_reducible refine gate_callee (f := 79) rfl ?_); refine gl 13 Tryz.func79 #[.agg #[.slice c3 a8.length c2, .slice g0 a5.length c1], .slice o1 e7.length n6] (h := ?_); (with_reducible refine (types_given.calls k _ _ a8 _ _ a5 _ _ e7 d4 _ ?c0 ?b9 ?b8 ?b7 ?g2 ?g1 A7.out).mono ?_); (case c0 => exact cb e4 HB); (case b9 => exact e6.out); (case b8 => exact cb c4 HB); (case b7 => exact e5.out); (case g2 => repeat (first | exact (Kd.R_reads' a9.out).2.2 | (with_reducible refine Kd.C_alloc ?_ _) | (with_reducible refine Kd.C_drewN ?_ _) | (with_reducible refine Kd.C_drew ?_))); (case g1 => exact (Kd.R_reads' a9.out).2.1); rintro e r3 ⟨rfl, hb⟩; refine ⟨_, rfl, ?_⟩; replace a9 := kRb a9 hb; replace a7 := bkb a7 hb; replace HB := bstep HB hb; (try clear hb); (try clear hb2); (try clear hk); (try clear hi)))
  go_meet
  case rel => exact ⟨_, (true), eqs, H', ⟨by first | omega | exact Nat.le_refl _⟩, ⟨bk a7⟩, ⟨bb HB⟩⟩
 case rest =>
  clear m8
  obtain ⟨kq, h2, rfl, HA, r5, a7, HB⟩ := hcut
  cases kq with
  | zero => exact absurd HA.out (by simp [types_Fits.j0])
  | succ m7 =>
   have H := HA.out
   clear HA
   simp only [types_Fits.j0] at H
   by_cases m5 : h2 = true
   ·subst m5
    replace H := ift H
    obtain rfl := Option.some.inj H
    go_wp2
    go_ret
    exact ⟨erf, bb HB⟩
   replace m5 := Bool.eq_false_iff.mpr m5
   subst m5
   replace H := iff_ H
   obtain ⟨n1, H⟩ := itn H
   have q2 := decide_eq_true n1
   clear n1
   obtain ⟨n0, H⟩ := itn H
   have q1 := decide_eq_true n0
   clear n0
   obtain ⟨j6, n2, H⟩ := obA H
   by_cases m4 : j6 = true
   rotate_left
   ·replace m4 := Bool.eq_false_iff.mpr m4
    subst m4
    replace H := iff_ H
    obtain rfl := Option.some.inj H
    try go_wp2
    replace a7 := Aside0.mk (blk_drew a7.out)
    replace HB := Aside0.mk (below_drew1 HB.out)
    have e9 : 0 ≤ a1 := odt
    have e8 : a1 < (a5.length : Int) := odt
    obtain ⟨a6, j9, b6, b5, b4, b3, b2, b1, b0⟩ := at_T101 c4.out a1 e9 e8
    have c5 := b0
    have c6 := b1
    have c7 := b2
    have d0 := b3
    have d1 := b4
    have d2 := b5
    have d3 := b6
    cases j9
    replace b6 := hxc HB b6
    replace b5 := hxc HB b5
    replace b4 := hxc HB b4
    replace b3 := hxc HB b3
    replace b2 := hxc HB b2
    replace b1 := hxc HB b1
    replace b0 := hxc HB b0
    replace e9 := eq_true e9
    replace e8 := eq_true e8
    refine start_ (n := 21) (S := fun w' => w'.cell? ⟨g4, 0, none⟩ = some (.slice c3 a8.length c2) ∧ w'.cell? ⟨g4, 1, none⟩ = some (.slice (some a6) a5.length c1) ∧ w'.cell? (a6.add ((a1).toNat * 7)) = some (.string ((rd_T101 a5 a1).f0)) ∧ w'.cell? ⟨(a6.add ((a1).toNat * 7)).block, (a6.add ((a1).toNat * 7)).off + 1, none⟩ = some (.int .i64 ((rd_T101 a5 a1).f1)) ∧ w'.cell? ⟨(a6.add ((a1).toNat * 7)).block, (a6.add ((a1).toNat * 7)).off + 2, none⟩ = some (.int .i64 ((rd_T101 a5 a1).f2)) ∧ w'.cell? ⟨(a6.add ((a1).toNat * 7)).block, (a6.add ((a1).toNat * 7)).off + 3, none⟩ = some (.int .i64 ((rd_T101 a5 a1).f3)) ∧ w'.cell? ⟨(a6.add ((a1).toNat * 7)).block, (a6.add ((a1).toNat * 7)).off + 4, none⟩ = some (.int .i64 ((rd_T101 a5 a1).f4)) ∧ w'.cell? ⟨(a6.add ((a1).toNat * 7)).block, (a6.add ((a1).toNat * 7)).off + 5, none⟩ = some (.int .i64 ((rd_T101 a5 a1).f5)) ∧ w'.cell? ⟨(a6.add ((a1).toNat * 7)).block, (a6.add ((a1).toNat * 7)).off + 6, none⟩ = some (.int .i64 ((rd_T101 a5 a1).f6))) (ds := []) #[false, false, false, false, false, false, false, false, false, false, false, false, false, false, false, false, false, false, false, false, false] (by kernel_rfl) rfl rfl ⟨bc a7 0, bc a7 1, (hxc HB d3), (hxc HB d2), (hxc HB d1), (hxc HB d0), (hxc HB c7), (hxc HB c6), (hxc HB c5)⟩ (fun hHeld => ?_); refine with_tabW types_Fits.tab3 types_Fits.bits3 (fun HT_ HW_ => ?_)
    generalize wc.drew = q5 at a7 HB b6 b5 b4 b3 b2 b1 b0 hHeld ⊢
    refine pu 1 27 (bits 21 0x2) HT_ (h := ?_)
    refine pu 2 28 (bits 21 0x6) HT_ (h := ?_)
    refine pu 4 30 (bits 21 0x16) HT_ (h := ?_)
    refine tk 0 26 (bits 21 0x17) HT_ HW_ hHeld (hy := by rintro w' ⟨s0, s1, s2, s3, s4, s5, s6, s7, s8⟩; go_simp; with_reducible rfl) (h := ?_)
    refine tk 3 29 (bits 21 0x1f) HT_ HW_ hHeld (hy := by rintro w' ⟨s0, s1, s2, s3, s4, s5, s6, s7, s8⟩; go_simp; with_reducible rfl) (h := ?_)
    refine pu 5 31 (bits 21 0x3f) HT_ (h := ?_)
    refine pu 6 32 (bits 21 0x7f) HT_ (h := ?_)
    refine tk 7 33 (bits 21 0xff) HT_ HW_ hHeld (hy := by rintro w' ⟨s0, s1, s2, s3, s4, s5, s6, s7, s8⟩; go_simp; with_reducible rfl) (h := ?_)
    refine one_ (i := 8) (N := some 34) #[true, true, true, true, true, true, true, true, true, false, false, false, false, false, false, false, false, false, false, false, false] rfl rfl (one_of HT_.out (by kernel_rfl)) (by decide) (fun K hK => ?_)
    refine goes_ Tryz.func80 (by kernel_rfl) rfl #[.agg #[.slice c3 a8.length c2, .slice (some a6) a5.length c1], .int .i64 a2, .int .i64 ((rd_T101 a5 a1).f1)] (by rfl) rfl rfl (by (try simp only [List.map_toArray, List.map_cons, List.map_nil]); first | done | rfl | (simp only [List.length_drop, List.length_take]; rfl)) ?_
    with_reducible refine (types_is.calls m7 _ _ a8 _ _ a5 a2 ((rd_T101 a5 a1).f1) false _ ?c0 ?b9 ?b8 ?b7 n2.out).mono ?_
    (case c0 => exact cb e4 HB)
    (case b9 => exact e6.out)
    (case b8 => exact cb c4 HB)
    (case b7 => exact e5.out)
    rintro e q4 ⟨rfl, hb⟩
    refine ⟨_, rfl, ?_⟩
    replace a7 := bkb a7 hb
    replace HB := bstep HB hb
    clear hb
    refine hK.out _ _ ⟨bc a7 0, bc a7 1, (hxc HB d3), (hxc HB d2), (hxc HB d1), (hxc HB d0), (hxc HB c7), (hxc HB c6), (hxc HB c5)⟩ (fun hHeld => ?_)
    clear hK K
    refine norm_ (a' := ?_) ?_ ?_
    rotate_left
    ·show Act.put _ (some 34) _ = _
     simp only [Act.put, List.setIfInBounds_toArray, List.set_cons_zero, List.set_cons_succ, i64_w, i32_w]
     rfl
    refine pu 9 35 (bits 21 0x3ff) HT_ (h := ?_)
    refine pn 10 36 (bits 21 0x7ff) HT_ (h := ?_)
    refine pn 11 37 (bits 21 0xfff) HT_ (h := ?_)
    refine pn 12 38 (bits 21 0x1fff) HT_ (h := ?_)
    refine pn 13 39 (bits 21 0x3fff) HT_ (h := ?_)
    refine pn 14 40 (bits 21 0x7fff) HT_ (h := ?_)
    refine pn 15 41 (bits 21 0xffff) HT_ (h := ?_)
    refine pn 16 42 (bits 21 0x1ffff) HT_ (h := ?_)
    refine pn 17 43 (bits 21 0x3ffff) HT_ (h := ?_)
    refine pn 18 44 (bits 21 0x7ffff) HT_ (h := ?_)
    refine pu 19 45 (bits 21 0xfffff) HT_ (h := ?_)
    refine pu 20 8 (bits 21 0x1fffff) HT_ (h := ?_)
    refine done_ (done_of HT_.out (by kernel_rfl)) ?_
    try go_wp2
    go_ret
    exact ⟨erf, bb HB⟩
   subst m4
   replace H := ift H
   obtain ⟨j5, q0, H⟩ := obA H
   obtain rfl := Option.some.inj H
   try go_wp2
   replace a7 := Aside0.mk (blk_drew a7.out)
   replace HB := Aside0.mk (below_drew1 HB.out)
   have e9 : 0 ≤ a1 := odt
   have e8 : a1 < (a5.length : Int) := odt
   obtain ⟨a6, j9, b6, b5, b4, b3, b2, b1, b0⟩ := at_T101 c4.out a1 e9 e8
   have c5 := b0
   have c6 := b1
   have c7 := b2
   have d0 := b3
   have d1 := b4
   have d2 := b5
   have d3 := b6
   cases j9
   replace b6 := hxc HB b6
   replace b5 := hxc HB b5
   replace b4 := hxc HB b4
   replace b3 := hxc HB b3
   replace b2 := hxc HB b2
   replace b1 := hxc HB b1
   replace b0 := hxc HB b0
   replace e9 := eq_true e9
   replace e8 := eq_true e8
   have j8 : 0 ≤ a1 := odt
   have j7 : a1 < (a5.length : Int) := odt
   obtain ⟨m9, n3, e2, e1, e0, d9, d8, d7, d6⟩ := at_T101 c4.out a1 j8 j7
   have g5 := d6
   have g6 := d7
   have g7 := d8
   have g8 := d9
   have g9 := e0
   have h0 := e1
   have h1 := e2
   obtain rfl : a6 = m9 := (by injection n3)
   replace e2 := hxc HB e2
   replace e1 := hxc HB e1
   replace e0 := hxc HB e0
   replace d9 := hxc HB d9
   replace d8 := hxc HB d8
   replace d7 := hxc HB d7
   replace d6 := hxc HB d6
   replace j8 := eq_true j8
   replace j7 := eq_true j7
   refine start_ (n := 21) (S := fun w' => w'.cell? ⟨g4, 0, none⟩ = some (.slice c3 a8.length c2) ∧ w'.cell? ⟨g4, 1, none⟩ = some (.slice (some a6) a5.length c1) ∧ w'.cell? (a6.add ((a1).toNat * 7)) = some (.string ((rd_T101 a5 a1).f0)) ∧ w'.cell? ⟨(a6.add ((a1).toNat * 7)).block, (a6.add ((a1).toNat * 7)).off + 1, none⟩ = some (.int .i64 ((rd_T101 a5 a1).f1)) ∧ w'.cell? ⟨(a6.add ((a1).toNat * 7)).block, (a6.add ((a1).toNat * 7)).off + 2, none⟩ = some (.int .i64 ((rd_T101 a5 a1).f2)) ∧ w'.cell? ⟨(a6.add ((a1).toNat * 7)).block, (a6.add ((a1).toNat * 7)).off + 3, none⟩ = some (.int .i64 ((rd_T101 a5 a1).f3)) ∧ w'.cell? ⟨(a6.add ((a1).toNat * 7)).block, (a6.add ((a1).toNat * 7)).off + 4, none⟩ = some (.int .i64 ((rd_T101 a5 a1).f4)) ∧ w'.cell? ⟨(a6.add ((a1).toNat * 7)).block, (a6.add ((a1).toNat * 7)).off + 5, none⟩ = some (.int .i64 ((rd_T101 a5 a1).f5)) ∧ w'.cell? ⟨(a6.add ((a1).toNat * 7)).block, (a6.add ((a1).toNat * 7)).off + 6, none⟩ = some (.int .i64 ((rd_T101 a5 a1).f6)) ∧ w'.cell? (a6.add ((a1).toNat * 7)) = some (.string ((rd_T101 a5 a1).f0)) ∧ w'.cell? ⟨(a6.add ((a1).toNat * 7)).block, (a6.add ((a1).toNat * 7)).off + 1, none⟩ = some (.int .i64 ((rd_T101 a5 a1).f1)) ∧ w'.cell? ⟨(a6.add ((a1).toNat * 7)).block, (a6.add ((a1).toNat * 7)).off + 2, none⟩ = some (.int .i64 ((rd_T101 a5 a1).f2)) ∧ w'.cell? ⟨(a6.add ((a1).toNat * 7)).block, (a6.add ((a1).toNat * 7)).off + 3, none⟩ = some (.int .i64 ((rd_T101 a5 a1).f3)) ∧ w'.cell? ⟨(a6.add ((a1).toNat * 7)).block, (a6.add ((a1).toNat * 7)).off + 4, none⟩ = some (.int .i64 ((rd_T101 a5 a1).f4)) ∧ w'.cell? ⟨(a6.add ((a1).toNat * 7)).block, (a6.add ((a1).toNat * 7)).off + 5, none⟩ = some (.int .i64 ((rd_T101 a5 a1).f5)) ∧ w'.cell? ⟨(a6.add ((a1).toNat * 7)).block, (a6.add ((a1).toNat * 7)).off + 6, none⟩ = some (.int .i64 ((rd_T101 a5 a1).f6))) (ds := []) #[false, false, false, false, false, false, false, false, false, false, false, false, false, false, false, false, false, false, false, false, false] (by kernel_rfl) rfl rfl ⟨bc a7 0, bc a7 1, (hxc HB d3), (hxc HB d2), (hxc HB d1), (hxc HB d0), (hxc HB c7), (hxc HB c6), (hxc HB c5), (hxc HB h1), (hxc HB h0), (hxc HB g9), (hxc HB g8), (hxc HB g7), (hxc HB g6), (hxc HB g5)⟩ (fun hHeld => ?_); refine with_tabW types_Fits.tab3 types_Fits.bits3 (fun HT_ HW_ => ?_)
   generalize wc.drew = q8 at a7 HB b6 b5 b4 b3 b2 b1 b0 e2 e1 e0 d9 d8 d7 d6 hHeld ⊢
   refine pu 1 27 (bits 21 0x2) HT_ (h := ?_)
   refine pu 2 28 (bits 21 0x6) HT_ (h := ?_)
   refine pu 4 30 (bits 21 0x16) HT_ (h := ?_)
   refine tk 0 26 (bits 21 0x17) HT_ HW_ hHeld (hy := by rintro w' ⟨s0, s1, s2, s3, s4, s5, s6, s7, s8, s9, j4, j3, j2, j1, h9, h8⟩; go_simp; with_reducible rfl) (h := ?_)
   refine tk 3 29 (bits 21 0x1f) HT_ HW_ hHeld (hy := by rintro w' ⟨s0, s1, s2, s3, s4, s5, s6, s7, s8, s9, j4, j3, j2, j1, h9, h8⟩; go_simp; with_reducible rfl) (h := ?_)
   refine pu 5 31 (bits 21 0x3f) HT_ (h := ?_)
   refine pu 6 32 (bits 21 0x7f) HT_ (h := ?_)
   refine tk 7 33 (bits 21 0xff) HT_ HW_ hHeld (hy := by rintro w' ⟨s0, s1, s2, s3, s4, s5, s6, s7, s8, s9, j4, j3, j2, j1, h9, h8⟩; go_simp; with_reducible rfl) (h := ?_)
   refine one_ (i := 8) (N := some 34) #[true, true, true, true, true, true, true, true, true, false, false, false, false, false, false, false, false, false, false, false, false] rfl rfl (one_of HT_.out (by kernel_rfl)) (by decide) (fun K hK => ?_)
   refine goes_ Tryz.func80 (by kernel_rfl) rfl #[.agg #[.slice c3 a8.length c2, .slice (some a6) a5.length c1], .int .i64 a2, .int .i64 ((rd_T101 a5 a1).f1)] (by rfl) rfl rfl (by (try simp only [List.map_toArray, List.map_cons, List.map_nil]); first | done | rfl | (simp only [List.length_drop, List.length_take]; rfl)) ?_
   with_reducible refine (types_is.calls m7 _ _ a8 _ _ a5 a2 ((rd_T101 a5 a1).f1) true _ ?c0 ?b9 ?b8 ?b7 n2.out).mono ?_
   (case c0 => exact cb e4 HB)
   (case b9 => exact e6.out)
   (case b8 => exact cb c4 HB)
   (case b7 => exact e5.out)
   rintro e q7 ⟨rfl, hb⟩
   refine ⟨_, rfl, ?_⟩
   replace a7 := bkb a7 hb
   replace HB := bstep HB hb
   clear hb
   refine hK.out _ _ ⟨bc a7 0, bc a7 1, (hxc HB d3), (hxc HB d2), (hxc HB d1), (hxc HB d0), (hxc HB c7), (hxc HB c6), (hxc HB c5), (hxc HB h1), (hxc HB h0), (hxc HB g9), (hxc HB g8), (hxc HB g7), (hxc HB g6), (hxc HB g5)⟩ (fun hHeld => ?_)
   clear hK K
   refine norm_ (a' := ?_) ?_ ?_
   rotate_left
   ·show Act.put _ (some 34) _ = _
    simp only [Act.put, List.setIfInBounds_toArray, List.set_cons_zero, List.set_cons_succ, i64_w, i32_w]
    rfl
   refine pu 9 35 (bits 21 0x3ff) HT_ (h := ?_)
   refine pu 11 37 (bits 21 0xbff) HT_ (h := ?_)
   refine pu 12 38 (bits 21 0x1bff) HT_ (h := ?_)
   refine pu 14 40 (bits 21 0x5bff) HT_ (h := ?_)
   refine tk 10 36 (bits 21 0x5fff) HT_ HW_ hHeld (hy := by rintro w' ⟨s0, s1, s2, s3, s4, s5, s6, s7, s8, s9, j4, j3, j2, j1, h9, h8⟩; go_simp; with_reducible rfl) (h := ?_)
   refine tk 13 39 (bits 21 0x7fff) HT_ HW_ hHeld (hy := by rintro w' ⟨s0, s1, s2, s3, s4, s5, s6, s7, s8, s9, j4, j3, j2, j1, h9, h8⟩; go_simp; with_reducible rfl) (h := ?_)
   refine pu 15 41 (bits 21 0xffff) HT_ (h := ?_)
   refine pu 16 42 (bits 21 0x1ffff) HT_ (h := ?_)
   refine tk 17 43 (bits 21 0x3ffff) HT_ HW_ hHeld (hy := by rintro w' ⟨s0, s1, s2, s3, s4, s5, s6, s7, s8, s9, j4, j3, j2, j1, h9, h8⟩; go_simp; with_reducible rfl) (h := ?_)
   refine one_ (i := 18) (N := some 44) #[true, true, true, true, true, true, true, true, true, true, true, true, true, true, true, true, true, true, true, false, false] rfl rfl (one_of HT_.out (by kernel_rfl)) (by decide) (fun K hK => ?_)
   refine goes_ Tryz.func80 (by kernel_rfl) rfl #[.agg #[.slice c3 a8.length c2, .slice (some a6) a5.length c1], .int .i64 a3, .int .i64 ((rd_T101 a5 a1).f2)] (by rfl) rfl rfl (by (try simp only [List.map_toArray, List.map_cons, List.map_nil]); first | done | rfl | (simp only [List.length_drop, List.length_take]; rfl)) ?_
   with_reducible refine (types_is.calls m7 _ _ a8 _ _ a5 a3 ((rd_T101 a5 a1).f2) j5 _ ?c0 ?b9 ?b8 ?b7 q0.out).mono ?_
   (case c0 => exact cb e4 HB)
   (case b9 => exact e6.out)
   (case b8 => exact cb c4 HB)
   (case b7 => exact e5.out)
   rintro e q6 ⟨rfl, hb⟩
   refine ⟨_, rfl, ?_⟩
   replace a7 := bkb a7 hb
   replace HB := bstep HB hb
   clear hb
   refine hK.out _ _ ⟨bc a7 0, bc a7 1, (hxc HB d3), (hxc HB d2), (hxc HB d1), (hxc HB d0), (hxc HB c7), (hxc HB c6), (hxc HB c5), (hxc HB h1), (hxc HB h0), (hxc HB g9), (hxc HB g8), (hxc HB g7), (hxc HB g6), (hxc HB g5)⟩ (fun hHeld => ?_)
   clear hK K
   refine norm_ (a' := ?_) ?_ ?_
   rotate_left
   ·show Act.put _ (some 44) _ = _
    simp only [Act.put, List.setIfInBounds_toArray, List.set_cons_zero, List.set_cons_succ, i64_w, i32_w]
    rfl
   refine pu 19 45 (bits 21 0xfffff) HT_ (h := ?_)
   refine pu 20 8 (bits 21 0x1fffff) HT_ (h := ?_)
   refine done_ (done_of HT_.out (by kernel_rfl)) ?_
   try go_wp2
   go_ret
   exact ⟨erf, bb HB⟩
end Go.Proofs.YtfpianecohobjaaGreat.P
