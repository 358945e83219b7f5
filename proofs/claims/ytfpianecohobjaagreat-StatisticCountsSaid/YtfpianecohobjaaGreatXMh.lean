/- StatisticOf: a part of its proof. No condition. -/
import Derived.Test.YtfpianecohobjaaGreatXPx0
import Derived.Test.YtfpianecohobjaaGreatXMa
import Derived.Test.YtfpianecohobjaaGreatXMg
import Derived.Test.YtfpianecohobjaaGreatXMc
import Derived.Test.YtfpianecohobjaaGreatXH2
namespace Go.Proofs.YtfpianecohobjaaGreat.P
open Go.RowKit Go.Proofs.YtfpianecohobjaaGreatW.PrintWords Go.Proofs.YtfpianecohobjaaGreatW.PrintLast Go.Proofs.YtfpianecohobjaaGreatW.PrintMore
set_option maxHeartbeats 8000000
set_option maxRecDepth 100000
set_option linter.unusedVariables false
set_option linter.unusedSimpArgs false
def types_Fits.j0 : Nat → Int → Int → Int → Bool → List (S96) → List (S101) → Option (Bool)
 | 0, _, _, _, _, _, _ => none
 | k + 1, x1, x2, x3, p8, h7, d5 => if p8 = true then (some false) else (if 0 ≤ x1 then (if x1 < (d5.length : Int) then ((types_is.f k h7 d5 x2 ((rd_T101 d5 x1).f1)).bind fun j6 => (if j6 = true then ((types_is.f k h7 d5 x3 ((rd_T101 d5 x1).f2)).bind fun j5 => (some j5)) else (some false))) else (none)) else (none))
def types_Fits.f (k : Nat) (a8 : List (S96)) (a5 : List (S101)) (a1 : Int) (a2 : Int) (a3 : Int) : Option (Bool) := (types_given.f k a8 a5 (([a2, a3] : List Int))).bind fun d4 => (if d4 = 0 then (if a1 < 0 then (types_Fits.j0 k a1 a2 a3 true a8 a5) else (types_Fits.j0 k a1 a2 a3 (decide (a1 ≥ (a5.length : Int))) a8 a5)) else (types_Fits.j0 k a1 a2 a3 true a8 a5))
theorem types_Fits.mono_l : ∀ k, (∀ y0 y1 y2 y3 y4 y5, LeO (types_Fits.j0 k y0 y1 y2 y3 y4 y5) (types_Fits.j0 (k + 1) y0 y1 y2 y3 y4 y5))
 | 0 => fun _ _ _ _ _ _ r h => by simp [types_Fits.j0] at h
 | k + 1 => by
  have ih0 := types_Fits.mono_l k
  ·intro y0 y1 y2 y3 y4 y5
   unfold types_Fits.j0
   repeat' first
   | (with_reducible exact ih0 _ _ _ _ _ _)
   | (with_reducible exact types_given.mono _ _ _ _)
   | (with_reducible exact types_is.mono _ _ _ _ _)
   | (with_reducible exact LeO.refl _)
   | (with_reducible exact LeO.none _)
   | (with_reducible refine LeO.ite ?_ ?_)
   | (with_reducible refine LeO.bind ?_ (fun _ => ?_))
theorem types_Fits.mono : ∀ a0 a1 a2 a3 a4 k, LeO (types_Fits.f k a0 a1 a2 a3 a4) (types_Fits.f (k + 1) a0 a1 a2 a3 a4) := by
 intro a0 a1 a2 a3 a4 k
 have ih0 := types_Fits.mono_l k
 unfold types_Fits.f
 repeat' first
   | (with_reducible exact ih0 _ _ _ _ _ _)
   | (with_reducible exact types_given.mono _ _ _ _)
   | (with_reducible exact types_is.mono _ _ _ _ _)
   | (with_reducible exact LeO.refl _)
   | (with_reducible exact LeO.none _)
   | (with_reducible refine LeO.ite ?_ ?_)
   | (with_reducible refine LeO.bind ?_ (fun _ => ?_))
def types_Fits.T3 : Bool × List (List Nat × List Nat) := (true, [([], []), ([], []), ([], []), ([2], [2]), ([], []), ([3, 4], [3, 4]), ([5], [5]), ([6], [6]), ([0, 1, 7], [0, 1, 7]), ([8, 8], [8]), ([9], [9]), ([9], [9]), ([9], [9]), ([12, 9], [9, 12]), ([9], [9]), ([13, 14, 9], [9, 13, 14]), ([15, 9], [9, 15]), ([16, 9], [9, 16]), ([10, 11, 17, 9, 9], [9, 10, 11, 17]), ([9, 18], [9, 18]), ([19, 18, 0, 1, 2, 3, 4, 5, 6, 7, 8, 9, 10, 11, 12, 13, 14, 15, 16, 17, 18, 19], [19])])
def types_Fits.B3 : List Nat := [0, 0, 0, 4, 0, 28, 60, 124, 255, 511, 1023, 1023, 1023, 5119, 1023, 29695, 62463, 127999, 262143, 524287, 1048575]
theorem types_Fits.tab3 : rtab .any (opsOf Tryz.f53 3) = types_Fits.T3 := by kernel_rfl
theorem types_Fits.bits3 : waitsOk types_Fits.T3.2 types_Fits.B3 = true := by kernel_rfl
theorem types_Fits.calls (k : Nat) (c3 : Option Addr) (c2 : Nat) (a8 : List (S96)) (g0 : Option Addr) (c1 : Nat) (a5 : List (S101)) (a1 : Int) (a2 : Int) (a3 : Int) (r : Bool) (w : World) (m1 : Kd.C k96 w c3 a8.length a8) (m3 : a8.length ≤ c2) (m0 : Kd.C k101 w g0 a5.length a5) (m2 : a5.length ≤ c1) (h : types_Fits.f k a8 a5 a1 a2 a3 = some r) :
  Calls Tryz.prog 53 #[.agg #[.slice c3 a8.length c2, .slice g0 a5.length c1], .int .i64 a1, .int .i64 a2, .int .i64 a3] w fun e w' => e = .returned (.bool r) ∧ Below w.heap.size w w' := by
 have hu31 := Tryz.underlying31
 have e4 := am m1
 have e6 := am m3
 clear m1 m3
 have c4 := am m0
 have e5 := am m2
 clear m0 m2
 have HB := am (Below.refl w.heap.size w)
 have H : ((types_given.f k a8 a5 (([a2, a3] : List Int))).bind fun d4 => (if d4 = 0 then (if a1 < 0 then (types_Fits.j0 k a1 a2 a3 true a8 a5) else (types_Fits.j0 k a1 a2 a3 (decide (a1 ≥ (a5.length : Int))) a8 a5)) else (types_Fits.j0 k a1 a2 a3 true a8 a5))) = some r := h
 clear h
 have m8 := am H
 clear H
 go_enter Tryz.func53, Tryz.ntmps53
 go_upto_region 1 with ((with_reducible refine gate_dst (N := 4) rfl ?_); (try (refine gate_guard (by rfl) ?_; dsimp only)); refine be 4 #[.slice c3 a8.length c2, .slice g0 a5.length c1] 31 ?_; intro g4 hg w6 hbox hb; have a7 := am (hbox); have q3 := bsz HB hg; replace HB := bstep HB hb; clear hb hbox hg)
 (try simp only [Act.put, List.setIfInBounds_toArray, List.set_cons_zero, List.set_cons_succ])
 go_cut [25] (fun p9 wc => ∃ (kq : Nat) (h2 : Bool), p9 = .bool h2 ∧ Aside0 (types_Fits.j0 kq a1 a2 a3 h2 a8 a5 = some r) ∧ Aside0 (kq ≤ k) ∧ Aside0 (wc.heap[g4]? = some (.cells #[(.slice c3 a8.length c2), (.slice g0 a5.length c1)] 31 (0, 0))) ∧ Aside0 (Below w.heap.size w wc))
 case first =>
  have H := m8.out
  clear m8
  obtain ⟨e7, e3⟩ := leq (α := List Int) (([a2, a3] : List Int))
  rw [← e3.out] at H
  obtain ⟨d4, A7, H⟩ := obA H
  by_cases c8 : d4 = 0
  rotate_left
  ·rw [if_neg c8] at H
   have h6 := beq_eq_false_iff_ne.mpr c8
   have n8 := bne_iff_ne.mpr c8
   (first | rw [h6] | (simp only [i64_w, i32_w]; rw [h6]) | skip)
   have H' := am H
   clear H
   obtain ⟨p1, p0, o3, o2⟩ := cz2 a7
   go_wp2_with (first | ((with_reducible refine gate_dst (N := 12) rfl ?_); (try (refine gate_guard (by rfl) ?_; dsimp only)); refine Kd.R_lit (Kd.int .i64) _ 3 ?hg (N := 12) ?hd (xs := ([a2, a3] : List Int)) (inner := [.int .i64 a2, .int .i64 a3]) (ok := fun _ => True) (okp := fun _ => True) ?hr ?hp (fun _ hk => hk) trivial (Below.refl _ _) (Nat.le_refl _) (by simp) ?_; (case hd => rfl); (case hg => rfl); (case hr => first | (go_simp; done) | (go_simp; rfl)); (case hp => exact (Reps.one (show Kd.M (Kd.int .i64) _ _ _ a2 [.int .i64 a2] from rfl) (Reps.one (show Kd.M (Kd.int .i64) _ _ _ a3 [.int .i64 a3] from rfl) (Reps.none _ _)))); intro m6 r0 h3 hb hg_ hnew_; clear hg_ hnew_; (first | rw [← e3.out] at h3 | (simp only [Int.reduceToNat] at h3; rw [← e3.out] at h3)); have a9 := am (Kd.R_lower h3 (below_size (bb HB))); replace a7 := bkb a7 hb; replace HB := bstep HB hb; clear hb h3; obtain ⟨n9, n4, eo24⟩ := Kd.R_slice a9.out; subst eo24) | ((with_reducible refine gate_callee (f := 79) rfl ?_); refine gl 13 Tryz.func79 #[.agg #[.slice c3 a8.length c2, .slice g0 a5.length c1], .slice n9 e7.length n4] (h := ?_); (with_reducible refine (types_given.calls k _ _ a8 _ _ a5 _ _ e7 d4 _ ?c0 ?b9 ?b8 ?b7 ?g2 ?g1 A7.out).mono ?_); (case c0 => exact cb e4 HB); (case b9 => exact e6.out); (case b8 => exact cb c4 HB); (case b7 => exact e5.out); (case g2 => repeat (first | exact (Kd.R_reads' a9.out).2.2 | (with_reducible refine Kd.C_alloc ?_ _) | (with_reducible refine Kd.C_drewN ?_ _) | (with_reducible refine Kd.C_drew ?_))); (case g1 => exact (Kd.R_reads' a9.out).2.1); rintro e q9 ⟨rfl, hb⟩; refine ⟨_, rfl, ?_⟩; replace a9 := kRb a9 hb; replace a7 := bkb a7 hb; replace HB := bstep HB hb; (try clear hb); (try clear hb2); (try clear hk); (try clear hi)))
   go_meet
   case rel => exact ⟨_, (true), eqs, H', ⟨by first | omega | exact Nat.le_refl _⟩, ⟨bk a7⟩, ⟨bb HB⟩⟩
  rw [if_pos c8] at H
  have h6 := beq_iff_eq.mpr c8
  have n8 := bne_eq_false_iff_eq.mpr c8
  clear c8
  (first | rw [h6] | (simp only [i64_w, i32_w]; rw [h6]) | skip)
  by_cases c9 : a1 < 0
  rotate_left
  ·rw [if_neg c9] at H
   have n7 := decide_eq_false c9
   clear c9
   have H' := am H
   clear H
   obtain ⟨p5, p4, o7, o6⟩ := cz2 a7
   go_wp2_with (first | ((with_reducible refine gate_dst (N := 12) rfl ?_); (try (refine gate_guard (by rfl) ?_; dsimp only)); refine Kd.R_lit (Kd.int .i64) _ 3 ?hg (N := 12) ?hd (xs := ([a2, a3] : List Int)) (inner := [.int .i64 a2, .int .i64 a3]) (ok := fun _ => True) (okp := fun _ => True) ?hr ?hp (fun _ hk => hk) trivial (Below.refl _ _) (Nat.le_refl _) (by simp) ?_; (case hd => rfl); (case hg => rfl); (case hr => first | (go_simp; done) | (go_simp; rfl)); (case hp => exact (Reps.one (show Kd.M (Kd.int .i64) _ _ _ a2 [.int .i64 a2] from rfl) (Reps.one (show Kd.M (Kd.int .i64) _ _ _ a3 [.int .i64 a3] from rfl) (Reps.none _ _)))); intro m6 r2 h4 hb hg_ hnew_; clear hg_ hnew_; (first | rw [← e3.out] at h4 | (simp only [Int.reduceToNat] at h4; rw [← e3.out] at h4)); have a9 := am (Kd.R_lower h4 (below_size (bb HB))); replace a7 := bkb a7 hb; replace HB := bstep HB hb; clear hb h4; obtain ⟨o0, n5, eo18⟩ := Kd.R_slice a9.out; subst eo18) | ((with_reducible refine gate_callee (f := 79) rfl ?_); refine gl 13 Tryz.func79 #[.agg #[.slice c3 a8.length c2, .slice g0 a5.length c1], .slice o0 e7.length n5] (h := ?_); (with_reducible refine (types_given.calls k _ _ a8 _ _ a5 _ _ e7 d4 _ ?c0 ?b9 ?b8 ?b7 ?g2 ?g1 A7.out).mono ?_); (case c0 => exact cb e4 HB); (case b9 => exact e6.out); (case b8 => exact cb c4 HB); (case b7 => exact e5.out); (case g2 => repeat (first | exact (Kd.R_reads' a9.out).2.2 | (with_reducible refine Kd.C_alloc ?_ _) | (with_reducible refine Kd.C_drewN ?_ _) | (with_reducible refine Kd.C_drew ?_))); (case g1 => exact (Kd.R_reads' a9.out).2.1); rintro e r1 ⟨rfl, hb⟩; refine ⟨_, rfl, ?_⟩; replace a9 := kRb a9 hb; replace a7 := bkb a7 hb; replace HB := bstep HB hb; (try clear hb); (try clear hb2); (try clear hk); (try clear hi); obtain ⟨p3, p2, o5, o4⟩ := cz2 a7))
   go_meet
   case rel => exact ⟨_, (decide (a1 ≥ (a5.length : Int))), eqs, H', ⟨by first | omega | exact Nat.le_refl _⟩, ⟨bk a7⟩, ⟨bb HB⟩⟩
  rw [if_pos c9] at H
  have n7 := decide_eq_true c9
  clear c9
  have H' := am H
  clear H
  obtain ⟨p7, p6, o9, o8⟩ := cz2 a7
  go_wp2_with (first | ((with_reducible refine gate_dst (N := 12) rfl ?_); (try (refine gate_guard (by rfl) ?_; dsimp only)); refine Kd.R_lit (Kd.int .i64) _ 3 ?hg (N := 12) ?hd (xs := ([a2, a3] : List Int)) (inner := [.int .i64 a2, .int .i64 a3]) (ok := fun _ => True) (okp := fun _ => True) ?hr ?hp (fun _ hk => hk) trivial (Below.refl _ _) (Nat.le_refl _) (by simp) ?_; (case hd => rfl); (case hg => rfl); (case hr => first | (go_simp; done) | (go_simp; rfl)); (case hp => exact (Reps.one (show Kd.M (Kd.int .i64) _ _ _ a2 [.int .i64 a2] from rfl) (Reps.one (show Kd.M (Kd.int .i64) _ _ _ a3 [.int .i64 a3] from rfl) (Reps.none _ _)))); intro m6 r4 h5 hb hg_ hnew_; clear hg_ hnew_; (first | rw [← e3.out] at h5 | (simp only [Int.reduceToNat] at h5; rw [← e3.out] at h5)); have a9 := am (Kd.R_lower h5 (below_size (bb HB))); replace a7 := bkb a7 hb; replace HB := bstep HB hb; clear hb h5; obtain ⟨o1, n6, eo13⟩ := Kd.R_slice a9.out; subst eo13) | ((with_reducible refine gate_callee (f := 79) rfl ?_); refine gl 13 Tryz.func79 #[.agg #[.slice c3 a8.length c2, .slice g0 a5.length c1], .slice o1 e7.length n6] (h := ?_); (with_reducible refine (types_given.calls k _ _ a8 _ _ a5 _ _ e7 d4 _ ?c0 ?b9 ?b8 ?b7 ?g2 ?g1 A7.out).mono ?_); (case c0 => exact cb e4 HB); (case b9 => exact e6.out); (case b8 => exact cb c4 HB); (case b7 => exact e5.out); (case g2 => repeat (first | exact (Kd.R_reads' a9.out).2.2 | (with_reducible refine Kd.C_alloc ?_ _) | (with_reducible refine Kd.C_drewN ?_ _) | (with_reducible refine Kd.C_drew ?_))); (case g1 => exact (Kd.R_reads' a9.out).2.1); rintro e r3 ⟨rfl, hb⟩; refine ⟨_, rfl, ?_⟩; replace a9 := kRb a9 hb; replace a7 := bkb a7 hb; replace HB := bstep HB hb; (try clear hb); (try clear hb2); (try clear hk); (try clear hi)))
  go_meet
  case rel => exact ⟨_, (true), eqs, H', ⟨by first | omega | exact Nat.le_refl _⟩, ⟨bk a7⟩, ⟨bb HB⟩⟩
 case rest =>
  clear m8
  obtain ⟨kq, h2, rfl, HA, r5, a7, HB⟩ := hcut
  cases kq with
  | zero => exact absurd HA.out (by simp [types_Fits.j0])
  | succ m7 =>
   have H := HA.out
   clear HA
   simp only [types_Fits.j0] at H
   by_cases m5 : h2 = true
   ·subst m5
    replace H := ift H
    obtain rfl := Option.some.inj H
    go_wp2
    go_ret
    exact ⟨erf, bb HB⟩
   replace m5 := Bool.eq_false_iff.mpr m5
   subst m5
   replace H := iff_ H
   obtain ⟨n1, H⟩ := itn H
   have q2 := decide_eq_true n1
   clear n1
   obtain ⟨n0, H⟩ := itn H
   have q1 := decide_eq_true n0
   clear n0
   obtain ⟨j6, n2, H⟩ := obA H
   by_cases m4 : j6 = true
   rotate_left
   ·replace m4 := Bool.eq_false_iff.mpr m4
    subst m4
    replace H := iff_ H
    obtain rfl := Option.some.inj H
    try go_wp2
    replace a7 := am (blk_drew a7.out)
    replace HB := am (below_drew1 HB.out)
    have e9 : 0 ≤ a1 := odt
    have e8 : a1 < (a5.length : Int) := odt
    obtain ⟨a6, j9, b6, b5, b4, b3, b2, b1, b0⟩ := at_T101 c4.out a1 e9 e8
    have c5 := b0
    have c6 := b1
    have c7 := b2
    have d0 := b3
    have d1 := b4
    have d2 := b5
    have d3 := b6
    cases j9
    replace b6 := hxc HB b6
    replace b5 := hxc HB b5
    replace b4 := hxc HB b4
    replace b3 := hxc HB b3
    replace b2 := hxc HB b2
    replace b1 := hxc HB b1
    replace b0 := hxc HB b0
    replace e9 := eq_true e9
    replace e8 := eq_true e8
    refine start_ (n := 21) (S := fun w' => w'.cell? ⟨g4, 0, none⟩ = some (.slice c3 a8.length c2) ∧ w'.cell? ⟨g4, 1, none⟩ = some (.slice (some a6) a5.length c1) ∧ w'.cell? (a6.add ((a1).toNat * 7)) = some (.string ((rd_T101 a5 a1).f0)) ∧ w'.cell? ⟨(a6.add ((a1).toNat * 7)).block, (a6.add ((a1).toNat * 7)).off + 1, none⟩ = some (.int .i64 ((rd_T101 a5 a1).f1)) ∧ w'.cell? ⟨(a6.add ((a1).toNat * 7)).block, (a6.add ((a1).toNat * 7)).off + 2, none⟩ = some (.int .i64 ((rd_T101 a5 a1).f2)) ∧ w'.cell? ⟨(a6.add ((a1).toNat * 7)).block, (a6.add ((a1).toNat * 7)).off + 3, none⟩ = some (.int .i64 ((rd_T101 a5 a1).f3)) ∧ w'.cell? ⟨(a6.add ((a1).toNat * 7)).block, (a6.add ((a1).toNat * 7)).off + 4, none⟩ = some (.int .i64 ((rd_T101 a5 a1).f4)) ∧ w'.cell? ⟨(a6.add ((a1).toNat * 7)).block, (a6.add ((a1).toNat * 7)).off + 5, none⟩ = some (.int .i64 ((rd_T101 a5 a1).f5)) ∧ w'.cell? ⟨(a6.add ((a1).toNat * 7)).block, (a6.add ((a1).toNat * 7)).off + 6, none⟩ = some (.int .i64 ((rd_T101 a5 a1).f6))) (ds := []) #[false, false, false, false, false, false, false, false, false, false, false, false, false, false, false, false, false, false, false, false, false] (by kernel_rfl) rfl rfl ⟨bc a7 0, bc a7 1, (hxc HB d3), (hxc HB d2), (hxc HB d1), (hxc HB d0), (hxc HB c7), (hxc HB c6), (hxc HB c5)⟩ (fun hHeld => ?_); refine with_tabW types_Fits.tab3 types_Fits.bits3 (fun HT_ HW_ => ?_)
    generalize wc.drew = q5 at a7 HB b6 b5 b4 b3 b2 b1 b0 hHeld ⊢
    refine pu 1 27 (bits 21 0x2) HT_ (h := ?_)
    refine pu 2 28 (bits 21 0x6) HT_ (h := ?_)
    refine pu 4 30 (bits 21 0x16) HT_ (h := ?_)
    refine tk 0 26 (bits 21 0x17) HT_ HW_ hHeld (hy := by rintro w' ⟨s0, s1, s2, s3, s4, s5, s6, s7, s8⟩; go_simp; with_reducible rfl) (h := ?_)
    refine tk 3 29 (bits 21 0x1f) HT_ HW_ hHeld (hy := by rintro w' ⟨s0, s1, s2, s3, s4, s5, s6, s7, s8⟩; go_simp; with_reducible rfl) (h := ?_)
    refine pu 5 31 (bits 21 0x3f) HT_ (h := ?_)
    refine pu 6 32 (bits 21 0x7f) HT_ (h := ?_)
    refine tk 7 33 (bits 21 0xff) HT_ HW_ hHeld (hy := by rintro w' ⟨s0, s1, s2, s3, s4, s5, s6, s7, s8⟩; go_simp; with_reducible rfl) (h := ?_)
    refine one_ (i := 8) (N := some 34) #[true, true, true, true, true, true, true, true, true, false, false, false, false, false, false, false, false, false, false, false, false] rfl rfl (one_of HT_.out (by kernel_rfl)) (by decide) (fun K hK => ?_)
    refine goes_ Tryz.func80 (by kernel_rfl) rfl #[.agg #[.slice c3 a8.length c2, .slice (some a6) a5.length c1], .int .i64 a2, .int .i64 ((rd_T101 a5 a1).f1)] (by rfl) rfl rfl (by (try simp only [List.map_toArray, List.map_cons, List.map_nil]); first | done | rfl | (simp only [List.length_drop, List.length_take]; rfl)) ?_
    with_reducible refine (types_is.calls m7 _ _ a8 _ _ a5 a2 ((rd_T101 a5 a1).f1) false _ ?c0 ?b9 ?b8 ?b7 n2.out).mono ?_
    (case c0 => exact cb e4 HB)
    (case b9 => exact e6.out)
    (case b8 => exact cb c4 HB)
    (case b7 => exact e5.out)
    rintro e q4 ⟨rfl, hb⟩
    refine ⟨_, rfl, ?_⟩
    replace a7 := bkb a7 hb
    replace HB := bstep HB hb
    clear hb
    refine hK.out _ _ ⟨bc a7 0, bc a7 1, (hxc HB d3), (hxc HB d2), (hxc HB d1), (hxc HB d0), (hxc HB c7), (hxc HB c6), (hxc HB c5)⟩ (fun hHeld => ?_)
    clear hK K
    refine norm_ (a' := ?_) ?_ ?_
    rotate_left
    ·show Act.put _ (some 34) _ = _
     simp only [Act.put, List.setIfInBounds_toArray, List.set_cons_zero, List.set_cons_succ, i64_w, i32_w]
     rfl
    refine pu 9 35 (bits 21 0x3ff) HT_ (h := ?_)
    refine pn 10 36 (bits 21 0x7ff) HT_ (h := ?_)
    refine pn 11 37 (bits 21 0xfff) HT_ (h := ?_)
    refine pn 12 38 (bits 21 0x1fff) HT_ (h := ?_)
    refine pn 13 39 (bits 21 0x3fff) HT_ (h := ?_)
    refine pn 14 40 (bits 21 0x7fff) HT_ (h := ?_)
    refine pn 15 41 (bits 21 0xffff) HT_ (h := ?_)
    refine pn 16 42 (bits 21 0x1ffff) HT_ (h := ?_)
    refine pn 17 43 (bits 21 0x3ffff) HT_ (h := ?_)
    refine pn 18 44 (bits 21 0x7ffff) HT_ (h := ?_)
    refine pu 19 45 (bits 21 0xfffff) HT_ (h := ?_)
    refine pu 20 8 (bits 21 0x1fffff) HT_ (h := ?_)
    refine done_ (done_of HT_.out (by kernel_rfl)) ?_
    try go_wp2
    go_ret
    exact ⟨erf, bb HB⟩
   subst m4
   replace H := ift H
   obtain ⟨j5, q0, H⟩ := obA H
   obtain rfl := Option.some.inj H
   try go_wp2
   replace a7 := am (blk_drew a7.out)
   replace HB := am (below_drew1 HB.out)
   have e9 : 0 ≤ a1 := odt
   have e8 : a1 < (a5.length : Int) := odt
   obtain ⟨a6, j9, b6, b5, b4, b3, b2, b1, b0⟩ := at_T101 c4.out a1 e9 e8
   have c5 := b0
   have c6 := b1
   have c7 := b2
   have d0 := b3
   have d1 := b4
   have d2 := b5
   have d3 := b6
   cases j9
   replace b6 := hxc HB b6
   replace b5 := hxc HB b5
   replace b4 := hxc HB b4
   replace b3 := hxc HB b3
   replace b2 := hxc HB b2
   replace b1 := hxc HB b1
   replace b0 := hxc HB b0
   replace e9 := eq_true e9
   replace e8 := eq_true e8
   have j8 : 0 ≤ a1 := odt
   have j7 : a1 < (a5.length : Int) := odt
   obtain ⟨m9, n3, e2, e1, e0, d9, d8, d7, d6⟩ := at_T101 c4.out a1 j8 j7
   have g5 := d6
   have g6 := d7
   have g7 := d8
   have g8 := d9
   have g9 := e0
   have h0 := e1
   have h1 := e2
   obtain rfl : a6 = m9 := (by injection n3)
   replace e2 := hxc HB e2
   replace e1 := hxc HB e1
   replace e0 := hxc HB e0
   replace d9 := hxc HB d9
   replace d8 := hxc HB d8
   replace d7 := hxc HB d7
   replace d6 := hxc HB d6
   replace j8 := eq_true j8
   replace j7 := eq_true j7
   refine start_ (n := 21) (S := fun w' => w'.cell? ⟨g4, 0, none⟩ = some (.slice c3 a8.length c2) ∧ w'.cell? ⟨g4, 1, none⟩ = some (.slice (some a6) a5.length c1) ∧ w'.cell? (a6.add ((a1).toNat * 7)) = some (.string ((rd_T101 a5 a1).f0)) ∧ w'.cell? ⟨(a6.add ((a1).toNat * 7)).block, (a6.add ((a1).toNat * 7)).off + 1, none⟩ = some (.int .i64 ((rd_T101 a5 a1).f1)) ∧ w'.cell? ⟨(a6.add ((a1).toNat * 7)).block, (a6.add ((a1).toNat * 7)).off + 2, none⟩ = some (.int .i64 ((rd_T101 a5 a1).f2)) ∧ w'.cell? ⟨(a6.add ((a1).toNat * 7)).block, (a6.add ((a1).toNat * 7)).off + 3, none⟩ = some (.int .i64 ((rd_T101 a5 a1).f3)) ∧ w'.cell? ⟨(a6.add ((a1).toNat * 7)).block, (a6.add ((a1).toNat * 7)).off + 4, none⟩ = some (.int .i64 ((rd_T101 a5 a1).f4)) ∧ w'.cell? ⟨(a6.add ((a1).toNat * 7)).block, (a6.add ((a1).toNat * 7)).off + 5, none⟩ = some (.int .i64 ((rd_T101 a5 a1).f5)) ∧ w'.cell? ⟨(a6.add ((a1).toNat * 7)).block, (a6.add ((a1).toNat * 7)).off + 6, none⟩ = some (.int .i64 ((rd_T101 a5 a1).f6)) ∧ w'.cell? (a6.add ((a1).toNat * 7)) = some (.string ((rd_T101 a5 a1).f0)) ∧ w'.cell? ⟨(a6.add ((a1).toNat * 7)).block, (a6.add ((a1).toNat * 7)).off + 1, none⟩ = some (.int .i64 ((rd_T101 a5 a1).f1)) ∧ w'.cell? ⟨(a6.add ((a1).toNat * 7)).block, (a6.add ((a1).toNat * 7)).off + 2, none⟩ = some (.int .i64 ((rd_T101 a5 a1).f2)) ∧ w'.cell? ⟨(a6.add ((a1).toNat * 7)).block, (a6.add ((a1).toNat * 7)).off + 3, none⟩ = some (.int .i64 ((rd_T101 a5 a1).f3)) ∧ w'.cell? ⟨(a6.add ((a1).toNat * 7)).block, (a6.add ((a1).toNat * 7)).off + 4, none⟩ = some (.int .i64 ((rd_T101 a5 a1).f4)) ∧ w'.cell? ⟨(a6.add ((a1).toNat * 7)).block, (a6.add ((a1).toNat * 7)).off + 5, none⟩ = some (.int .i64 ((rd_T101 a5 a1).f5)) ∧ w'.cell? ⟨(a6.add ((a1).toNat * 7)).block, (a6.add ((a1).toNat * 7)).off + 6, none⟩ = some (.int .i64 ((rd_T101 a5 a1).f6))) (ds := []) #[false, false, false, false, false, false, false, false, false, false, false, false, false, false, false, false, false, false, false, false, false] (by kernel_rfl) rfl rfl ⟨bc a7 0, bc a7 1, (hxc HB d3), (hxc HB d2), (hxc HB d1), (hxc HB d0), (hxc HB c7), (hxc HB c6), (hxc HB c5), (hxc HB h1), (hxc HB h0), (hxc HB g9), (hxc HB g8), (hxc HB g7), (hxc HB g6), (hxc HB g5)⟩ (fun hHeld => ?_); refine with_tabW types_Fits.tab3 types_Fits.bits3 (fun HT_ HW_ => ?_)
   generalize wc.drew = q8 at a7 HB b6 b5 b4 b3 b2 b1 b0 e2 e1 e0 d9 d8 d7 d6 hHeld ⊢
   refine pu 1 27 (bits 21 0x2) HT_ (h := ?_)
   refine pu 2 28 (bits 21 0x6) HT_ (h := ?_)
   refine pu 4 30 (bits 21 0x16) HT_ (h := ?_)
   refine tk 0 26 (bits 21 0x17) HT_ HW_ hHeld (hy := by rintro w' ⟨s0, s1, s2, s3, s4, s5, s6, s7, s8, s9, j4, j3, j2, j1, h9, h8⟩; go_simp; with_reducible rfl) (h := ?_)
   refine tk 3 29 (bits 21 0x1f) HT_ HW_ hHeld (hy := by rintro w' ⟨s0, s1, s2, s3, s4, s5, s6, s7, s8, s9, j4, j3, j2, j1, h9, h8⟩; go_simp; with_reducible rfl) (h := ?_)
   refine pu 5 31 (bits 21 0x3f) HT_ (h := ?_)
   refine pu 6 32 (bits 21 0x7f) HT_ (h := ?_)
   refine tk 7 33 (bits 21 0xff) HT_ HW_ hHeld (hy := by rintro w' ⟨s0, s1, s2, s3, s4, s5, s6, s7, s8, s9, j4, j3, j2, j1, h9, h8⟩; go_simp; with_reducible rfl) (h := ?_)
   refine one_ (i := 8) (N := some 34) #[true, true, true, true, true, true, true, true, true, false, false, false, false, false, false, false, false, false, false, false, false] rfl rfl (one_of HT_.out (by kernel_rfl)) (by decide) (fun K hK => ?_)
   refine goes_ Tryz.func80 (by kernel_rfl) rfl #[.agg #[.slice c3 a8.length c2, .slice (some a6) a5.length c1], .int .i64 a2, .int .i64 ((rd_T101 a5 a1).f1)] (by rfl) rfl rfl (by (try simp only [List.map_toArray, List.map_cons, List.map_nil]); first | done | rfl | (simp only [List.length_drop, List.length_take]; rfl)) ?_
   with_reducible refine (types_is.calls m7 _ _ a8 _ _ a5 a2 ((rd_T101 a5 a1).f1) true _ ?c0 ?b9 ?b8 ?b7 n2.out).mono ?_
   (case c0 => exact cb e4 HB)
   (case b9 => exact e6.out)
   (case b8 => exact cb c4 HB)
   (case b7 => exact e5.out)
   rintro e q7 ⟨rfl, hb⟩
   refine ⟨_, rfl, ?_⟩
   replace a7 := bkb a7 hb
   replace HB := bstep HB hb
   clear hb
   refine hK.out _ _ ⟨bc a7 0, bc a7 1, (hxc HB d3), (hxc HB d2), (hxc HB d1), (hxc HB d0), (hxc HB c7), (hxc HB c6), (hxc HB c5), (hxc HB h1), (hxc HB h0), (hxc HB g9), (hxc HB g8), (hxc HB g7), (hxc HB g6), (hxc HB g5)⟩ (fun hHeld => ?_)
   clear hK K
   refine norm_ (a' := ?_) ?_ ?_
   rotate_left
   ·show Act.put _ (some 34) _ = _
    simp only [Act.put, List.setIfInBounds_toArray, List.set_cons_zero, List.set_cons_succ, i64_w, i32_w]
    rfl
   refine pu 9 35 (bits 21 0x3ff) HT_ (h := ?_)
   refine pu 11 37 (bits 21 0xbff) HT_ (h := ?_)
   refine pu 12 38 (bits 21 0x1bff) HT_ (h := ?_)
   refine pu 14 40 (bits 21 0x5bff) HT_ (h := ?_)
   refine tk 10 36 (bits 21 0x5fff) HT_ HW_ hHeld (hy := by rintro w' ⟨s0, s1, s2, s3, s4, s5, s6, s7, s8, s9, j4, j3, j2, j1, h9, h8⟩; go_simp; with_reducible rfl) (h := ?_)
   refine tk 13 39 (bits 21 0x7fff) HT_ HW_ hHeld (hy := by rintro w' ⟨s0, s1, s2, s3, s4, s5, s6, s7, s8, s9, j4, j3, j2, j1, h9, h8⟩; go_simp; with_reducible rfl) (h := ?_)
   refine pu 15 41 (bits 21 0xffff) HT_ (h := ?_)
   refine pu 16 42 (bits 21 0x1ffff) HT_ (h := ?_)
   refine tk 17 43 (bits 21 0x3ffff) HT_ HW_ hHeld (hy := by rintro w' ⟨s0, s1, s2, s3, s4, s5, s6, s7, s8, s9, j4, j3, j2, j1, h9, h8⟩; go_simp; with_reducible rfl) (h := ?_)
   refine one_ (i := 18) (N := some 44) #[true, true, true, true, true, true, true, true, true, true, true, true, true, true, true, true, true, true, true, false, false] rfl rfl (one_of HT_.out (by kernel_rfl)) (by decide) (fun K hK => ?_)
   refine goes_ Tryz.func80 (by kernel_rfl) rfl #[.agg #[.slice c3 a8.length c2, .slice (some a6) a5.length c1], .int .i64 a3, .int .i64 ((rd_T101 a5 a1).f2)] (by rfl) rfl rfl (by (try simp only [List.map_toArray, List.map_cons, List.map_nil]); first | done | rfl | (simp only [List.length_drop, List.length_take]; rfl)) ?_
   with_reducible refine (types_is.calls m7 _ _ a8 _ _ a5 a3 ((rd_T101 a5 a1).f2) j5 _ ?c0 ?b9 ?b8 ?b7 q0.out).mono ?_
   (case c0 => exact cb e4 HB)
   (case b9 => exact e6.out)
   (case b8 => exact cb c4 HB)
   (case b7 => exact e5.out)
   rintro e q6 ⟨rfl, hb⟩
   refine ⟨_, rfl, ?_⟩
   replace a7 := bkb a7 hb
   replace HB := bstep HB hb
   clear hb
   refine hK.out _ _ ⟨bc a7 0, bc a7 1, (hxc HB d3), (hxc HB d2), (hxc HB d1), (hxc HB d0), (hxc HB c7), (hxc HB c6), (hxc HB c5), (hxc HB h1), (hxc HB h0), (hxc HB g9), (hxc HB g8), (hxc HB g7), (hxc HB g6), (hxc HB g5)⟩ (fun hHeld => ?_)
   clear hK K
   refine norm_ (a' := ?_) ?_ ?_
   rotate_left
   ·show Act.put _ (some 44) _ = _
    simp only [Act.put, List.setIfInBounds_toArray, List.set_cons_zero, List.set_cons_succ, i64_w, i32_w]
    rfl
   refine pu 19 45 (bits 21 0xfffff) HT_ (h := ?_)
   refine pu 20 8 (bits 21 0x1fffff) HT_ (h := ?_)
   refine done_ (done_of HT_.out (by kernel_rfl)) ?_
   try go_wp2
   go_ret
   exact ⟨erf, bb HB⟩
mutual
def statistic_typed.l0 : Nat → List Int → Int → Int → List (S96) → List (S101) → List Int → List (S56) → Option (Int)
 | 0, _, _, _, _, _, _, _ => none
 | k + 1, p9, q9, j9, e4, e3, c8, e2 => if j9 < q9 then (if 0 ≤ j9 then (if j9 < (p9.length : Int) then (if (rd p9 j9) ≥ (e4.length : Int) then (some 6) else (statistic_typed.l0 k p9 q9 (wrap64 (j9 + 1)) e4 e3 c8 e2)) else (none)) else (none)) else (statistic_typed.l1 k e2 (e2.length : Int) 0 e4 e3 c8 e2)
def statistic_typed.l1 : Nat → List (S56) → Int → Int → List (S96) → List (S101) → List Int → List (S56) → Option (Int)
 | 0, _, _, _, _, _, _, _ => none
 | k + 1, g5, q8, g3, e4, e3, c8, e2 => if g3 < q8 then (if 0 ≤ g3 then (if g3 < (g5.length : Int) then (if ((rd_T56 g5 g3).f0) ≥ (e3.length : Int) then (some 6) else (if 0 ≤ ((rd_T56 g5 g3).f1) then (if ((rd_T56 g5 g3).f1) < (c8.length : Int) then (if 0 ≤ ((rd_T56 g5 g3).f2) then (if ((rd_T56 g5 g3).f2) < (c8.length : Int) then ((types_Fits.f k e4 e3 ((rd_T56 g5 g3).f0) (rd c8 ((rd_T56 g5 g3).f1)) (rd c8 ((rd_T56 g5 g3).f2))).bind fun m2 => (if m2 = true then (statistic_typed.l1 k g5 q8 (wrap64 (g3 + 1)) e4 e3 c8 e2) else (some 13))) else (none)) else (none)) else (none)) else (none))) else (none)) else (none)) else (some 0)
end
def statistic_typed.f (k : Nat) (b2 : List (S96)) (b1 : List (S101)) (a8 : List Int) (a5 : List (S56)) : Option (Int) := (types_Valid.f k b2 b1).bind fun h2 => (if h2.2 = 0 then ((graph_Valid.f k a8 a5).bind fun e0 => (if e0 = 0 then (statistic_typed.l0 k a8 (a8.length : Int) 0 b2 b1 a8 a5) else (some e0))) else (some h2.2))
theorem statistic_typed.mono_l : ∀ k, (∀ y0 y1 y2 y3 y4 y5 y6, LeO (statistic_typed.l0 k y0 y1 y2 y3 y4 y5 y6) (statistic_typed.l0 (k + 1) y0 y1 y2 y3 y4 y5 y6)) ∧ (∀ y0 y1 y2 y3 y4 y5 y6, LeO (statistic_typed.l1 k y0 y1 y2 y3 y4 y5 y6) (statistic_typed.l1 (k + 1) y0 y1 y2 y3 y4 y5 y6))
 | 0 => ⟨fun _ _ _ _ _ _ _ r h => by simp [statistic_typed.l0] at h, fun _ _ _ _ _ _ _ r h => by simp [statistic_typed.l1] at h⟩
 | k + 1 => by
  obtain ⟨ih0, ih1⟩ := statistic_typed.mono_l k
  refine ⟨?_, ?_⟩
  ·intro y0 y1 y2 y3 y4 y5 y6
   unfold statistic_typed.l0
   repeat' first
   | (with_reducible exact ih0 _ _ _ _ _ _ _)
   | (with_reducible exact ih1 _ _ _ _ _ _ _)
   | (with_reducible exact graph_Valid.mono _ _ _)
   | (with_reducible exact types_Fits.mono _ _ _ _ _ _)
   | (with_reducible exact types_Valid.mono _ _ _)
   | (with_reducible exact LeO.refl _)
   | (with_reducible exact LeO.none _)
   | (with_reducible refine LeO.ite ?_ ?_)
   | (with_reducible refine LeO.bind ?_ (fun _ => ?_))
  ·intro y0 y1 y2 y3 y4 y5 y6
   unfold statistic_typed.l1
   repeat' first
   | (with_reducible exact ih0 _ _ _ _ _ _ _)
   | (with_reducible exact ih1 _ _ _ _ _ _ _)
   | (with_reducible exact graph_Valid.mono _ _ _)
   | (with_reducible exact types_Fits.mono _ _ _ _ _ _)
   | (with_reducible exact types_Valid.mono _ _ _)
   | (with_reducible exact LeO.refl _)
   | (with_reducible exact LeO.none _)
   | (with_reducible refine LeO.ite ?_ ?_)
   | (with_reducible refine LeO.bind ?_ (fun _ => ?_))
theorem statistic_typed.mono : ∀ a0 a1 a2 a3 k, LeO (statistic_typed.f k a0 a1 a2 a3) (statistic_typed.f (k + 1) a0 a1 a2 a3) := by
 intro a0 a1 a2 a3 k
 obtain ⟨ih0, ih1⟩ := statistic_typed.mono_l k
 unfold statistic_typed.f
 repeat' first
   | (with_reducible exact ih0 _ _ _ _ _ _ _)
   | (with_reducible exact ih1 _ _ _ _ _ _ _)
   | (with_reducible exact graph_Valid.mono _ _ _)
   | (with_reducible exact types_Fits.mono _ _ _ _ _ _)
   | (with_reducible exact types_Valid.mono _ _ _)
   | (with_reducible exact LeO.refl _)
   | (with_reducible exact LeO.none _)
   | (with_reducible refine LeO.ite ?_ ?_)
   | (with_reducible refine LeO.bind ?_ (fun _ => ?_))
def statistic_typed.T18 : Bool × List (List Nat × List Nat) := (true, [([], []), ([], []), ([1], [1]), ([], []), ([3], [3]), ([], []), ([5], [5]), ([4, 6], [4, 6]), ([7], [7]), ([], []), ([9], [9]), ([], []), ([11], [11]), ([10, 12], [10, 12]), ([13], [13]), ([0, 2, 8, 14], [0, 2, 8, 14]), ([15], [15])])
def statistic_typed.B18 : List Nat := [0, 0, 2, 0, 8, 0, 32, 120, 248, 0, 512, 0, 2048, 7680, 15872, 32767, 65535]
theorem statistic_typed.tab18 : rtab .any (opsOf Tryz.f40 18) = statistic_typed.T18 := by kernel_rfl
theorem statistic_typed.bits18 : waitsOk statistic_typed.T18.2 statistic_typed.B18 = true := by kernel_rfl
theorem statistic_typed.calls (k : Nat) (c7 : Option Addr) (c3 : Nat) (b2 : List (S96)) (c5 : Option Addr) (c2 : Nat) (b1 : List (S101)) (e7 : Option Addr) (d3 : Nat) (a8 : List Int) (g2 : Option Addr) (d2 : Nat) (a5 : List (S56)) (r : Int) (w : World) (n0 : Kd.C k96 w c7 b2.length b2) (n4 : b2.length ≤ c3) (m9 : Kd.C k101 w c5 b1.length b1) (n3 : b1.length ≤ c2) (m8 : Kd.C (Kd.int .i64) w e7 a8.length a8) (n2 : a8.length ≤ d3) (m7 : Kd.C k56 w g2 a5.length a5) (n1 : a5.length ≤ d2) (h : statistic_typed.f k b2 b1 a8 a5 = some r) :
  Calls Tryz.prog 40 #[.agg #[.slice c7 b2.length c3, .slice c5 b1.length c2], .agg #[.slice e7 a8.length d3, .slice g2 a5.length d2]] w fun e w' => e = .returned (.int .i64 r) ∧ Below w.heap.size w w' := by
 have hu31 := Tryz.underlying31
 have hu35 := Tryz.underlying35
 have hu56 := Tryz.underlying56
 have h5 := am n0
 have h7 := am n4
 clear n0 n4
 have h4 := am m9
 have h6 := am n3
 clear m9 n3
 have e8 := am m8
 have n9 := am n2
 clear m8 n2
 have h3 := am m7
 have n8 := am n1
 clear m7 n1
 have HB := am (Below.refl w.heap.size w)
 have H : ((types_Valid.f k b2 b1).bind fun h2 => (if h2.2 = 0 then ((graph_Valid.f k a8 a5).bind fun e0 => (if e0 = 0 then (statistic_typed.l0 k a8 (a8.length : Int) 0 b2 b1 a8 a5) else (some e0))) else (some h2.2))) = some r := h
 clear h
 obtain ⟨⟨m3, h8⟩, A3, H⟩ := obA H
 replace H : (if h8 = 0 then ((graph_Valid.f k a8 a5).bind fun e0 => (if e0 = 0 then (statistic_typed.l0 k a8 (a8.length : Int) 0 b2 b1 a8 a5) else (some e0))) else (some h8)) = some r := H
 by_cases c4 : h8 = 0
 rotate_left
 ·rw [if_neg c4] at H
  have q3 := beq_eq_false_iff_ne.mpr c4
  have q2 := bne_iff_ne.mpr c4
  obtain rfl := Option.some.inj H
  go_enter Tryz.func40, Tryz.ntmps40
  go_wp2_with (first | ((with_reducible refine gate_dst (N := 2) rfl ?_); refine be 2 #[.slice c7 b2.length c3, .slice c5 b1.length c2] 31 ?_; intro d5 hg G5 hbox hb; have a6 := am (hbox); have o2 := bsz HB hg; replace HB := bstep HB hb; clear hb hbox hg) | ((with_reducible refine gate_dst (N := 3) rfl ?_); refine be 3 #[.slice e7 a8.length d3, .slice g2 a5.length d2] 35 ?_; intro d4 hg G4 hbox hb; have a7 := am (hbox); have o1 := bsz HB hg; replace HB := bstep HB hb; have b4 := blt a6 hg; have b3 := bgt a6 hg; replace a6 := bkb a6 hb; clear hb hbox hg; have D9 := b4.out; have C5 := b3.out; obtain ⟨w5, w4, t0, s9⟩ := cz2 a6) | ((with_reducible refine gate_callee (f := 57) rfl ?_); refine gl 14 Tryz.func57 #[.agg #[.slice c7 b2.length c3, .slice c5 b1.length c2]] (h := ?_); (with_reducible refine (types_Valid.calls k _ _ b2 _ _ b1 m3 h8 _ ?b9 ?b8 ?b7 ?b6 A3.out).mono ?_); (case b9 => exact cb h5 HB); (case b8 => exact h7.out); (case b7 => exact cb h4 HB); (case b6 => exact h6.out); rintro e G3 ⟨rfl, hb⟩; refine ⟨_, rfl, ?_⟩; replace a6 := bkb a6 hb; replace a7 := bkb a7 hb; replace HB := bstep HB hb; (try clear hb); (try clear hb2); (try clear hk); (try clear hi)))
  go_ret
  exact ⟨erf, bb HB⟩
 rw [if_pos c4] at H
 have q3 := beq_iff_eq.mpr c4
 have q2 := bne_eq_false_iff_eq.mpr c4
 clear c4
 obtain ⟨e0, A5, H⟩ := obA H
 by_cases c6 : e0 = 0
 rotate_left
 ·rw [if_neg c6] at H
  have q1 := beq_eq_false_iff_ne.mpr c6
  have q0 := bne_iff_ne.mpr c6
  obtain rfl := Option.some.inj H
  go_enter Tryz.func40, Tryz.ntmps40
  go_wp2_with (first | ((with_reducible refine gate_dst (N := 2) rfl ?_); refine be 2 #[.slice c7 b2.length c3, .slice c5 b1.length c2] 31 ?_; intro d5 hg G9 hbox hb; have a6 := am (hbox); have o2 := bsz HB hg; replace HB := bstep HB hb; clear hb hbox hg) | ((with_reducible refine gate_dst (N := 3) rfl ?_); refine be 3 #[.slice e7 a8.length d3, .slice g2 a5.length d2] 35 ?_; intro d4 hg G8 hbox hb; have a7 := am (hbox); have o1 := bsz HB hg; replace HB := bstep HB hb; have b4 := blt a6 hg; have b3 := bgt a6 hg; replace a6 := bkb a6 hb; clear hb hbox hg; have E0 := b4.out; have C6 := b3.out; obtain ⟨x1, x0, t4, t3⟩ := cz2 a6) | ((with_reducible refine gate_callee (f := 57) rfl ?_); refine gl 14 Tryz.func57 #[.agg #[.slice c7 b2.length c3, .slice c5 b1.length c2]] (h := ?_); (with_reducible refine (types_Valid.calls k _ _ b2 _ _ b1 m3 h8 _ ?b9 ?b8 ?b7 ?b6 A3.out).mono ?_); (case b9 => exact cb h5 HB); (case b8 => exact h7.out); (case b7 => exact cb h4 HB); (case b6 => exact h6.out); rintro e G7 ⟨rfl, hb⟩; refine ⟨_, rfl, ?_⟩; replace a6 := bkb a6 hb; replace a7 := bkb a7 hb; replace HB := bstep HB hb; (try clear hb); (try clear hb2); (try clear hk); (try clear hi); obtain ⟨w9, w6, t2, t1⟩ := cz2 a7) | ((with_reducible refine gate_callee (f := 37) rfl ?_); refine gl 21 Tryz.func37 #[.agg #[.slice e7 a8.length d3, .slice g2 a5.length d2]] (h := ?_); (with_reducible refine (graph_Valid.calls k _ _ a8 _ _ a5 e0 _ ?b9 ?b8 ?b7 ?b6 A5.out).mono ?_); (case b9 => exact cb e8 HB); (case b8 => exact n9.out); (case b7 => exact cb h3 HB); (case b6 => exact n8.out); rintro e G6 ⟨rfl, hb⟩; refine ⟨_, rfl, ?_⟩; replace a6 := bkb a6 hb; replace a7 := bkb a7 hb; replace HB := bstep HB hb; (try clear hb); (try clear hb2); (try clear hk); (try clear hi)))
  go_ret
  exact ⟨erf, bb HB⟩
 rw [if_pos c6] at H
 have q1 := beq_iff_eq.mpr c6
 have q0 := bne_eq_false_iff_eq.mpr c6
 clear c6
 have H' := am H
 clear H
 go_enter Tryz.func40, Tryz.ntmps40
 go_wp2_with (first | ((with_reducible refine gate_dst (N := 2) rfl ?_); refine be 2 #[.slice c7 b2.length c3, .slice c5 b1.length c2] 31 ?_; intro d5 hg w7 hbox hb; have a6 := am (hbox); have o2 := bsz HB hg; replace HB := bstep HB hb; clear hb hbox hg) | ((with_reducible refine gate_dst (N := 3) rfl ?_); refine be 3 #[.slice e7 a8.length d3, .slice g2 a5.length d2] 35 ?_; intro d4 hg w8 hbox hb; have a7 := am (hbox); have o1 := bsz HB hg; replace HB := bstep HB hb; have b4 := blt a6 hg; have b3 := bgt a6 hg; replace a6 := bkb a6 hb; clear hb hbox hg; have G2 := b4.out; have G1 := b3.out; obtain ⟨p8, p7, p0, o9⟩ := cz2 a6) | ((with_reducible refine gate_callee (f := 57) rfl ?_); refine gl 14 Tryz.func57 #[.agg #[.slice c7 b2.length c3, .slice c5 b1.length c2]] (h := ?_); (with_reducible refine (types_Valid.calls k _ _ b2 _ _ b1 m3 h8 _ ?b9 ?b8 ?b7 ?b6 A3.out).mono ?_); (case b9 => exact cb h5 HB); (case b8 => exact h7.out); (case b7 => exact cb h4 HB); (case b6 => exact h6.out); rintro e H6 ⟨rfl, hb⟩; refine ⟨_, rfl, ?_⟩; replace a6 := bkb a6 hb; replace a7 := bkb a7 hb; replace HB := bstep HB hb; (try clear hb); (try clear hb2); (try clear hk); (try clear hi); obtain ⟨p6, p5, o8, o7⟩ := cz2 a7) | ((with_reducible refine gate_callee (f := 37) rfl ?_); refine gl 21 Tryz.func37 #[.agg #[.slice e7 a8.length d3, .slice g2 a5.length d2]] (h := ?_); (with_reducible refine (graph_Valid.calls k _ _ a8 _ _ a5 e0 _ ?b9 ?b8 ?b7 ?b6 A5.out).mono ?_); (case b9 => exact cb e8 HB); (case b8 => exact n9.out); (case b7 => exact cb h3 HB); (case b6 => exact n8.out); rintro e H5 ⟨rfl, hb⟩; refine ⟨_, rfl, ?_⟩; replace a6 := bkb a6 hb; replace a7 := bkb a7 hb; replace HB := bstep HB hb; (try clear hb); (try clear hb2); (try clear hk); (try clear hi); obtain ⟨p4, p3, o6, o5⟩ := cz2 a7))
 go_loopg [28] k (fun kq C4 w' => ∃ (b5 : Int), C4 = .int .i64 b5 ∧ Aside0 (statistic_typed.l0 kq a8 (a8.length : Int) b5 b2 b1 a8 a5 = some r) ∧ Aside0 (kq ≤ k) ∧ Aside0 (w'.heap[d5]? = some (.cells #[(.slice c7 b2.length c3), (.slice c5 b1.length c2)] 31 (0, 0))) ∧ Aside0 (w'.heap[d4]? = some (.cells #[(.slice e7 a8.length d3), (.slice g2 a5.length d2)] 35 (0, 0))) ∧ Aside0 (Below w.heap.size w w'))
 case atStart => exact ⟨(0), eqs, H', ⟨Nat.le_refl _⟩, ⟨bk a6⟩, ⟨bk a7⟩, ⟨bb HB⟩⟩
 case round =>
  clear H'
  clear q3
  clear q2
  clear q1
  clear q0
  clear p8
  clear p7
  clear p6
  clear p5
  clear p4
  clear p3
  clear p0
  clear o9
  clear o8
  clear o7
  clear o6
  clear o5
  obtain ⟨b5, rfl, HA, n7, a6, a7, HB⟩ := hrel
  cases gk with
  | zero => exact absurd HA.out (by simp [statistic_typed.l0])
  | succ k1 =>
   have H := HA.out
   clear HA
   simp only [statistic_typed.l0] at H
   by_cases j7 : b5 < (a8.length : Int)
   ·rw [if_pos j7] at H
    have n6 := decide_eq_true j7
    clear j7
    obtain ⟨r7, H⟩ := itn H
    have G0 := decide_eq_true r7
    clear r7
    obtain ⟨r6, H⟩ := itn H
    have F9 := decide_eq_true r6
    clear r6
    by_cases j6 : (rd a8 b5) ≥ (b2.length : Int)
    ·rw [if_pos j6] at H
     have q6 : decide ((b2.length : Int) ≤ (rd a8 b5)) = true := decide_eq_true j6
     clear j6
     obtain rfl := Option.some.inj H
     have h1 : 0 ≤ b5 := odt
     have g8 : b5 < (a8.length : Int) := odt
     obtain ⟨q7, m6, e9⟩ := Kd.at_int e8.out b5 h1 g8
     cases m6
     replace e9 := hxc HB e9
     replace h1 := eq_true h1
     replace g8 := eq_true g8
     have F2 := b4.out
     have D8 := b3.out
     obtain ⟨C0, A9, w3, w2⟩ := cz2 a6
     go_wp2
     go_ret
     exact ⟨erf, bb HB⟩
    rw [if_neg j6] at H
    have q6 : decide ((b2.length : Int) ≤ (rd a8 b5)) = false := decide_eq_false j6
    clear j6
    have H' := am H
    clear H
    have h1 : 0 ≤ b5 := odt
    have g8 : b5 < (a8.length : Int) := odt
    obtain ⟨q7, m6, e9⟩ := Kd.at_int e8.out b5 h1 g8
    cases m6
    replace e9 := hxc HB e9
    replace h1 := eq_true h1
    replace g8 := eq_true g8
    have F1 := b4.out
    have D7 := b3.out
    obtain ⟨A8, A7, w1, w0⟩ := cz2 a6
    go_wp2
    go_roundg k1
    case measure => have := n7.out; omega
    case rel => exact ⟨(wrap64 (b5 + 1)), eqs, H', ⟨by have := n7.out; omega⟩, ⟨bk a6⟩, ⟨bk a7⟩, ⟨bb HB⟩⟩
   rw [if_neg j7] at H
   have n6 := decide_eq_false j7
   clear j7
   have H' := am H
   clear H
   have F0 := b3.out
   have D6 := b4.out
   obtain ⟨p2, p1, o4, o3⟩ := cz2 a7
   go_wp2
   go_loopg [41] k1 (fun kq C3 w' => ∃ (a4 : Int), C3 = .int .i64 a4 ∧ Aside0 (statistic_typed.l1 kq a5 (a5.length : Int) a4 b2 b1 a8 a5 = some r) ∧ Aside0 (kq ≤ k1) ∧ Aside0 (w'.heap[d5]? = some (.cells #[(.slice c7 b2.length c3), (.slice c5 b1.length c2)] 31 (0, 0))) ∧ Aside0 (w'.heap[d4]? = some (.cells #[(.slice e7 a8.length d3), (.slice g2 a5.length d2)] 35 (0, 0))) ∧ Aside0 (Below w.heap.size w w'))
   case atStart => exact ⟨(0), eqs, H', ⟨Nat.le_refl _⟩, ⟨bk a6⟩, ⟨bk a7⟩, ⟨bb HB⟩⟩
   case round =>
    clear H'
    clear n6
    clear p2
    clear p1
    clear o4
    clear o3
    obtain ⟨a4, rfl, HA, r8, a6, a7, HB⟩ := hrel
    cases gk with
    | zero => exact absurd HA.out (by simp [statistic_typed.l1])
    | succ k2 =>
     have H := HA.out
     clear HA
     simp only [statistic_typed.l1] at H
     by_cases j5 : a4 < (a5.length : Int)
     rotate_left
     ·rw [if_neg j5] at H
      have q5 := decide_eq_false j5
      clear j5
      obtain rfl := Option.some.inj H
      go_wp2
      go_ret
      exact ⟨erf, bb HB⟩
     rw [if_pos j5] at H
     have q5 := decide_eq_true j5
     clear j5
     obtain ⟨r5, H⟩ := itn H
     have F8 := decide_eq_true r5
     clear r5
     obtain ⟨r4, H⟩ := itn H
     have F7 := decide_eq_true r4
     clear r4
     by_cases j4 : ((rd_T56 a5 a4).f0) ≥ (b1.length : Int)
     ·rw [if_pos j4] at H
      have q4 : decide ((b1.length : Int) ≤ ((rd_T56 a5 a4).f0)) = true := decide_eq_true j4
      clear j4
      obtain rfl := Option.some.inj H
      have e6 : 0 ≤ a4 := odt
      have e5 : a4 < (a5.length : Int) := odt
      obtain ⟨g4, j3, d1, d0, c9⟩ := at_T56 h3.out a4 e6 e5
      cases j3
      replace d1 := hxc HB d1
      replace d0 := hxc HB d0
      replace c9 := hxc HB c9
      replace e6 := eq_true e6
      replace e5 := eq_true e5
      go_wp2_with ((with_reducible refine gate_dst (N := 11) rfl ?_); refine be 11 #[.int .i64 0, .int .i64 0, .int .i64 0] 56 ?_; intro a9 hg H4 hbox hb; have b0 := am (hbox); have o0 := bsz HB hg; replace HB := bstep HB hb; have d9 := blt a6 hg; have d7 := bgt a6 hg; replace a6 := bkb a6 hb; have d8 := blt a7 hg; have d6 := bgt a7 hg; replace a7 := bkb a7 hb; clear hb hbox hg; have E9 := d7.out; have D5 := d9.out; have E8 := d6.out; have D4 := d8.out; obtain ⟨A6, A4, A2, v9, v8, v7⟩ := cz3 b0; have E7 := b4.out; have D3 := b3.out; obtain ⟨A1, A0, v6, v5⟩ := cz2 a6)
      go_ret
      exact ⟨erf, bb HB⟩
     rw [if_neg j4] at H
     have q4 : decide ((b1.length : Int) ≤ ((rd_T56 a5 a4).f0)) = false := decide_eq_false j4
     clear j4
     obtain ⟨r3, H⟩ := itn H
     have F6 := decide_eq_true r3
     clear r3
     obtain ⟨r2, H⟩ := itn H
     have F5 := decide_eq_true r2
     clear r2
     obtain ⟨r1, H⟩ := itn H
     have F4 := decide_eq_true r1
     clear r1
     obtain ⟨r0, H⟩ := itn H
     have F3 := decide_eq_true r0
     clear r0
     obtain ⟨m2, r9, H⟩ := obA H
     by_cases n5 : m2 = true
     rotate_left
     ·replace n5 := Bool.eq_false_iff.mpr n5
      subst n5
      replace H := iff_ H
      obtain rfl := Option.some.inj H
      have e6 : 0 ≤ a4 := odt
      have e5 : a4 < (a5.length : Int) := odt
      obtain ⟨g4, j3, d1, d0, c9⟩ := at_T56 h3.out a4 e6 e5
      cases j3
      replace d1 := hxc HB d1
      replace d0 := hxc HB d0
      replace c9 := hxc HB c9
      replace e6 := eq_true e6
      replace e5 := eq_true e5
      try go_wp2_with ((with_reducible refine gate_dst (N := 11) rfl ?_); refine be 11 #[.int .i64 0, .int .i64 0, .int .i64 0] 56 ?_; intro a9 hg m0 hbox hb; have b0 := am (hbox); have o0 := bsz HB hg; replace HB := bstep HB hb; have d9 := blt a6 hg; have d7 := bgt a6 hg; replace a6 := bkb a6 hb; have d8 := blt a7 hg; have d6 := bgt a7 hg; replace a7 := bkb a7 hb; clear hb hbox hg; have E3 := d7.out; have C9 := d9.out; have E2 := d6.out; have C8 := d8.out; obtain ⟨x7, x6, x5, t9, t8, t7⟩ := cz3 b0; have E1 := b4.out; have C7 := b3.out; obtain ⟨x4, x3, t6, t5⟩ := cz2 a6)
      have j2 : Aside0 ((((m0.setCell ⟨a9, 0, none⟩ (.int .i64 ((rd_T56 a5 a4).f0))).setCell ⟨a9, 1, none⟩ (.int .i64 ((rd_T56 a5 a4).f1))).setCell ⟨a9, 2, none⟩ (.int .i64 ((rd_T56 a5 a4).f2))).heap[d5]? = some (.cells #[.slice c7 b2.length c3, .slice c5 b1.length c2] 31 (0, 0))) := ⟨bkF a6⟩
      have j1 : Aside0 ((((m0.setCell ⟨a9, 0, none⟩ (.int .i64 ((rd_T56 a5 a4).f0))).setCell ⟨a9, 1, none⟩ (.int .i64 ((rd_T56 a5 a4).f1))).setCell ⟨a9, 2, none⟩ (.int .i64 ((rd_T56 a5 a4).f2))).heap[d4]? = some (.cells #[.slice e7 a8.length d3, .slice (some g4) a5.length d2] 35 (0, 0))) := ⟨bkF a7⟩
      have j0 : Aside0 ((((m0.setCell ⟨a9, 0, none⟩ (.int .i64 ((rd_T56 a5 a4).f0))).setCell ⟨a9, 1, none⟩ (.int .i64 ((rd_T56 a5 a4).f1))).setCell ⟨a9, 2, none⟩ (.int .i64 ((rd_T56 a5 a4).f2))).heap[a9]? = some (.cells #[.int .i64 ((rd_T56 a5 a4).f0), .int .i64 ((rd_T56 a5 a4).f1), .int .i64 ((rd_T56 a5 a4).f2)] 56 (0, 0))) := ⟨by (with_reducible repeat (first | refine dN ?_ _ | refine dR ?_ | refine dA ?_ _)); refine blk_put (cs := #[.int .i64 ((rd_T56 a5 a4).f0), .int .i64 ((rd_T56 a5 a4).f1), .int .i64 0]) ?_ 2 _ rfl; refine blk_put (cs := #[.int .i64 ((rd_T56 a5 a4).f0), .int .i64 0, .int .i64 0]) ?_ 1 _ rfl; refine blk_put (cs := #[.int .i64 0, .int .i64 0, .int .i64 0]) ?_ 0 _ rfl; (with_reducible repeat (first | refine dN ?_ _ | refine dR ?_ | refine dA ?_ _)); exact b0.out⟩
      have h9 : Aside0 (Below w.heap.size w (((m0.setCell ⟨a9, 0, none⟩ (.int .i64 ((rd_T56 a5 a4).f0))).setCell ⟨a9, 1, none⟩ (.int .i64 ((rd_T56 a5 a4).f1))).setCell ⟨a9, 2, none⟩ (.int .i64 ((rd_T56 a5 a4).f2)))) := ⟨bb HB⟩
      clear a6
      clear a7
      clear b0
      clear HB
      generalize (((m0.setCell ⟨a9, 0, none⟩ (.int .i64 ((rd_T56 a5 a4).f0))).setCell ⟨a9, 1, none⟩ (.int .i64 ((rd_T56 a5 a4).f1))).setCell ⟨a9, 2, none⟩ (.int .i64 ((rd_T56 a5 a4).f2))) = C1 at j2 j1 j0 h9 ⊢
      have a6 := j2
      have a7 := j1
      have b0 := j0
      have HB := h9
      clear j2 j1 j0 h9
      replace a6 := am (blk_drew a6.out)
      replace a7 := am (blk_drew a7.out)
      replace b0 := am (blk_drew b0.out)
      replace HB := am (below_drew1 HB.out)
      have h0 : 0 ≤ (((rd_T56 a5 a4).f1) : Int) := odt
      have g7 : ((rd_T56 a5 a4).f1) < (a8.length : Int) := odt
      obtain ⟨e1, m5, c1⟩ := Kd.at_int e8.out ((rd_T56 a5 a4).f1) h0 g7
      have g1 := c1
      cases m5
      replace c1 := hxc HB c1
      replace h0 := eq_true h0
      replace g7 := eq_true g7
      have g9 : 0 ≤ (((rd_T56 a5 a4).f2) : Int) := odt
      have g6 : ((rd_T56 a5 a4).f2) < (a8.length : Int) := odt
      obtain ⟨j8, m4, c0⟩ := Kd.at_int e8.out ((rd_T56 a5 a4).f2) g9 g6
      have g0 := c0
      obtain rfl : e1 = j8 := (by injection m4)
      replace c0 := hxc HB c0
      replace g9 := eq_true g9
      replace g6 := eq_true g6
      refine start_ (n := 17) (S := fun w' => w'.cell? ⟨d5, 0, none⟩ = some (.slice c7 b2.length c3) ∧ w'.cell? ⟨d5, 1, none⟩ = some (.slice c5 b1.length c2) ∧ w'.cell? ⟨a9, 0, none⟩ = some (.int .i64 ((rd_T56 a5 a4).f0)) ∧ w'.cell? ⟨a9, 1, none⟩ = some (.int .i64 ((rd_T56 a5 a4).f1)) ∧ w'.cell? ⟨a9, 2, none⟩ = some (.int .i64 ((rd_T56 a5 a4).f2)) ∧ w'.cell? ⟨d4, 0, none⟩ = some (.slice (some e1) a8.length d3) ∧ w'.cell? ⟨d4, 1, none⟩ = some (.slice (some g4) a5.length d2) ∧ w'.cell? (e1.add (((rd_T56 a5 a4).f1)).toNat) = some (.int .i64 (rd a8 ((rd_T56 a5 a4).f1))) ∧ w'.cell? (e1.add (((rd_T56 a5 a4).f2)).toNat) = some (.int .i64 (rd a8 ((rd_T56 a5 a4).f2)))) (ds := []) #[false, false, false, false, false, false, false, false, false, false, false, false, false, false, false, false, false] (by kernel_rfl) rfl rfl ⟨bc a6 0, bc a6 1, bc b0 0, bc b0 1, bc b0 2, bc a7 0, bc a7 1, (hxc HB g1), (hxc HB g0)⟩ (fun hHeld => ?_); refine with_tabW statistic_typed.tab18 statistic_typed.bits18 (fun HT_ HW_ => ?_)
      generalize C1.drew = H1 at a6 a7 b0 HB c1 c0 hHeld ⊢
      refine pu 1 52 (bits 17 0x2) HT_ (h := ?_)
      refine pu 3 54 (bits 17 0xa) HT_ (h := ?_)
      refine pu 5 56 (bits 17 0x2a) HT_ (h := ?_)
      refine pu 9 60 (bits 17 0x22a) HT_ (h := ?_)
      refine pu 11 62 (bits 17 0xa2a) HT_ (h := ?_)
      refine tk 0 51 (bits 17 0xa2b) HT_ HW_ hHeld (hy := by rintro w' ⟨s0, s1, s2, s3, s4, s5, s6, s7, s8⟩; go_simp; with_reducible rfl) (h := ?_)
      refine tk 2 53 (bits 17 0xa2f) HT_ HW_ hHeld (hy := by rintro w' ⟨s0, s1, s2, s3, s4, s5, s6, s7, s8⟩; go_simp; with_reducible rfl) (h := ?_)
      refine tk 4 55 (bits 17 0xa3f) HT_ HW_ hHeld (hy := by rintro w' ⟨s0, s1, s2, s3, s4, s5, s6, s7, s8⟩; go_simp; with_reducible rfl) (h := ?_)
      refine tk 6 57 (bits 17 0xa7f) HT_ HW_ hHeld (hy := by rintro w' ⟨s0, s1, s2, s3, s4, s5, s6, s7, s8⟩; go_simp; with_reducible rfl) (h := ?_)
      refine pu 7 58 (bits 17 0xaff) HT_ (h := ?_)
      refine tk 8 59 (bits 17 0xbff) HT_ HW_ hHeld (hy := by rintro w' ⟨s0, s1, s2, s3, s4, s5, s6, s7, s8⟩; go_simp; with_reducible rfl) (h := ?_)
      refine tk 10 61 (bits 17 0xfff) HT_ HW_ hHeld (hy := by rintro w' ⟨s0, s1, s2, s3, s4, s5, s6, s7, s8⟩; go_simp; with_reducible rfl) (h := ?_)
      refine tk 12 63 (bits 17 0x1fff) HT_ HW_ hHeld (hy := by rintro w' ⟨s0, s1, s2, s3, s4, s5, s6, s7, s8⟩; go_simp; with_reducible rfl) (h := ?_)
      refine pu 13 64 (bits 17 0x3fff) HT_ (h := ?_)
      refine tk 14 65 (bits 17 0x7fff) HT_ HW_ hHeld (hy := by rintro w' ⟨s0, s1, s2, s3, s4, s5, s6, s7, s8⟩; go_simp; with_reducible rfl) (h := ?_)
      refine one_ (i := 15) (N := some 66) #[true, true, true, true, true, true, true, true, true, true, true, true, true, true, true, true, false] rfl rfl (one_of HT_.out (by kernel_rfl)) (by decide) (fun K hK => ?_)
      refine goes_ Tryz.func53 (by kernel_rfl) rfl #[.agg #[.slice c7 b2.length c3, .slice c5 b1.length c2], .int .i64 ((rd_T56 a5 a4).f0), .int .i64 (rd a8 ((rd_T56 a5 a4).f1)), .int .i64 (rd a8 ((rd_T56 a5 a4).f2))] (by rfl) rfl rfl (by (try simp only [List.map_toArray, List.map_cons, List.map_nil]); first | done | rfl | (simp only [List.length_drop, List.length_take]; rfl)) ?_
      with_reducible refine (types_Fits.calls k2 _ _ b2 _ _ b1 ((rd_T56 a5 a4).f0) (rd a8 ((rd_T56 a5 a4).f1)) (rd a8 ((rd_T56 a5 a4).f2)) false _ ?b9 ?b8 ?b7 ?b6 r9.out).mono ?_
      (case b9 => exact cb h5 HB)
      (case b8 => exact h7.out)
      (case b7 => exact cb h4 HB)
      (case b6 => exact h6.out)
      rintro e H0 ⟨rfl, hb⟩
      refine ⟨_, rfl, ?_⟩
      replace a6 := bkb a6 hb
      replace a7 := bkb a7 hb
      replace b0 := bkb b0 hb
      replace HB := bstep HB hb
      clear hb
      refine hK.out _ _ ⟨bc a6 0, bc a6 1, bc b0 0, bc b0 1, bc b0 2, bc a7 0, bc a7 1, (hxc HB g1), (hxc HB g0)⟩ (fun hHeld => ?_)
      clear hK K
      refine norm_ (a' := ?_) ?_ ?_
      rotate_left
      ·show Act.put _ (some 66) _ = _
       simp only [Act.put, List.setIfInBounds_toArray, List.set_cons_zero, List.set_cons_succ, i64_w, i32_w]
       rfl
      refine pu 16 67 (bits 17 0x1ffff) HT_ (h := ?_)
      refine done_ (done_of HT_.out (by kernel_rfl)) ?_
      try go_wp2
      go_ret
      exact ⟨erf, bb HB⟩
     subst n5
     replace H := ift H
     have H' := am H
     clear H
     have e6 : 0 ≤ a4 := odt
     have e5 : a4 < (a5.length : Int) := odt
     obtain ⟨g4, j3, d1, d0, c9⟩ := at_T56 h3.out a4 e6 e5
     cases j3
     replace d1 := hxc HB d1
     replace d0 := hxc HB d0
     replace c9 := hxc HB c9
     replace e6 := eq_true e6
     replace e5 := eq_true e5
     try go_wp2_with ((with_reducible refine gate_dst (N := 11) rfl ?_); refine be 11 #[.int .i64 0, .int .i64 0, .int .i64 0] 56 ?_; intro a9 hg m1 hbox hb; have b0 := am (hbox); have o0 := bsz HB hg; replace HB := bstep HB hb; have d9 := blt a6 hg; have d7 := bgt a6 hg; replace a6 := bkb a6 hb; have d8 := blt a7 hg; have d6 := bgt a7 hg; replace a7 := bkb a7 hb; clear hb hbox hg; have E6 := d7.out; have D2 := d9.out; have E5 := d6.out; have D1 := d8.out; obtain ⟨y9, y8, y7, v4, v3, v2⟩ := cz3 b0; have E4 := b4.out; have D0 := b3.out; obtain ⟨x9, x8, v1, v0⟩ := cz2 a6)
     have j2 : Aside0 ((((m1.setCell ⟨a9, 0, none⟩ (.int .i64 ((rd_T56 a5 a4).f0))).setCell ⟨a9, 1, none⟩ (.int .i64 ((rd_T56 a5 a4).f1))).setCell ⟨a9, 2, none⟩ (.int .i64 ((rd_T56 a5 a4).f2))).heap[d5]? = some (.cells #[.slice c7 b2.length c3, .slice c5 b1.length c2] 31 (0, 0))) := ⟨bkF a6⟩
     have j1 : Aside0 ((((m1.setCell ⟨a9, 0, none⟩ (.int .i64 ((rd_T56 a5 a4).f0))).setCell ⟨a9, 1, none⟩ (.int .i64 ((rd_T56 a5 a4).f1))).setCell ⟨a9, 2, none⟩ (.int .i64 ((rd_T56 a5 a4).f2))).heap[d4]? = some (.cells #[.slice e7 a8.length d3, .slice (some g4) a5.length d2] 35 (0, 0))) := ⟨bkF a7⟩
     have j0 : Aside0 ((((m1.setCell ⟨a9, 0, none⟩ (.int .i64 ((rd_T56 a5 a4).f0))).setCell ⟨a9, 1, none⟩ (.int .i64 ((rd_T56 a5 a4).f1))).setCell ⟨a9, 2, none⟩ (.int .i64 ((rd_T56 a5 a4).f2))).heap[a9]? = some (.cells #[.int .i64 ((rd_T56 a5 a4).f0), .int .i64 ((rd_T56 a5 a4).f1), .int .i64 ((rd_T56 a5 a4).f2)] 56 (0, 0))) := ⟨by (with_reducible repeat (first | refine dN ?_ _ | refine dR ?_ | refine dA ?_ _)); refine blk_put (cs := #[.int .i64 ((rd_T56 a5 a4).f0), .int .i64 ((rd_T56 a5 a4).f1), .int .i64 0]) ?_ 2 _ rfl; refine blk_put (cs := #[.int .i64 ((rd_T56 a5 a4).f0), .int .i64 0, .int .i64 0]) ?_ 1 _ rfl; refine blk_put (cs := #[.int .i64 0, .int .i64 0, .int .i64 0]) ?_ 0 _ rfl; (with_reducible repeat (first | refine dN ?_ _ | refine dR ?_ | refine dA ?_ _)); exact b0.out⟩
     have h9 : Aside0 (Below w.heap.size w (((m1.setCell ⟨a9, 0, none⟩ (.int .i64 ((rd_T56 a5 a4).f0))).setCell ⟨a9, 1, none⟩ (.int .i64 ((rd_T56 a5 a4).f1))).setCell ⟨a9, 2, none⟩ (.int .i64 ((rd_T56 a5 a4).f2)))) := ⟨bb HB⟩
     clear a6
     clear a7
     clear b0
     clear HB
     generalize (((m1.setCell ⟨a9, 0, none⟩ (.int .i64 ((rd_T56 a5 a4).f0))).setCell ⟨a9, 1, none⟩ (.int .i64 ((rd_T56 a5 a4).f1))).setCell ⟨a9, 2, none⟩ (.int .i64 ((rd_T56 a5 a4).f2))) = C2 at j2 j1 j0 h9 ⊢
     have a6 := j2
     have a7 := j1
     have b0 := j0
     have HB := h9
     clear j2 j1 j0 h9
     replace a6 := am (blk_drew a6.out)
     replace a7 := am (blk_drew a7.out)
     replace b0 := am (blk_drew b0.out)
     replace HB := am (below_drew1 HB.out)
     have h0 : 0 ≤ (((rd_T56 a5 a4).f1) : Int) := odt
     have g7 : ((rd_T56 a5 a4).f1) < (a8.length : Int) := odt
     obtain ⟨e1, m5, c1⟩ := Kd.at_int e8.out ((rd_T56 a5 a4).f1) h0 g7
     have g1 := c1
     cases m5
     replace c1 := hxc HB c1
     replace h0 := eq_true h0
     replace g7 := eq_true g7
     have g9 : 0 ≤ (((rd_T56 a5 a4).f2) : Int) := odt
     have g6 : ((rd_T56 a5 a4).f2) < (a8.length : Int) := odt
     obtain ⟨j8, m4, c0⟩ := Kd.at_int e8.out ((rd_T56 a5 a4).f2) g9 g6
     have g0 := c0
     obtain rfl : e1 = j8 := (by injection m4)
     replace c0 := hxc HB c0
     replace g9 := eq_true g9
     replace g6 := eq_true g6
     refine start_ (n := 17) (S := fun w' => w'.cell? ⟨d5, 0, none⟩ = some (.slice c7 b2.length c3) ∧ w'.cell? ⟨d5, 1, none⟩ = some (.slice c5 b1.length c2) ∧ w'.cell? ⟨a9, 0, none⟩ = some (.int .i64 ((rd_T56 a5 a4).f0)) ∧ w'.cell? ⟨a9, 1, none⟩ = some (.int .i64 ((rd_T56 a5 a4).f1)) ∧ w'.cell? ⟨a9, 2, none⟩ = some (.int .i64 ((rd_T56 a5 a4).f2)) ∧ w'.cell? ⟨d4, 0, none⟩ = some (.slice (some e1) a8.length d3) ∧ w'.cell? ⟨d4, 1, none⟩ = some (.slice (some g4) a5.length d2) ∧ w'.cell? (e1.add (((rd_T56 a5 a4).f1)).toNat) = some (.int .i64 (rd a8 ((rd_T56 a5 a4).f1))) ∧ w'.cell? (e1.add (((rd_T56 a5 a4).f2)).toNat) = some (.int .i64 (rd a8 ((rd_T56 a5 a4).f2)))) (ds := []) #[false, false, false, false, false, false, false, false, false, false, false, false, false, false, false, false, false] (by kernel_rfl) rfl rfl ⟨bc a6 0, bc a6 1, bc b0 0, bc b0 1, bc b0 2, bc a7 0, bc a7 1, (hxc HB g1), (hxc HB g0)⟩ (fun hHeld => ?_); refine with_tabW statistic_typed.tab18 statistic_typed.bits18 (fun HT_ HW_ => ?_)
     generalize C2.drew = H3 at a6 a7 b0 HB c1 c0 hHeld ⊢
     refine pu 1 52 (bits 17 0x2) HT_ (h := ?_)
     refine pu 3 54 (bits 17 0xa) HT_ (h := ?_)
     refine pu 5 56 (bits 17 0x2a) HT_ (h := ?_)
     refine pu 9 60 (bits 17 0x22a) HT_ (h := ?_)
     refine pu 11 62 (bits 17 0xa2a) HT_ (h := ?_)
     refine tk 0 51 (bits 17 0xa2b) HT_ HW_ hHeld (hy := by rintro w' ⟨s0, s1, s2, s3, s4, s5, s6, s7, s8⟩; go_simp; with_reducible rfl) (h := ?_)
     refine tk 2 53 (bits 17 0xa2f) HT_ HW_ hHeld (hy := by rintro w' ⟨s0, s1, s2, s3, s4, s5, s6, s7, s8⟩; go_simp; with_reducible rfl) (h := ?_)
     refine tk 4 55 (bits 17 0xa3f) HT_ HW_ hHeld (hy := by rintro w' ⟨s0, s1, s2, s3, s4, s5, s6, s7, s8⟩; go_simp; with_reducible rfl) (h := ?_)
     refine tk 6 57 (bits 17 0xa7f) HT_ HW_ hHeld (hy := by rintro w' ⟨s0, s1, s2, s3, s4, s5, s6, s7, s8⟩; go_simp; with_reducible rfl) (h := ?_)
     refine pu 7 58 (bits 17 0xaff) HT_ (h := ?_)
     refine tk 8 59 (bits 17 0xbff) HT_ HW_ hHeld (hy := by rintro w' ⟨s0, s1, s2, s3, s4, s5, s6, s7, s8⟩; go_simp; with_reducible rfl) (h := ?_)
     refine tk 10 61 (bits 17 0xfff) HT_ HW_ hHeld (hy := by rintro w' ⟨s0, s1, s2, s3, s4, s5, s6, s7, s8⟩; go_simp; with_reducible rfl) (h := ?_)
     refine tk 12 63 (bits 17 0x1fff) HT_ HW_ hHeld (hy := by rintro w' ⟨s0, s1, s2, s3, s4, s5, s6, s7, s8⟩; go_simp; with_reducible rfl) (h := ?_)
     refine pu 13 64 (bits 17 0x3fff) HT_ (h := ?_)
     refine tk 14 65 (bits 17 0x7fff) HT_ HW_ hHeld (hy := by rintro w' ⟨s0, s1, s2, s3, s4, s5, s6, s7, s8⟩; go_simp; with_reducible rfl) (h := ?_)
     refine one_ (i := 15) (N := some 66) #[true, true, true, true, true, true, true, true, true, true, true, true, true, true, true, true, false] rfl rfl (one_of HT_.out (by kernel_rfl)) (by decide) (fun K hK => ?_)
     refine goes_ Tryz.func53 (by kernel_rfl) rfl #[.agg #[.slice c7 b2.length c3, .slice c5 b1.length c2], .int .i64 ((rd_T56 a5 a4).f0), .int .i64 (rd a8 ((rd_T56 a5 a4).f1)), .int .i64 (rd a8 ((rd_T56 a5 a4).f2))] (by rfl) rfl rfl (by (try simp only [List.map_toArray, List.map_cons, List.map_nil]); first | done | rfl | (simp only [List.length_drop, List.length_take]; rfl)) ?_
     with_reducible refine (types_Fits.calls k2 _ _ b2 _ _ b1 ((rd_T56 a5 a4).f0) (rd a8 ((rd_T56 a5 a4).f1)) (rd a8 ((rd_T56 a5 a4).f2)) true _ ?b9 ?b8 ?b7 ?b6 r9.out).mono ?_
     (case b9 => exact cb h5 HB)
     (case b8 => exact h7.out)
     (case b7 => exact cb h4 HB)
     (case b6 => exact h6.out)
     rintro e H2 ⟨rfl, hb⟩
     refine ⟨_, rfl, ?_⟩
     replace a6 := bkb a6 hb
     replace a7 := bkb a7 hb
     replace b0 := bkb b0 hb
     replace HB := bstep HB hb
     clear hb
     refine hK.out _ _ ⟨bc a6 0, bc a6 1, bc b0 0, bc b0 1, bc b0 2, bc a7 0, bc a7 1, (hxc HB g1), (hxc HB g0)⟩ (fun hHeld => ?_)
     clear hK K
     refine norm_ (a' := ?_) ?_ ?_
     rotate_left
     ·show Act.put _ (some 66) _ = _
      simp only [Act.put, List.setIfInBounds_toArray, List.set_cons_zero, List.set_cons_succ, i64_w, i32_w]
      rfl
     refine pu 16 67 (bits 17 0x1ffff) HT_ (h := ?_)
     refine done_ (done_of HT_.out (by kernel_rfl)) ?_
     try go_wp2
     go_roundg k2
     case measure => have := n7.out; have := r8.out; omega
     case rel => exact ⟨(wrap64 (a4 + 1)), eqs, H', ⟨by have := n7.out; have := r8.out; omega⟩, ⟨bk a6⟩, ⟨bk a7⟩, ⟨bb HB⟩⟩
mutual
def statistic_Of.l0 : Nat → List Int → Int → Int → List Int → List (S56) → List (S75) → Option ((List (S75)) × (List (S75)) × Int)
 | 0, _, _, _, _, _, _ => none
 | k + 1, s9, w3, m3, b8, c8, d5 => if m3 < w3 then (if 0 ≤ m3 then (if m3 < (s9.length : Int) then ((statistic_counted.f d5 (rd s9 m3) 0 0 1).bind fun g7 => (statistic_Of.l0 k s9 w3 (wrap64 (m3 + 1)) b8 c8 g7)) else (none)) else (none)) else (statistic_Of.l1 k c8 (c8.length : Int) 0 b8 c8 d5 ([] : List (S75)))
def statistic_Of.l1 : Nat → List (S56) → Int → Int → List Int → List (S56) → List (S75) → List (S75) → Option ((List (S75)) × (List (S75)) × Int)
 | 0, _, _, _, _, _, _, _ => none
 | k + 1, g4, w2, e4, b8, c8, d5, h3 => if e4 < w2 then (if 0 ≤ e4 then (if e4 < (g4.length : Int) then (if 0 ≤ ((rd_T56 g4 e4).f1) then (if ((rd_T56 g4 e4).f1) < (b8.length : Int) then (if 0 ≤ ((rd_T56 g4 e4).f2) then (if ((rd_T56 g4 e4).f2) < (b8.length : Int) then ((statistic_counted.f h3 ((rd_T56 g4 e4).f0) (rd b8 ((rd_T56 g4 e4).f1)) (rd b8 ((rd_T56 g4 e4).f2)) 1).bind fun g3 => (statistic_Of.l1 k g4 w2 (wrap64 (e4 + 1)) b8 c8 d5 g3)) else (none)) else (none)) else (none)) else (none)) else (none)) else (none)) else (some (d5, h3, 0))
end
def statistic_Of.f (k : Nat) (b7 : List (S96)) (b6 : List (S101)) (b1 : List Int) (a4 : List (S56)) : Option ((List (S75)) × (List (S75)) × Int) := (statistic_typed.f k b7 b6 b1 a4).bind fun d6 => (if d6 = 0 then (statistic_Of.l0 k b1 (b1.length : Int) 0 b1 a4 ([] : List (S75))) else (some (([] : List (S75)), ([] : List (S75)), d6)))
theorem statistic_Of.mono_l : ∀ k, (∀ y0 y1 y2 y3 y4 y5, LeO (statistic_Of.l0 k y0 y1 y2 y3 y4 y5) (statistic_Of.l0 (k + 1) y0 y1 y2 y3 y4 y5)) ∧ (∀ y0 y1 y2 y3 y4 y5 y6, LeO (statistic_Of.l1 k y0 y1 y2 y3 y4 y5 y6) (statistic_Of.l1 (k + 1) y0 y1 y2 y3 y4 y5 y6))
 | 0 => ⟨fun _ _ _ _ _ _ r h => by simp [statistic_Of.l0] at h, fun _ _ _ _ _ _ _ r h => by simp [statistic_Of.l1] at h⟩
 | k + 1 => by
  obtain ⟨ih0, ih1⟩ := statistic_Of.mono_l k
  refine ⟨?_, ?_⟩
  ·intro y0 y1 y2 y3 y4 y5
   unfold statistic_Of.l0
   repeat' first
   | (with_reducible exact ih0 _ _ _ _ _ _)
   | (with_reducible exact ih1 _ _ _ _ _ _ _)
   | (with_reducible exact statistic_typed.mono _ _ _ _ _)
   | (with_reducible exact LeO.refl _)
   | (with_reducible exact LeO.none _)
   | (with_reducible refine LeO.ite ?_ ?_)
   | (with_reducible refine LeO.bind ?_ (fun _ => ?_))
  ·intro y0 y1 y2 y3 y4 y5 y6
   unfold statistic_Of.l1
   repeat' first
   | (with_reducible exact ih0 _ _ _ _ _ _)
   | (with_reducible exact ih1 _ _ _ _ _ _ _)
   | (with_reducible exact statistic_typed.mono _ _ _ _ _)
   | (with_reducible exact LeO.refl _)
   | (with_reducible exact LeO.none _)
   | (with_reducible refine LeO.ite ?_ ?_)
   | (with_reducible refine LeO.bind ?_ (fun _ => ?_))
theorem statistic_Of.mono : ∀ a0 a1 a2 a3 k, LeO (statistic_Of.f k a0 a1 a2 a3) (statistic_Of.f (k + 1) a0 a1 a2 a3) := by
 intro a0 a1 a2 a3 k
 obtain ⟨ih0, ih1⟩ := statistic_Of.mono_l k
 unfold statistic_Of.f
 repeat' first
   | (with_reducible exact ih0 _ _ _ _ _ _)
   | (with_reducible exact ih1 _ _ _ _ _ _ _)
   | (with_reducible exact statistic_typed.mono _ _ _ _ _)
   | (with_reducible exact LeO.refl _)
   | (with_reducible exact LeO.none _)
   | (with_reducible refine LeO.ite ?_ ?_)
   | (with_reducible refine LeO.bind ?_ (fun _ => ?_))
def statistic_Of.T13 : Bool × List (List Nat × List Nat) := (true, [([], []), ([0], [0]), ([], []), ([2], [2]), ([], []), ([4], [4]), ([], []), ([6], [6]), ([5, 7], [5, 7]), ([8], [8]), ([], []), ([10], [10]), ([], []), ([12], [12]), ([11, 13], [11, 13]), ([14], [14]), ([3, 9, 15], [3, 9, 15]), ([1, 16], [1, 16]), ([0, 1, 2, 3, 4, 5, 6, 7, 8, 9, 10, 11, 12, 13, 14, 15, 16, 17], []), ([18, 17, 17, 0, 1, 2, 3, 4, 5, 6, 7, 8, 9, 10, 11, 12, 13, 14, 15, 16, 17], [17, 18])])
def statistic_Of.B13 : List Nat := [0, 1, 0, 4, 0, 16, 0, 64, 240, 496, 0, 1024, 0, 4096, 15360, 31744, 65532, 131071, 262143, 524287]
theorem statistic_Of.tab13 : rtab .any (opsOf Tryz.f14 13) = statistic_Of.T13 := by kernel_rfl
theorem statistic_Of.bits13 : waitsOk statistic_Of.T13.2 statistic_Of.B13 = true := by kernel_rfl
theorem statistic_Of.calls (k : Nat) (e3 : Option Addr) (e0 : Nat) (b7 : List (S96)) (e2 : Option Addr) (d9 : Nat) (b6 : List (S101)) (e1 : Option Addr) (d4 : Nat) (b1 : List Int) (e9 : Option Addr) (d3 : Nat) (a4 : List (S56)) (r1 : List (S75)) (r2 : List (S75)) (r3 : Int) (w : World) (o5 : Kd.C k96 w e3 b7.length b7) (o9 : b7.length ≤ e0) (o4 : Kd.C k101 w e2 b6.length b6) (o8 : b6.length ≤ d9) (o3 : Kd.C (Kd.int .i64) w e1 b1.length b1) (o7 : b1.length ≤ d4) (o2 : Kd.C k56 w e9 a4.length a4) (o6 : a4.length ≤ d3) (h : statistic_Of.f k b7 b6 b1 a4 = some (r1, r2, r3)) :
  Calls Tryz.prog 14 #[.agg #[.slice e3 b7.length e0, .slice e2 b6.length d9], .agg #[.slice e1 b1.length d4, .slice e9 a4.length d3]] w fun e w' => ∃ t1 t0 : Value, e = .returned (.tuple #[.agg #[t1, t0], .int .i64 r3]) ∧ Kd.R k75 75 w' w.heap.size (fun k_ => some k_ ≠ (t0 : Value).ownBlock) t1 r1 ∧ Kd.R k75 75 w' w.heap.size (fun k_ => some k_ ≠ (t1 : Value).ownBlock) t0 r2 ∧ Below w.heap.size w w' := by
 have hu31 := Tryz.underlying31
 have hu35 := Tryz.underlying35
 have hu46 := Tryz.underlying46
 have hu75 := Tryz.underlying75
 have hu56 := Tryz.underlying56
 have p3 := am o5
 have q0 := am o9
 clear o5 o9
 have p2 := am o4
 have p9 := am o8
 clear o4 o8
 have g6 := am o3
 have p8 := am o7
 clear o3 o7
 have m0 := am o2
 have p7 := am o6
 clear o2 o6
 have HB := am (Below.refl w.heap.size w)
 have H : ((statistic_typed.f k b7 b6 b1 a4).bind fun d6 => (if d6 = 0 then (statistic_Of.l0 k b1 (b1.length : Int) 0 b1 a4 ([] : List (S75))) else (some (([] : List (S75)), ([] : List (S75)), d6)))) = some (r1, r2, r3) := h
 clear h
 obtain ⟨d6, A3, H⟩ := obA H
 by_cases c4 : d6 = 0
 rotate_left
 ·rw [if_neg c4] at H
  have v3 := beq_eq_false_iff_ne.mpr c4
  have v2 := bne_iff_ne.mpr c4
  simp only [Option.some.injEq, Prod.mk.injEq] at H
  obtain ⟨rfl, rfl, rfl⟩ := H
  go_enter Tryz.func14, Tryz.ntmps14
  go_wp2_with (first | ((with_reducible refine gate_dst (N := 2) rfl ?_); refine be 2 #[.slice e3 b7.length e0, .slice e2 b6.length d9] 31 ?_; intro h1 hg N0 hbox hb; have a6 := am (hbox); have w0 := bsz HB hg; replace HB := bstep HB hb; clear hb hbox hg) | ((with_reducible refine gate_dst (N := 3) rfl ?_); refine be 3 #[.slice e1 b1.length d4, .slice e9 a4.length d3] 35 ?_; intro g2 hg M9 hbox hb; have a7 := am (hbox); have v9 := bsz HB hg; replace HB := bstep HB hb; have d2 := blt a6 hg; have d0 := bgt a6 hg; replace a6 := bkb a6 hb; clear hb hbox hg) | ((with_reducible refine gate_dst (N := 4) rfl ?_); refine be 4 #[.slice none 0 0, .slice none 0 0] 46 ?_; intro c1 hg M8 hbox hb; have a9 := am (hbox); have v8 := bsz HB hg; replace HB := bstep HB hb; have d1 := blt a6 hg; have c9 := bgt a6 hg; replace a6 := bkb a6 hb; have c6 := blt a7 hg; have c3 := bgt a7 hg; replace a7 := bkb a7 hb; clear hb hbox hg; have I0 := d2.out; have G0 := d0.out; have H9 := d1.out; have F9 := c9.out; obtain ⟨E0, D9, C3, C2⟩ := cz2 a6; have H8 := c6.out; have F8 := c3.out; obtain ⟨D8, D7, C1, C0⟩ := cz2 a7) | ((with_reducible refine gate_callee (f := 40) rfl ?_); refine gl 14 Tryz.func40 #[.agg #[.slice e3 b7.length e0, .slice e2 b6.length d9], .agg #[.slice e1 b1.length d4, .slice e9 a4.length d3]] (h := ?_); (with_reducible refine (statistic_typed.calls k _ _ b7 _ _ b6 _ _ b1 _ _ a4 d6 _ ?d8 ?d7 ?j7 ?j6 ?j5 ?j4 ?j3 ?j2 A3.out).mono ?_); (case d8 => exact cb p3 HB); (case d7 => exact q0.out); (case j7 => exact cb p2 HB); (case j6 => exact p9.out); (case j5 => exact cb g6 HB); (case j4 => exact p8.out); (case j3 => exact cb m0 HB); (case j2 => exact p7.out); rintro e M7 ⟨rfl, hb⟩; refine ⟨_, rfl, ?_⟩; replace a6 := bkb a6 hb; replace a7 := bkb a7 hb; replace a9 := bkb a9 hb; replace HB := bstep HB hb; (try clear hb); (try clear hb2); (try clear hk); (try clear hi); obtain ⟨D6, D5, A9, A8⟩ := cz2 a9))
  refine bodyPost_ret (results_ct rfl _ _ c1 46 #[.slice none 0 0, .slice none 0 0] (0, 0) _ rfl (by (with_reducible repeat (first | refine dN ?_ _ | refine dR ?_ | refine dA ?_ _)); refine blk_put (cs := #[.slice none 0 0, .slice none 0 0]) ?_ 1 _ rfl; refine blk_put (cs := #[.slice none 0 0, .slice none 0 0]) ?_ 0 _ rfl; (with_reducible repeat (first | refine dN ?_ _ | refine dR ?_ | refine dA ?_ _)); exact a9.out) Tryz.underlying46 rfl (by kernel_rfl)) rfl ?_
  exact ⟨_, _, erf, by first | exact Kd.R_nil _ _ _ _ _ | exact Kd.N_nil _ _ _ _ _ | exact Kd.V_nil _ _ _ _ _ | exact Kd.Q_nil _ _ _ _ _ | exact Kd.S_nil _ _ _ _ _, by first | exact Kd.R_nil _ _ _ _ _ | exact Kd.N_nil _ _ _ _ _ | exact Kd.V_nil _ _ _ _ _ | exact Kd.Q_nil _ _ _ _ _ | exact Kd.S_nil _ _ _ _ _, bb HB⟩
 rw [if_pos c4] at H
 have v3 := beq_iff_eq.mpr c4
 have v2 := bne_eq_false_iff_eq.mpr c4
 clear c4
 have H' := am H
 clear H
 go_enter Tryz.func14, Tryz.ntmps14
 go_wp2_with (first | ((with_reducible refine gate_dst (N := 2) rfl ?_); refine be 2 #[.slice e3 b7.length e0, .slice e2 b6.length d9] 31 ?_; intro h1 hg w5 hbox hb; have a6 := am (hbox); have w0 := bsz HB hg; replace HB := bstep HB hb; clear hb hbox hg) | ((with_reducible refine gate_dst (N := 3) rfl ?_); refine be 3 #[.slice e1 b1.length d4, .slice e9 a4.length d3] 35 ?_; intro g2 hg w6 hbox hb; have a7 := am (hbox); have v9 := bsz HB hg; replace HB := bstep HB hb; have d2 := blt a6 hg; have d0 := bgt a6 hg; replace a6 := bkb a6 hb; clear hb hbox hg) | ((with_reducible refine gate_dst (N := 4) rfl ?_); refine be 4 #[.slice none 0 0, .slice none 0 0] 46 ?_; intro c1 hg w7 hbox hb; have a9 := am (hbox); have v8 := bsz HB hg; replace HB := bstep HB hb; have d1 := blt a6 hg; have c9 := bgt a6 hg; replace a6 := bkb a6 hb; have c6 := blt a7 hg; have c3 := bgt a7 hg; replace a7 := bkb a7 hb; clear hb hbox hg; have M6 := d2.out; have M4 := d0.out; have M5 := d1.out; have M3 := c9.out; obtain ⟨r9, r8, q8, q7⟩ := cz2 a6; have J7 := c6.out; have H7 := c3.out; obtain ⟨r7, r6, q6, q5⟩ := cz2 a7) | ((with_reducible refine gate_callee (f := 40) rfl ?_); refine gl 14 Tryz.func40 #[.agg #[.slice e3 b7.length e0, .slice e2 b6.length d9], .agg #[.slice e1 b1.length d4, .slice e9 a4.length d3]] (h := ?_); (with_reducible refine (statistic_typed.calls k _ _ b7 _ _ b6 _ _ b1 _ _ a4 d6 _ ?d8 ?d7 ?j7 ?j6 ?j5 ?j4 ?j3 ?j2 A3.out).mono ?_); (case d8 => exact cb p3 HB); (case d7 => exact q0.out); (case j7 => exact cb p2 HB); (case j6 => exact p9.out); (case j5 => exact cb g6 HB); (case j4 => exact p8.out); (case j3 => exact cb m0 HB); (case j2 => exact p7.out); rintro e N4 ⟨rfl, hb⟩; refine ⟨_, rfl, ?_⟩; replace a6 := bkb a6 hb; replace a7 := bkb a7 hb; replace a9 := bkb a9 hb; replace HB := bstep HB hb; (try clear hb); (try clear hb2); (try clear hk); (try clear hi)) | ((with_reducible refine gate_dst (N := 7) rfl ?_); refine be 7 #[.slice none 0 0, .slice none 0 0] 46 ?_; intro c7 hg N3 hbox hb; have b0 := am (hbox); have L9 := bsz HB hg; replace HB := bstep HB hb; have e8 := blt a6 hg; have e6 := bgt a6 hg; replace a6 := bkb a6 hb; have c5 := blt a7 hg; have c2 := bgt a7 hg; replace a7 := bkb a7 hb; have e7 := blt a9 hg; have e5 := bgt a9 hg; replace a9 := bkb a9 hb; clear hb hbox hg; have J6 := c5.out; have H6 := c2.out; obtain ⟨r5, r4, q4, q3⟩ := cz2 a7))
 go_loopg [22] k (fun kq F5 w' => ∃ (c0 : Int) (b2 : List (S75)) (b5 : Value), F5 = .int .i64 c0 ∧ Aside0 (statistic_Of.l0 kq b1 (b1.length : Int) c0 b1 a4 b2 = some (r1, r2, r3)) ∧ Aside0 (kq ≤ k) ∧ Aside0 (Kd.R k75 75 w' w.heap.size (fun _ => True) b5 b2) ∧ Aside0 (w'.heap[h1]? = some (.cells #[(.slice e3 b7.length e0), (.slice e2 b6.length d9)] 31 (0, 0))) ∧ Aside0 (w'.heap[g2]? = some (.cells #[(.slice e1 b1.length d4), (.slice e9 a4.length d3)] 35 (0, 0))) ∧ Aside0 (w'.heap[c1]? = some (.cells #[(.slice none 0 0), (.slice none 0 0)] 46 (0, 0))) ∧ Aside0 (w'.heap[c7]? = some (.cells #[b5, (.slice none 0 0)] 46 (0, 0))) ∧ Aside0 (Below w.heap.size w w'))
 case atStart => exact ⟨(0), (([] : List (S75))), (.slice none 0 0), eqs, H', ⟨Nat.le_refl _⟩, ⟨by first | exact Kd.R_nil _ _ _ _ _ | exact Kd.N_nil _ _ _ _ _ | exact Kd.V_nil _ _ _ _ _ | exact Kd.Q_nil _ _ _ _ _ | exact Kd.S_nil _ _ _ _ _⟩, ⟨bk a6⟩, ⟨bk a7⟩, ⟨bk a9⟩, ⟨bk b0⟩, ⟨bb HB⟩⟩
 case round =>
  clear H'
  clear v3
  clear v2
  clear r9
  clear r8
  clear r7
  clear r6
  clear r5
  clear r4
  clear q8
  clear q7
  clear q6
  clear q5
  clear q4
  clear q3
  obtain ⟨c0, b2, b5, rfl, HA, p6, HO_255000, a6, a7, a9, b0, HB⟩ := hrel
  cases gk with
  | zero => exact absurd HA.out (by simp [statistic_Of.l0])
  | succ k1 =>
   have H := HA.out
   clear HA
   simp only [statistic_Of.l0] at H
   by_cases j1 : c0 < (b1.length : Int)
   ·rw [if_pos j1] at H
    have p0 := decide_eq_true j1
    clear j1
    obtain ⟨x6, H⟩ := itn H
    have L6 := decide_eq_true x6
    clear x6
    obtain ⟨x4, H⟩ := itn H
    have L5 := decide_eq_true x4
    clear x4
    obtain ⟨g7, F7, H⟩ := obA H
    have H' := am H
    clear H
    have n7 : 0 ≤ c0 := odt
    have n3 : c0 < (b1.length : Int) := odt
    obtain ⟨L7, y8, h7⟩ := Kd.at_int g6.out c0 n7 n3
    cases y8
    replace h7 := hxc HB h7
    replace n7 := eq_true n7
    replace n3 := eq_true n3
    have J5 := e6.out
    have H5 := e8.out
    have J4 := c2.out
    have H4 := c5.out
    have J3 := e5.out
    have H3 := e7.out
    obtain ⟨F1, F0, D4, D3⟩ := cz2 b0
    obtain ⟨v5, v1, eo25⟩ := Kd.R_slice HO_255000.out
    subst eo25
    go_wp2_with ((with_reducible refine gate_callee (f := 41) rfl ?_); refine gl 30 Tryz.func41 #[.slice v5 b2.length v1, .agg #[.int .i64 (rd b1 c0), .int .i64 0, .int .i64 0, .int .i64 1]] (h := ?_); (with_reducible refine (statistic_counted.calls _ _ b2 (rd b1 c0) 0 0 1 g7 _ ?d8 ?d7 F7.out).mono ?_); (case d8 => repeat (first | exact (Kd.R_reads' HO_255000.out).2.2 | (with_reducible refine Kd.C_alloc ?_ _) | (with_reducible refine Kd.C_drewN ?_ _) | (with_reducible refine Kd.C_drew ?_))); (case d7 => exact (Kd.R_reads' HO_255000.out).2.1); rintro e N2 ⟨M1, rfl, g8, hb⟩; refine ⟨_, rfl, ?_⟩; have p5 := am (Kd.R_lower (Kd.R_new' g8 (Kd.R_lt (kR HO_255000))) (below_size (bb HB))); replace HO_255000 := am (Kd.R_elder' (kR HO_255000) (Kd.R_base g8) hb); replace a6 := bkb a6 hb; replace a7 := bkb a7 hb; replace a9 := bkb a9 hb; replace b0 := bkb b0 hb; replace HB := bstep HB hb; (try clear hb); (try clear hb2); (try clear hk); (try clear hi); (try clear g8); obtain ⟨v4, v0, eo27⟩ := Kd.R_slice p5.out; subst eo27; obtain ⟨E9, E8, D2, D1⟩ := cz2 b0)
    go_roundg k1
    case measure => have := p6.out; omega
    case rel => exact ⟨(wrap64 (c0 + 1)), (g7), (.slice v4 g7.length v0), eqs, H', ⟨by have := p6.out; omega⟩, ⟨by (with_reducible repeat (first | apply Kd.R_alloc | apply Kd.R_drewN | apply Kd.R_drew)); exact Kd.R_mono (Kd.R_far (p := ⟨c7, 0, none⟩) (Kd.R_types p5.out b0.out (by decide)) (fun _ hk => hk.2) (.slice v4 g7.length v0)) (fun _ hk => trivial)⟩, ⟨bkF a6⟩, ⟨bkF a7⟩, ⟨bkF a9⟩, ⟨by (with_reducible repeat (first | refine dN ?_ _ | refine dR ?_ | refine dA ?_ _)); refine blk_put (cs := #[.slice v5 b2.length v1, .slice none 0 0]) ?_ 0 _ rfl; (with_reducible repeat (first | refine dN ?_ _ | refine dR ?_ | refine dA ?_ _)); exact b0.out⟩, ⟨bb HB⟩⟩
   rw [if_neg j1] at H
   have p0 := decide_eq_false j1
   clear j1
   have H' := am H
   clear H
   have J2 := d0.out
   have H2 := d2.out
   have J1 := c6.out
   have H1 := c3.out
   have J0 := c5.out
   have H0 := c2.out
   obtain ⟨r0, q9, q2, q1⟩ := cz2 a7
   go_wp2
   go_loopg [36] k1 (fun kq F4 w' => ∃ (a5 : Int) (b3 : List (S75)) (b9 : Value), F4 = .int .i64 a5 ∧ Aside0 (statistic_Of.l1 kq a4 (a4.length : Int) a5 b1 a4 b2 b3 = some (r1, r2, r3)) ∧ Aside0 (kq ≤ k1) ∧ Aside0 (Kd.R k75 75 w' w.heap.size (fun k_ => some k_ ≠ (b9 : Value).ownBlock) b5 b2) ∧ Aside0 (Kd.R k75 75 w' w.heap.size (fun k_ => some k_ ≠ (b5 : Value).ownBlock) b9 b3) ∧ Aside0 (w'.heap[h1]? = some (.cells #[(.slice e3 b7.length e0), (.slice e2 b6.length d9)] 31 (0, 0))) ∧ Aside0 (w'.heap[g2]? = some (.cells #[(.slice e1 b1.length d4), (.slice e9 a4.length d3)] 35 (0, 0))) ∧ Aside0 (w'.heap[c1]? = some (.cells #[(.slice none 0 0), (.slice none 0 0)] 46 (0, 0))) ∧ Aside0 (w'.heap[c7]? = some (.cells #[b5, b9] 46 (0, 0))) ∧ Aside0 (Below w.heap.size w w'))
   case atStart => exact ⟨(0), (([] : List (S75))), (.slice none 0 0), eqs, H', ⟨Nat.le_refl _⟩, ⟨by (with_reducible repeat (first | apply Kd.R_alloc | apply Kd.R_drewN | apply Kd.R_drew)); exact Kd.R_mono HO_255000.out (fun _ hk => (by simp [Value.ownBlock]))⟩, ⟨by first | exact Kd.R_nil _ _ _ _ _ | exact Kd.N_nil _ _ _ _ _ | exact Kd.V_nil _ _ _ _ _ | exact Kd.Q_nil _ _ _ _ _ | exact Kd.S_nil _ _ _ _ _⟩, ⟨bk a6⟩, ⟨bk a7⟩, ⟨bk a9⟩, ⟨bk b0⟩, ⟨bb HB⟩⟩
   case round =>
    clear H'
    clear p0
    clear r0
    clear q9
    clear q2
    clear q1
    obtain ⟨a5, b3, b9, rfl, HA, x7, HO_255000, HO_255001, a6, a7, a9, b0, HB⟩ := hrel
    cases gk with
    | zero => exact absurd HA.out (by simp [statistic_Of.l1])
    | succ k2 =>
     have H := HA.out
     clear HA
     simp only [statistic_Of.l1] at H
     by_cases j0 : a5 < (a4.length : Int)
     rotate_left
     ·rw [if_neg j0] at H
      have v6 := decide_eq_false j0
      clear j0
      simp only [Option.some.injEq, Prod.mk.injEq] at H
      obtain ⟨rfl, rfl, rfl⟩ := H
      have I5 := e6.out
      have G5 := e8.out
      have I4 := c2.out
      have G4 := c5.out
      have I3 := e5.out
      have G3 := e7.out
      obtain ⟨E4, E3, C7, C6⟩ := cz2 b0
      obtain ⟨m1, j8, eo57⟩ := Kd.R_slice HO_255000.out
      subst eo57
      have I2 := c9.out
      have G2 := d1.out
      have I1 := c3.out
      have G1 := c6.out
      obtain ⟨E2, E1, C5, C4⟩ := cz2 a9
      obtain ⟨o0, n8, eo61⟩ := Kd.R_slice HO_255001.out
      subst eo61
      go_wp2
      refine bodyPost_ret (results_ct rfl _ _ c1 46 #[.slice m1 b2.length j8, .slice o0 b3.length n8] (0, 0) _ rfl (by (with_reducible repeat (first | refine dN ?_ _ | refine dR ?_ | refine dA ?_ _)); refine blk_put (cs := #[.slice m1 b2.length j8, .slice none 0 0]) ?_ 1 _ rfl; refine blk_put (cs := #[.slice none 0 0, .slice none 0 0]) ?_ 0 _ rfl; (with_reducible repeat (first | refine dN ?_ _ | refine dR ?_ | refine dA ?_ _)); exact a9.out) Tryz.underlying46 rfl (by kernel_rfl)) rfl ?_
      exact ⟨_, _, erf, by (with_reducible repeat (first | apply Kd.R_alloc | apply Kd.R_drewN | apply Kd.R_drew)); exact Kd.R_mono (Kd.R_far (p := ⟨c1, 1, none⟩) (Kd.R_far (p := ⟨c1, 0, none⟩) (Kd.R_types HO_255000.out a9.out (by decide)) (fun _ hk => hk.2) (.slice m1 b2.length j8)) (fun _ hk => hk.2) (.slice o0 b3.length n8)) (fun _ hk => hk.1), by (with_reducible repeat (first | apply Kd.R_alloc | apply Kd.R_drewN | apply Kd.R_drew)); exact Kd.R_mono (Kd.R_far (p := ⟨c1, 1, none⟩) (Kd.R_far (p := ⟨c1, 0, none⟩) (Kd.R_types HO_255001.out a9.out (by decide)) (fun _ hk => hk.2) (.slice m1 b2.length j8)) (fun _ hk => hk.2) (.slice o0 b3.length n8)) (fun _ hk => hk.1), bb HB⟩
     rw [if_pos j0] at H
     have v6 := decide_eq_true j0
     clear j0
     obtain ⟨x3, H⟩ := itn H
     have L4 := decide_eq_true x3
     clear x3
     obtain ⟨x2, H⟩ := itn H
     have L3 := decide_eq_true x2
     clear x2
     obtain ⟨x0, H⟩ := itn H
     have L2 := decide_eq_true x0
     clear x0
     obtain ⟨w9, H⟩ := itn H
     have L1 := decide_eq_true w9
     clear w9
     obtain ⟨w8, H⟩ := itn H
     have L0 := decide_eq_true w8
     clear w8
     obtain ⟨w4, H⟩ := itn H
     have J9 := decide_eq_true w4
     clear w4
     obtain ⟨g3, F6, H⟩ := obA H
     have H' := am H
     clear H
     have n6 : 0 ≤ a5 := odt
     have n2 : a5 < (a4.length : Int) := odt
     obtain ⟨p1, y7, h6, h5, h4⟩ := at_T56 m0.out a5 n6 n2
     cases y7
     replace h6 := hxc HB h6
     replace h5 := hxc HB h5
     replace h4 := hxc HB h4
     replace n6 := eq_true n6
     replace n2 := eq_true n2
     try go_wp2_with ((with_reducible refine gate_dst (N := 11) rfl ?_); refine be 11 #[.int .i64 0, .int .i64 0, .int .i64 0] 56 ?_; intro a8 hg g5 hbox hb; replace HO_255000 := kRb HO_255000 hb; replace HO_255001 := kRb HO_255001 hb; have b4 := am (hbox); have L8 := bsz HB hg; replace HB := bstep HB hb; have m9 := blt a6 hg; have m6 := bgt a6 hg; replace a6 := bkb a6 hb; have m8 := blt a7 hg; have m5 := bgt a7 hg; replace a7 := bkb a7 hb; have m7 := blt a9 hg; have m4 := bgt a9 hg; replace a9 := bkb a9 hb; have h0 := blt b0 hg; have g9 := bgt b0 hg; replace b0 := bkb b0 hb; clear hb hbox hg; have I9 := m6.out; have G9 := m9.out; have I8 := m5.out; have G8 := m8.out; have I7 := m4.out; have G7 := m7.out; have I6 := g9.out; have G6 := h0.out; obtain ⟨E7, E6, E5, D0, C9, C8⟩ := cz3 b4)
     have t9 : Aside0 (Kd.R k75 75 (((g5.setCell ⟨a8, 0, none⟩ (.int .i64 ((rd_T56 a4 a5).f0))).setCell ⟨a8, 1, none⟩ (.int .i64 ((rd_T56 a4 a5).f1))).setCell ⟨a8, 2, none⟩ (.int .i64 ((rd_T56 a4 a5).f2))) w.heap.size (fun k_ => some k_ ≠ (b9 : Value).ownBlock) b5 b2) := ⟨by (with_reducible repeat (first | apply Kd.R_alloc | apply Kd.R_drewN | apply Kd.R_drew)); exact Kd.R_mono (Kd.R_far (p := ⟨a8, 2, none⟩) (Kd.R_far (p := ⟨a8, 1, none⟩) (Kd.R_far (p := ⟨a8, 0, none⟩) (Kd.R_types HO_255000.out b4.out (by decide)) (fun _ hk => hk.2) (.int .i64 ((rd_T56 a4 a5).f0))) (fun _ hk => hk.2) (.int .i64 ((rd_T56 a4 a5).f1))) (fun _ hk => hk.2) (.int .i64 ((rd_T56 a4 a5).f2))) (fun _ hk => hk.1)⟩
     have t8 : Aside0 (Kd.R k75 75 (((g5.setCell ⟨a8, 0, none⟩ (.int .i64 ((rd_T56 a4 a5).f0))).setCell ⟨a8, 1, none⟩ (.int .i64 ((rd_T56 a4 a5).f1))).setCell ⟨a8, 2, none⟩ (.int .i64 ((rd_T56 a4 a5).f2))) w.heap.size (fun k_ => some k_ ≠ (b5 : Value).ownBlock) b9 b3) := ⟨by (with_reducible repeat (first | apply Kd.R_alloc | apply Kd.R_drewN | apply Kd.R_drew)); exact Kd.R_mono (Kd.R_far (p := ⟨a8, 2, none⟩) (Kd.R_far (p := ⟨a8, 1, none⟩) (Kd.R_far (p := ⟨a8, 0, none⟩) (Kd.R_types HO_255001.out b4.out (by decide)) (fun _ hk => hk.2) (.int .i64 ((rd_T56 a4 a5).f0))) (fun _ hk => hk.2) (.int .i64 ((rd_T56 a4 a5).f1))) (fun _ hk => hk.2) (.int .i64 ((rd_T56 a4 a5).f2))) (fun _ hk => hk.1)⟩
     have t7 : Aside0 ((((g5.setCell ⟨a8, 0, none⟩ (.int .i64 ((rd_T56 a4 a5).f0))).setCell ⟨a8, 1, none⟩ (.int .i64 ((rd_T56 a4 a5).f1))).setCell ⟨a8, 2, none⟩ (.int .i64 ((rd_T56 a4 a5).f2))).heap[h1]? = some (.cells #[.slice e3 b7.length e0, .slice e2 b6.length d9] 31 (0, 0))) := ⟨bkF a6⟩
     have t6 : Aside0 ((((g5.setCell ⟨a8, 0, none⟩ (.int .i64 ((rd_T56 a4 a5).f0))).setCell ⟨a8, 1, none⟩ (.int .i64 ((rd_T56 a4 a5).f1))).setCell ⟨a8, 2, none⟩ (.int .i64 ((rd_T56 a4 a5).f2))).heap[g2]? = some (.cells #[.slice e1 b1.length d4, .slice (some p1) a4.length d3] 35 (0, 0))) := ⟨bkF a7⟩
     have t5 : Aside0 ((((g5.setCell ⟨a8, 0, none⟩ (.int .i64 ((rd_T56 a4 a5).f0))).setCell ⟨a8, 1, none⟩ (.int .i64 ((rd_T56 a4 a5).f1))).setCell ⟨a8, 2, none⟩ (.int .i64 ((rd_T56 a4 a5).f2))).heap[c1]? = some (.cells #[.slice none 0 0, .slice none 0 0] 46 (0, 0))) := ⟨bkF a9⟩
     have t4 : Aside0 ((((g5.setCell ⟨a8, 0, none⟩ (.int .i64 ((rd_T56 a4 a5).f0))).setCell ⟨a8, 1, none⟩ (.int .i64 ((rd_T56 a4 a5).f1))).setCell ⟨a8, 2, none⟩ (.int .i64 ((rd_T56 a4 a5).f2))).heap[c7]? = some (.cells #[b5, b9] 46 (0, 0))) := ⟨bkF b0⟩
     have t3 : Aside0 ((((g5.setCell ⟨a8, 0, none⟩ (.int .i64 ((rd_T56 a4 a5).f0))).setCell ⟨a8, 1, none⟩ (.int .i64 ((rd_T56 a4 a5).f1))).setCell ⟨a8, 2, none⟩ (.int .i64 ((rd_T56 a4 a5).f2))).heap[a8]? = some (.cells #[.int .i64 ((rd_T56 a4 a5).f0), .int .i64 ((rd_T56 a4 a5).f1), .int .i64 ((rd_T56 a4 a5).f2)] 56 (0, 0))) := ⟨by (with_reducible repeat (first | refine dN ?_ _ | refine dR ?_ | refine dA ?_ _)); refine blk_put (cs := #[.int .i64 ((rd_T56 a4 a5).f0), .int .i64 ((rd_T56 a4 a5).f1), .int .i64 0]) ?_ 2 _ rfl; refine blk_put (cs := #[.int .i64 ((rd_T56 a4 a5).f0), .int .i64 0, .int .i64 0]) ?_ 1 _ rfl; refine blk_put (cs := #[.int .i64 0, .int .i64 0, .int .i64 0]) ?_ 0 _ rfl; (with_reducible repeat (first | refine dN ?_ _ | refine dR ?_ | refine dA ?_ _)); exact b4.out⟩
     have t2 : Aside0 (Below w.heap.size w (((g5.setCell ⟨a8, 0, none⟩ (.int .i64 ((rd_T56 a4 a5).f0))).setCell ⟨a8, 1, none⟩ (.int .i64 ((rd_T56 a4 a5).f1))).setCell ⟨a8, 2, none⟩ (.int .i64 ((rd_T56 a4 a5).f2)))) := ⟨bb HB⟩
     clear HO_255000
     clear HO_255001
     clear a6
     clear a7
     clear a9
     clear b0
     clear b4
     clear HB
     generalize (((g5.setCell ⟨a8, 0, none⟩ (.int .i64 ((rd_T56 a4 a5).f0))).setCell ⟨a8, 1, none⟩ (.int .i64 ((rd_T56 a4 a5).f1))).setCell ⟨a8, 2, none⟩ (.int .i64 ((rd_T56 a4 a5).f2))) = F3 at t9 t8 t7 t6 t5 t4 t3 t2 ⊢
     have HO_255000 := t9
     have HO_255001 := t8
     have a6 := t7
     have a7 := t6
     have a9 := t5
     have b0 := t4
     have b4 := t3
     have HB := t2
     clear t9 t8 t7 t6 t5 t4 t3 t2
     replace HO_255000 := am (Kd.R_drew HO_255000.out)
     replace HO_255001 := am (Kd.R_drew HO_255001.out)
     replace a6 := am (blk_drew a6.out)
     replace a7 := am (blk_drew a7.out)
     replace a9 := am (blk_drew a9.out)
     replace b0 := am (blk_drew b0.out)
     replace b4 := am (blk_drew b4.out)
     replace HB := am (below_drew1 HB.out)
     have n5 : 0 ≤ (((rd_T56 a4 a5).f1) : Int) := odt
     have n1 : ((rd_T56 a4 a5).f1) < (b1.length : Int) := odt
     obtain ⟨h2, x9, g1⟩ := Kd.at_int g6.out ((rd_T56 a4 a5).f1) n5 n1
     have h9 := g1
     cases x9
     replace g1 := hxc HB g1
     replace n5 := eq_true n5
     replace n1 := eq_true n1
     have n4 : 0 ≤ (((rd_T56 a4 a5).f2) : Int) := odt
     have n0 : ((rd_T56 a4 a5).f2) < (b1.length : Int) := odt
     obtain ⟨v7, x8, g0⟩ := Kd.at_int g6.out ((rd_T56 a4 a5).f2) n4 n0
     have h8 := g0
     obtain rfl : h2 = v7 := (by injection x8)
     replace g0 := hxc HB g0
     replace n4 := eq_true n4
     replace n0 := eq_true n0
     obtain ⟨m2, j9, eo49⟩ := Kd.R_slice HO_255001.out
     (first | subst eo49 | (injection eo49 with f1_ f2_ f3_; have f4_ := f1_.symm; have f5_ := f3_.symm; clear f1_ f2_ f3_; subst f4_; subst f5_))
     refine start_ (n := 20) (S := fun w' => w'.cell? ⟨c7, 0, none⟩ = some (b5) ∧ w'.cell? ⟨c7, 1, none⟩ = some (.slice m2 b3.length j9) ∧ w'.cell? ⟨a8, 0, none⟩ = some (.int .i64 ((rd_T56 a4 a5).f0)) ∧ w'.cell? ⟨a8, 1, none⟩ = some (.int .i64 ((rd_T56 a4 a5).f1)) ∧ w'.cell? ⟨a8, 2, none⟩ = some (.int .i64 ((rd_T56 a4 a5).f2)) ∧ w'.cell? ⟨g2, 0, none⟩ = some (.slice (some h2) b1.length d4) ∧ w'.cell? ⟨g2, 1, none⟩ = some (.slice (some p1) a4.length d3) ∧ w'.cell? (h2.add (((rd_T56 a4 a5).f1)).toNat) = some (.int .i64 (rd b1 ((rd_T56 a4 a5).f1))) ∧ w'.cell? (h2.add (((rd_T56 a4 a5).f2)).toNat) = some (.int .i64 (rd b1 ((rd_T56 a4 a5).f2)))) (ds := [19]) #[false, false, false, false, false, false, false, false, false, false, false, false, false, false, false, false, false, false, false, false] (by kernel_rfl) rfl rfl ⟨bc b0 0, bc b0 1, bc b4 0, bc b4 1, bc b4 2, bc a7 0, bc a7 1, (hxc HB h9), (hxc HB h8)⟩ (fun hHeld => ?_); refine with_tabW statistic_Of.tab13 statistic_Of.bits13 (fun HT_ HW_ => ?_)
     generalize F3.drew = N1 at HO_255000 HO_255001 a6 a7 a9 b0 b4 HB g1 g0 hHeld ⊢
     refine pu 0 40 (bits 20 0x1) HT_ (h := ?_)
     refine pu 2 42 (bits 20 0x5) HT_ (h := ?_)
     refine pu 4 44 (bits 20 0x15) HT_ (h := ?_)
     refine pu 6 46 (bits 20 0x55) HT_ (h := ?_)
     refine pu 10 50 (bits 20 0x455) HT_ (h := ?_)
     refine pu 12 52 (bits 20 0x1455) HT_ (h := ?_)
     refine tk 1 41 (bits 20 0x1457) HT_ HW_ hHeld (hy := by rintro w' ⟨s0, s1, s2, s3, s4, s5, s6, s7, s8⟩; go_simp; with_reducible rfl) (h := ?_)
     refine tk 3 43 (bits 20 0x145f) HT_ HW_ hHeld (hy := by rintro w' ⟨s0, s1, s2, s3, s4, s5, s6, s7, s8⟩; go_simp; with_reducible rfl) (h := ?_)
     refine tk 5 45 (bits 20 0x147f) HT_ HW_ hHeld (hy := by rintro w' ⟨s0, s1, s2, s3, s4, s5, s6, s7, s8⟩; go_simp; with_reducible rfl) (h := ?_)
     refine tk 7 47 (bits 20 0x14ff) HT_ HW_ hHeld (hy := by rintro w' ⟨s0, s1, s2, s3, s4, s5, s6, s7, s8⟩; go_simp; with_reducible rfl) (h := ?_)
     refine pu 8 48 (bits 20 0x15ff) HT_ (h := ?_)
     refine tk 9 49 (bits 20 0x17ff) HT_ HW_ hHeld (hy := by rintro w' ⟨s0, s1, s2, s3, s4, s5, s6, s7, s8⟩; go_simp; with_reducible rfl) (h := ?_)
     refine tk 11 51 (bits 20 0x1fff) HT_ HW_ hHeld (hy := by rintro w' ⟨s0, s1, s2, s3, s4, s5, s6, s7, s8⟩; go_simp; with_reducible rfl) (h := ?_)
     refine tk 13 53 (bits 20 0x3fff) HT_ HW_ hHeld (hy := by rintro w' ⟨s0, s1, s2, s3, s4, s5, s6, s7, s8⟩; go_simp; with_reducible rfl) (h := ?_)
     refine pu 14 54 (bits 20 0x7fff) HT_ (h := ?_)
     refine tk 15 55 (bits 20 0xffff) HT_ HW_ hHeld (hy := by rintro w' ⟨s0, s1, s2, s3, s4, s5, s6, s7, s8⟩; go_simp; with_reducible rfl) (h := ?_)
     refine pu 16 56 (bits 20 0x1ffff) HT_ (h := ?_)
     refine one_ (i := 17) (N := some 57) #[true, true, true, true, true, true, true, true, true, true, true, true, true, true, true, true, true, true, false, false] rfl rfl (one_of HT_.out (by kernel_rfl)) (by decide) (fun K hK => ?_)
     refine goes_ Tryz.func41 (by kernel_rfl) rfl #[.slice m2 b3.length j9, .agg #[.int .i64 ((rd_T56 a4 a5).f0), .int .i64 (rd b1 ((rd_T56 a4 a5).f1)), .int .i64 (rd b1 ((rd_T56 a4 a5).f2)), .int .i64 1]] (by rfl) rfl rfl (by (try simp only [List.map_toArray, List.map_cons, List.map_nil]); first | done | rfl | (simp only [List.length_drop, List.length_take]; rfl)) ?_
     with_reducible refine (statistic_counted.calls _ _ b3 ((rd_T56 a4 a5).f0) (rd b1 ((rd_T56 a4 a5).f1)) (rd b1 ((rd_T56 a4 a5).f2)) 1 g3 _ ?d8 ?d7 F6.out).mono ?_
     (case d8 => repeat (first | exact (Kd.R_reads' HO_255001.out).2.2 | (with_reducible refine Kd.C_alloc ?_ _) | (with_reducible refine Kd.C_drewN ?_ _) | (with_reducible refine Kd.C_drew ?_)))
     (case d7 => exact (Kd.R_reads' HO_255001.out).2.1)
     rintro e F2 ⟨M0, rfl, g8, hb⟩
     refine ⟨_, rfl, ?_⟩
     have p4 := am (Kd.R_lower (Kd.R_new' (Kd.R_new' g8 (Kd.R_lt (kR HO_255000))) (Kd.R_lt (kR HO_255001))) (below_size (bb HB)))
     replace HO_255000 := am (Kd.R_elder' (kR HO_255000) (Kd.R_base g8) hb)
     replace HO_255001 := am (Kd.R_elder' (kR HO_255001) (Kd.R_base g8) hb)
     replace a6 := bkb a6 hb
     replace a7 := bkb a7 hb
     replace a9 := bkb a9 hb
     replace b0 := bkb b0 hb
     replace b4 := bkb b4 hb
     replace HB := bstep HB hb
     clear hb
     clear g8
     obtain ⟨o1, n9, eo51⟩ := Kd.R_slice p4.out
     (first | subst eo51 | (injection eo51 with f1_ f2_ f3_; have f4_ := f1_.symm; have f5_ := f3_.symm; clear f1_ f2_ f3_; subst f4_; subst f5_))
     refine hK.out _ _ ⟨bc b0 0, bc b0 1, bc b4 0, bc b4 1, bc b4 2, bc a7 0, bc a7 1, (hxc HB h9), (hxc HB h8)⟩ (fun hHeld => ?_)
     clear hK K
     refine norm_ (a' := ?_) ?_ ?_
     rotate_left
     ·show Act.put _ (some 57) _ = _
      simp only [Act.put, List.setIfInBounds_toArray, List.set_cons_zero, List.set_cons_succ, i64_w, i32_w]
      rfl
     refine pu 18 58 (bits 20 0x7ffff) HT_ (h := ?_)
     refine last_ (i := 19) (N := none) #[true, true, true, true, true, true, true, true, true, true, true, true, true, true, true, true, true, true, true, true] rfl rfl (one_of HT_.out (by kernel_rfl)) (by decide) (fun K hK => ?_)
     have M2 : F2.cell? ⟨c7, 1, none⟩ = some (.slice m2 b3.length j9) := bc b0 1
     have J8 := blk_frozen b0.out 1
     have A2 := e8.out
     have A1 := c5.out
     have A0 := e7.out
     have y9 := g9.out
     have A7 := e6.out
     have A6 := c2.out
     have A5 := e5.out
     have A4 := h0.out
     refine skip_ (w1 := ?_) (by rfl) rfl ?_ ?_
     rotate_left
     ·go_simp
      rfl
     refine hK.out _ _ ?_
     clear hK K
     refine done_ (done_of HT_.out (by kernel_rfl)) ?_
     try go_wp2
     go_roundg k2
     case measure => have := p6.out; have := x7.out; omega
     case rel => exact ⟨(wrap64 (a5 + 1)), (g3), (.slice o1 g3.length n9), eqs, H', ⟨by have := p6.out; have := x7.out; omega⟩, ⟨by (with_reducible repeat (first | apply Kd.R_alloc | apply Kd.R_drewN | apply Kd.R_drew)); exact Kd.R_mono (Kd.R_far (p := ⟨c7, 1, none⟩) (Kd.R_types HO_255000.out b0.out (by decide)) (fun _ hk => hk.2) (.slice o1 g3.length n9)) (fun _ hk => hk.1.2)⟩, ⟨by (with_reducible repeat (first | apply Kd.R_alloc | apply Kd.R_drewN | apply Kd.R_drew)); exact Kd.R_mono (Kd.R_far (p := ⟨c7, 1, none⟩) (Kd.R_types p4.out b0.out (by decide)) (fun _ hk => hk.2) (.slice o1 g3.length n9)) (fun _ hk => hk.1.1.2)⟩, ⟨bkF a6⟩, ⟨bkF a7⟩, ⟨bkF a9⟩, ⟨by (with_reducible repeat (first | refine dN ?_ _ | refine dR ?_ | refine dA ?_ _)); refine blk_put (cs := #[b5, .slice m2 b3.length j9]) ?_ 1 _ rfl; (with_reducible repeat (first | refine dN ?_ _ | refine dR ?_ | refine dA ?_ _)); exact b0.out⟩, ⟨bb HB⟩⟩
end Go.Proofs.YtfpianecohobjaaGreat.P
