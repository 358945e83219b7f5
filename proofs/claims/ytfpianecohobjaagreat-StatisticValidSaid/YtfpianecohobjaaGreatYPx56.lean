/- StatisticOf: a part of its proof. No condition. -/
import Derived.Test.YtfpianecohobjaaGreatYPx0
import Derived.Test.YtfpianecohobjaaGreatYPx15
import Derived.Test.YtfpianecohobjaaGreatYPx16
import Derived.Test.YtfpianecohobjaaGreatYPx19
import Derived.Test.YtfpianecohobjaaGreatYPx42
import Derived.Test.YtfpianecohobjaaGreatYPx48
import Derived.Test.YtfpianecohobjaaGreatYPx49
import Derived.Test.YtfpianecohobjaaGreatYPx51
import Derived.Test.YtfpianecohobjaaGreatYPx55
namespace Go.Proofs.YtfpianecohobjaaGreat.P
open Go.RowKit Go.Proofs.YtfpianecohobjaaGreatW.PrintWords Go.Proofs.YtfpianecohobjaaGreatW.PrintLast Go.Proofs.YtfpianecohobjaaGreatW.PrintMore
set_option linter.unusedVariables false
set_option linter.unusedSimpArgs false
def scarfjointlaw18_StatisticValid.j0 : Nat → Bool → List (S96) → List (S101) → List (S75) → List (S75) → List (S75) → List (S75) → Option (Bool)
 | 0, _, _, _, _, _, _, _ => none
 | k + 1, t0, j5, j4, c5, c4, j3, j2 => if t0 = true then ((scarfjointlaw18_awake.f k).bind fun m8 => (some m8)) else ((scarfjointref18_Copied.f c5 c4).bind fun o2 => ((statistic_Valid.f k j5 j4 o2.1 o2.2).bind fun g9 => ((scarfjointref18_Valid.f k j5 j4 c5 c4).bind fun g8 => (if g9 = g8 then ((statistic_Same.f k c5 c4 j3 j2).bind fun b6 => ((scarfjointref18_Same.f k c5 c4 j3 j2).bind fun b5 => (if (b6 == b5) = true then ((scarfjointref18_Copied.f c5 c4).bind fun g2 => ((statistic_Same.f k c5 c4 g2.1 g2.2).bind fun d6 => (some d6))) else (some false)))) else (some false)))))
def scarfjointlaw18_StatisticValid.f (k : Nat) (b0 : List (S96)) (a9 : List (S101)) (a4 : List (S75)) (a3 : List (S75)) (b2 : List (S75)) (b1 : List (S75)) : Option (Bool) := (scarfjointlaw18_awake.f k).bind fun h7 => (if h7 = true then ((q4_Few.f k b0 a9).bind fun h6 => (if h6 = true then ((scarfjointref18_Few.f a4 a3).bind fun h5 => (if h5 = true then ((scarfjointref18_Few.f b2 b1).bind fun h0 => (scarfjointlaw18_StatisticValid.j0 k (!h0) b0 a9 a4 a3 b2 b1)) else (scarfjointlaw18_StatisticValid.j0 k true b0 a9 a4 a3 b2 b1))) else (scarfjointlaw18_StatisticValid.j0 k true b0 a9 a4 a3 b2 b1))) else (scarfjointlaw18_StatisticValid.j0 k true b0 a9 a4 a3 b2 b1))
def scarfjointlaw18_StatisticValid.T3 : Bool × List (List Nat × List Nat) := (true, [([], []), ([], []), ([1], [1]), ([0, 2, 2], [0, 2]), ([], []), ([], []), ([4, 5, 3], [4, 5]), ([3, 6], [3, 6]), ([7, 6], [7]), ([8], [8]), ([8], [8]), ([9, 10, 8, 8], [8, 9, 10]), ([8], [8]), ([8], [8]), ([12, 13, 11, 8], [8, 12, 13]), ([11, 14, 8], [8, 11, 14]), ([8, 15], [8, 15]), ([16, 14], [16]), ([17], [17]), ([17], [17]), ([19, 17, 17], [17, 19]), ([18, 20, 20, 17], [17, 18, 20]), ([17, 21], [17, 21]), ([22, 21, 0, 1, 2, 3, 4, 5, 6, 7, 8, 9, 10, 11, 12, 13, 14, 15, 16, 17, 18, 19, 20, 21, 22], [22])])
def scarfjointlaw18_StatisticValid.B3 : List Nat := [0, 0, 2, 7, 0, 0, 63, 127, 255, 511, 511, 2047, 511, 511, 16383, 32767, 65535, 131071, 262143, 262143, 786431, 2097151, 4194303, 8388607]
theorem scarfjointlaw18_StatisticValid.tab3 : rtab .any (opsOf Tryz.f7 3) = scarfjointlaw18_StatisticValid.T3 := by kernel_rfl
theorem scarfjointlaw18_StatisticValid.bits3 : waitsOk scarfjointlaw18_StatisticValid.T3.2 scarfjointlaw18_StatisticValid.B3 = true := by kernel_rfl
set_option maxHeartbeats 8000000 in
set_option maxRecDepth 100000 in
theorem scarfjointlaw18_StatisticValid.calls (k : Nat) (g1 : Option Addr) (e7 : Nat) (b0 : List (S96)) (g0 : Option Addr) (e6 : Nat) (a9 : List (S101)) (d1 : Option Addr) (c8 : Nat) (a4 : List (S75)) (d0 : Option Addr) (c6 : Nat) (a3 : List (S75)) (e9 : Option Addr) (e5 : Nat) (b2 : List (S75)) (e8 : Option Addr) (e4 : Nat) (b1 : List (S75)) (r : Bool) (hr : r = true) (w : World) (n4 : Kd.C k96 w g1 b0.length b0) (o0 : b0.length ≤ e7) (n3 : Kd.C k101 w g0 a9.length a9) (n9 : a9.length ≤ e6) (n2 : Kd.C k75 w d1 a4.length a4) (n8 : a4.length ≤ c8) (n1 : Kd.C k75 w d0 a3.length a3) (n7 : a3.length ≤ c6) (n0 : Kd.C k75 w e9 b2.length b2) (n6 : b2.length ≤ e5) (m9 : Kd.C k75 w e8 b1.length b1) (n5 : b1.length ≤ e4) (h : scarfjointlaw18_StatisticValid.f k b0 a9 a4 a3 b2 b1 = some r) :
  Calls Tryz.prog 7 #[.agg #[.slice g1 b0.length e7, .slice g0 a9.length e6], .agg #[.slice d1 a4.length c8, .slice d0 a3.length c6], .agg #[.slice e9 b2.length e5, .slice e8 b1.length e4]] w fun e w' => e = .returned (.bool r) ∧ Below w.heap.size w w' := by
 have hu31 := Tryz.underlying31
 have hu46 := Tryz.underlying46
 have g4 := Aside0.mk n4
 have g7 := Aside0.mk o0
 clear n4 o0
 have g3 := Aside0.mk n3
 have g6 := Aside0.mk n9
 clear n3 n9
 have d3 := Aside0.mk n2
 have d5 := Aside0.mk n8
 clear n2 n8
 have d2 := Aside0.mk n1
 have d4 := Aside0.mk n7
 clear n1 n7
 have m3 := Aside0.mk n0
 have m5 := Aside0.mk n6
 clear n0 n6
 have m2 := Aside0.mk m9
 have m4 := Aside0.mk n5
 clear m9 n5
 have HB := Aside0.mk (Below.refl w.heap.size w)
 have H : ((scarfjointlaw18_awake.f k).bind fun h7 => (if h7 = true then ((q4_Few.f k b0 a9).bind fun h6 => (if h6 = true then ((scarfjointref18_Few.f a4 a3).bind fun h5 => (if h5 = true then ((scarfjointref18_Few.f b2 b1).bind fun h0 => (scarfjointlaw18_StatisticValid.j0 k (!h0) b0 a9 a4 a3 b2 b1)) else (scarfjointlaw18_StatisticValid.j0 k true b0 a9 a4 a3 b2 b1))) else (scarfjointlaw18_StatisticValid.j0 k true b0 a9 a4 a3 b2 b1))) else (scarfjointlaw18_StatisticValid.j0 k true b0 a9 a4 a3 b2 b1))) = some r := h
 clear h
 have q8 := Aside0.mk H
 clear H
 go_enter Tryz.func7, Tryz.ntmps7
 go_upto_region 1 with (first | ((with_reducible refine gate_dst (N := 3) rfl ?_); refine be 3 #[.slice g1 b0.length e7, .slice g0 a9.length e6] 31 ?_; intro m1 hg w5 hbox hb; have a0 := Aside0.mk (hbox); have x6 := bsz HB hg; replace HB := bstep HB hb; clear hb hbox hg) | ((with_reducible refine gate_dst (N := 4) rfl ?_); refine be 4 #[.slice d1 a4.length c8, .slice d0 a3.length c6] 46 ?_; intro m0 hg w6 hbox hb; have a1 := Aside0.mk (hbox); have x5 := bsz HB hg; replace HB := bstep HB hb; have e2 := blt a0 hg; have e0 := bgt a0 hg; replace a0 := bkb a0 hb; clear hb hbox hg) | ((with_reducible refine gate_dst (N := 5) rfl ?_); refine be 5 #[.slice e9 b2.length e5, .slice e8 b1.length e4] 46 ?_; intro j9 hg w7 hbox hb; have a2 := Aside0.mk (hbox); have x4 := bsz HB hg; replace HB := bstep HB hb; have e1 := blt a0 hg; have d9 := bgt a0 hg; replace a0 := bkb a0 hb; have h2 := blt a1 hg; have h1 := bgt a1 hg; replace a1 := bkb a1 hb; clear hb hbox hg))
 (try simp only [Act.put, List.setIfInBounds_toArray, List.set_cons_zero, List.set_cons_succ])
 go_cut [23] (fun t1 wc => ∃ (kq : Nat) (h3 : Bool), t1 = .bool h3 ∧ Aside0 (scarfjointlaw18_StatisticValid.j0 kq h3 b0 a9 a4 a3 b2 b1 = some r) ∧ Aside0 (kq ≤ k) ∧ Aside0 (wc.heap[m1]? = some (.cells #[(.slice g1 b0.length e7), (.slice g0 a9.length e6)] 31 (0, 0))) ∧ Aside0 (wc.heap[m0]? = some (.cells #[(.slice d1 a4.length c8), (.slice d0 a3.length c6)] 46 (0, 0))) ∧ Aside0 (wc.heap[j9]? = some (.cells #[(.slice e9 b2.length e5), (.slice e8 b1.length e4)] 46 (0, 0))) ∧ Aside0 (Below w.heap.size w wc))
 case first =>
  have H := q8.out
  clear q8
  obtain ⟨h7, A8, H⟩ := obA H
  by_cases c9 : h7 = true
  rotate_left
  ·replace c9 := Bool.eq_false_iff.mpr c9
   subst c9
   replace H := iff_ H
   have H' := Aside0.mk H
   clear H
   go_wp2_with (first | ((with_reducible refine gate_callee (f := 10) rfl ?_); refine gl 7 Tryz.func10 #[] (h := ?_); (with_reducible refine (scarfjointlaw18_awake.calls k  false _ A8.out).mono ?_); rintro e y9 ⟨rfl, hb⟩; refine ⟨_, rfl, ?_⟩; replace a0 := bkb a0 hb; replace a1 := bkb a1 hb; replace a2 := bkb a2 hb; replace HB := bstep HB hb; (try clear hb); (try clear hb2); (try clear hk); (try clear hi)))
   go_meet
   case rel => exact ⟨_, (true), eqs, H', ⟨by first | omega | exact Nat.le_refl _⟩, ⟨bk a0⟩, ⟨bk a1⟩, ⟨bk a2⟩, ⟨bb HB⟩⟩
  subst c9
  replace H := ift H
  obtain ⟨h6, q9, H⟩ := obA H
  by_cases m7 : h6 = true
  rotate_left
  ·replace m7 := Bool.eq_false_iff.mpr m7
   subst m7
   replace H := iff_ H
   have H' := Aside0.mk H
   clear H
   go_wp2_with (first | ((with_reducible refine gate_callee (f := 10) rfl ?_); refine gl 7 Tryz.func10 #[] (h := ?_); (with_reducible refine (scarfjointlaw18_awake.calls k  true _ A8.out).mono ?_); rintro e A1 ⟨rfl, hb⟩; refine ⟨_, rfl, ?_⟩; replace a0 := bkb a0 hb; replace a1 := bkb a1 hb; replace a2 := bkb a2 hb; replace HB := bstep HB hb; (try clear hb); (try clear hb2); (try clear hk); (try clear hi); have w1 := e2.out; have v3 := e0.out; have w0 := e1.out; have v2 := d9.out; obtain ⟨p7, p6, o4, o3⟩ := cz2 a0) | (go_at_call 20; (with_reducible refine (q4_Few.calls k _ _ b0 _ _ a9 false _ ?a8 ?a7 ?a6 ?a5 q9.out).mono ?_); (case a8 => exact cb g4 HB); (case a7 => exact g7.out); (case a6 => exact cb g3 HB); (case a5 => exact g6.out); rintro e A0 ⟨rfl, hb⟩; replace a0 := bkb a0 hb; replace a1 := bkb a1 hb; replace a2 := bkb a2 hb; replace HB := bstep HB hb; (try clear hb); (try clear hb2); (try clear hk); (try clear hi)))
   go_meet
   case rel => exact ⟨_, (true), eqs, H', ⟨by first | omega | exact Nat.le_refl _⟩, ⟨bk a0⟩, ⟨bk a1⟩, ⟨bk a2⟩, ⟨bb HB⟩⟩
  subst m7
  replace H := ift H
  obtain ⟨h5, r5, H⟩ := obA H
  by_cases m6 : h5 = true
  rotate_left
  ·replace m6 := Bool.eq_false_iff.mpr m6
   subst m6
   replace H := iff_ H
   have H' := Aside0.mk H
   clear H
   go_wp2_with (first | ((with_reducible refine gate_callee (f := 10) rfl ?_); refine gl 7 Tryz.func10 #[] (h := ?_); (with_reducible refine (scarfjointlaw18_awake.calls k  true _ A8.out).mono ?_); rintro e A4 ⟨rfl, hb⟩; refine ⟨_, rfl, ?_⟩; replace a0 := bkb a0 hb; replace a1 := bkb a1 hb; replace a2 := bkb a2 hb; replace HB := bstep HB hb; (try clear hb); (try clear hb2); (try clear hk); (try clear hi); have w4 := e2.out; have v6 := e0.out; have w3 := e1.out; have v5 := d9.out; obtain ⟨q1, q0, o8, o7⟩ := cz2 a0) | (go_at_call 20; (with_reducible refine (q4_Few.calls k _ _ b0 _ _ a9 true _ ?a8 ?a7 ?a6 ?a5 q9.out).mono ?_); (case a8 => exact cb g4 HB); (case a7 => exact g7.out); (case a6 => exact cb g3 HB); (case a5 => exact g6.out); rintro e A3 ⟨rfl, hb⟩; replace a0 := bkb a0 hb; replace a1 := bkb a1 hb; replace a2 := bkb a2 hb; replace HB := bstep HB hb; (try clear hb); (try clear hb2); (try clear hk); (try clear hi); have w2 := h2.out; have v4 := h1.out; obtain ⟨p9, p8, o6, o5⟩ := cz2 a1) | (go_at_call 24; (with_reducible refine (scarfjointref18_Few.calls _ _ a4 _ _ a3 false _ ?a8 ?a7 ?a6 ?a5 r5.out).mono ?_); (case a8 => exact cb d3 HB); (case a7 => exact d5.out); (case a6 => exact cb d2 HB); (case a5 => exact d4.out); rintro e A2 ⟨rfl, hb⟩; replace a0 := bkb a0 hb; replace a1 := bkb a1 hb; replace a2 := bkb a2 hb; replace HB := bstep HB hb; (try clear hb); (try clear hb2); (try clear hk); (try clear hi)))
   go_meet
   case rel => exact ⟨_, (true), eqs, H', ⟨by first | omega | exact Nat.le_refl _⟩, ⟨bk a0⟩, ⟨bk a1⟩, ⟨bk a2⟩, ⟨bb HB⟩⟩
  subst m6
  replace H := ift H
  obtain ⟨h0, v0, H⟩ := obA H
  have H' := Aside0.mk H
  clear H
  go_wp2_with (first | ((with_reducible refine gate_callee (f := 10) rfl ?_); refine gl 7 Tryz.func10 #[] (h := ?_); (with_reducible refine (scarfjointlaw18_awake.calls k  true _ A8.out).mono ?_); rintro e A9 ⟨rfl, hb⟩; refine ⟨_, rfl, ?_⟩; replace a0 := bkb a0 hb; replace a1 := bkb a1 hb; replace a2 := bkb a2 hb; replace HB := bstep HB hb; (try clear hb); (try clear hb2); (try clear hk); (try clear hi); have x0 := e2.out; have v9 := e0.out; have w9 := e1.out; have v8 := d9.out; obtain ⟨q7, q6, p5, p4⟩ := cz2 a0) | (go_at_call 20; (with_reducible refine (q4_Few.calls k _ _ b0 _ _ a9 true _ ?a8 ?a7 ?a6 ?a5 q9.out).mono ?_); (case a8 => exact cb g4 HB); (case a7 => exact g7.out); (case a6 => exact cb g3 HB); (case a5 => exact g6.out); rintro e A7 ⟨rfl, hb⟩; replace a0 := bkb a0 hb; replace a1 := bkb a1 hb; replace a2 := bkb a2 hb; replace HB := bstep HB hb; (try clear hb); (try clear hb2); (try clear hk); (try clear hi); have w8 := h2.out; have v7 := h1.out; obtain ⟨q5, q4, p3, p1⟩ := cz2 a1) | (go_at_call 24; (with_reducible refine (scarfjointref18_Few.calls _ _ a4 _ _ a3 true _ ?a8 ?a7 ?a6 ?a5 r5.out).mono ?_); (case a8 => exact cb d3 HB); (case a7 => exact d5.out); (case a6 => exact cb d2 HB); (case a5 => exact d4.out); rintro e A6 ⟨rfl, hb⟩; replace a0 := bkb a0 hb; replace a1 := bkb a1 hb; replace a2 := bkb a2 hb; replace HB := bstep HB hb; (try clear hb); (try clear hb2); (try clear hk); (try clear hi); obtain ⟨q3, q2, p0, o9⟩ := cz2 a2) | (go_at_call 24; (with_reducible refine (scarfjointref18_Few.calls _ _ b2 _ _ b1 h0 _ ?a8 ?a7 ?a6 ?a5 v0.out).mono ?_); (case a8 => exact cb m3 HB); (case a7 => exact m5.out); (case a6 => exact cb m2 HB); (case a5 => exact m4.out); rintro e A5 ⟨rfl, hb⟩; replace a0 := bkb a0 hb; replace a1 := bkb a1 hb; replace a2 := bkb a2 hb; replace HB := bstep HB hb; (try clear hb); (try clear hb2); (try clear hk); (try clear hi)))
  go_meet
  case rel => exact ⟨_, (!h0), eqs, H', ⟨by first | omega | exact Nat.le_refl _⟩, ⟨bk a0⟩, ⟨bk a1⟩, ⟨bk a2⟩, ⟨bb HB⟩⟩
 case rest =>
  clear q8
  try clear c1
  try clear c2
  try clear p2
  try clear c3
  try clear c7
  try clear c9
  try clear C8
  try clear m7
  try clear m6
  try clear C7
  try clear C6
  try clear C5
  try clear C4
  try clear C3
  try clear C2
  try clear C1
  try clear C0
  try clear q7
  try clear q6
  try clear q5
  try clear q4
  try clear q3
  try clear q2
  try clear q1
  try clear q0
  try clear p9
  try clear p8
  try clear p7
  try clear p6
  try clear p5
  try clear p4
  try clear p3
  try clear p1
  try clear p0
  try clear o9
  try clear o8
  try clear o7
  try clear o6
  try clear o5
  try clear o4
  try clear o3
  obtain ⟨kq, h3, rfl, HA, C9, a0, a1, a2, HB⟩ := hcut
  cases kq with
  | zero => exact absurd HA.out (by simp [scarfjointlaw18_StatisticValid.j0])
  | succ d7 =>
   have H := HA.out
   clear HA
   simp only [scarfjointlaw18_StatisticValid.j0] at H
   by_cases o1 : h3 = true
   ·subst o1
    replace H := ift H
    obtain ⟨m8, t9, H⟩ := obA H
    obtain rfl := Option.some.inj H
    go_wp2_with (first | ((with_reducible refine gate_callee (f := 10) rfl ?_); refine gl 24 Tryz.func10 #[] (h := ?_); (with_reducible refine (scarfjointlaw18_awake.calls d7  m8 _ t9.out).mono ?_); rintro e y8 ⟨rfl, hb⟩; refine ⟨_, rfl, ?_⟩; replace a0 := bkb a0 hb; replace a1 := bkb a1 hb; replace a2 := bkb a2 hb; replace HB := bstep HB hb; (try clear hb); (try clear hb2); (try clear hk); (try clear hi)))
    go_ret
    exact ⟨by first | rfl | (simp <;> rfl) | (simp [*] <;> rfl), bb HB⟩
   replace o1 := Bool.eq_false_iff.mpr o1
   subst o1
   replace H := iff_ H
   obtain ⟨⟨j8, j7⟩, t8, H⟩ := obA H
   replace H : ((statistic_Valid.f d7 b0 a9 j8 j7).bind fun g9 => ((scarfjointref18_Valid.f d7 b0 a9 a4 a3).bind fun g8 => (if g9 = g8 then ((statistic_Same.f d7 a4 a3 b2 b1).bind fun b6 => ((scarfjointref18_Same.f d7 a4 a3 b2 b1).bind fun b5 => (if (b6 == b5) = true then ((scarfjointref18_Copied.f a4 a3).bind fun g2 => ((statistic_Same.f d7 a4 a3 g2.1 g2.2).bind fun d6 => (some d6))) else (some false)))) else (some false)))) = some r := H
   obtain ⟨g9, t7, H⟩ := obA H
   obtain ⟨g8, t6, H⟩ := obA H
   by_cases j1 : g9 = g8
   rotate_left
   ·rw [if_neg j1] at H
    have r4 := beq_eq_false_iff_ne.mpr j1
    have r3 := bne_iff_ne.mpr j1
    exact absurd (H.trans (congrArg some hr)) (by simp)
   rw [if_pos j1] at H
   have r4 := beq_iff_eq.mpr j1
   have r3 := bne_eq_false_iff_eq.mpr j1
   clear j1
   obtain ⟨b6, t5, H⟩ := obA H
   obtain ⟨b5, t4, H⟩ := obA H
   by_cases d8 : (b6 == b5) = true
   rotate_left
   ·rw [if_neg d8] at H
    have r2 : (b6 == b5) = false := by simpa using d8
    (try (have r1 : decide (b6 = b5) = false := by simpa using d8))
    (try (have r0 : (b6 == b5) = false := by simpa using d8))
    (try (have x2 : ¬ (b6 = b5) := by simpa using d8))
    clear d8
    exact absurd (H.trans (congrArg some hr)) (by simp)
   rw [if_pos d8] at H
   have r2 : (b6 == b5) = true := d8
   (try (have r1 : decide (b6 = b5) = true := by simpa using d8))
   (try (have r0 : (b6 == b5) = true := by simpa using d8))
   clear d8
   obtain ⟨⟨j6, h4⟩, t3, H⟩ := obA H
   replace H : ((statistic_Same.f d7 a4 a3 j6 h4).bind fun d6 => (some d6)) = some r := H
   obtain ⟨d6, t2, H⟩ := obA H
   obtain rfl := Option.some.inj H
   try go_wp2
   replace a0 := Aside0.mk (blk_drew a0.out)
   replace a1 := Aside0.mk (blk_drew a1.out)
   replace a2 := Aside0.mk (blk_drew a2.out)
   replace HB := Aside0.mk (below_drew1 HB.out)
   refine start_ (n := 24) (S := fun w' => w'.cell? ⟨m1, 0, none⟩ = some (.slice g1 b0.length e7) ∧ w'.cell? ⟨m1, 1, none⟩ = some (.slice g0 a9.length e6) ∧ w'.cell? ⟨m0, 0, none⟩ = some (.slice d1 a4.length c8) ∧ w'.cell? ⟨m0, 1, none⟩ = some (.slice d0 a3.length c6) ∧ w'.cell? ⟨j9, 0, none⟩ = some (.slice e9 b2.length e5) ∧ w'.cell? ⟨j9, 1, none⟩ = some (.slice e8 b1.length e4)) (ds := []) #[false, false, false, false, false, false, false, false, false, false, false, false, false, false, false, false, false, false, false, false, false, false, false, false] (by kernel_rfl) rfl rfl ⟨bc a0 0, bc a0 1, bc a1 0, bc a1 1, bc a2 0, bc a2 1⟩ (fun hHeld => ?_); refine with_tabW scarfjointlaw18_StatisticValid.tab3 scarfjointlaw18_StatisticValid.bits3 (fun HT_ HW_ => ?_)
   generalize wc.drew = y7 at a0 a1 a2 HB hHeld ⊢
   refine tk 0 25 (bits 24 0x1) HT_ HW_ hHeld (hy := by rintro w' ⟨s0, s1, s2, s3, s4, s5⟩; go_simp; with_reducible rfl) (h := ?_)
   refine tk 1 26 (bits 24 0x3) HT_ HW_ hHeld (hy := by rintro w' ⟨s0, s1, s2, s3, s4, s5⟩; go_simp; with_reducible rfl) (h := ?_)
   refine tk 4 29 (bits 24 0x13) HT_ HW_ hHeld (hy := by rintro w' ⟨s0, s1, s2, s3, s4, s5⟩; go_simp; with_reducible rfl) (h := ?_)
   refine tk 5 30 (bits 24 0x33) HT_ HW_ hHeld (hy := by rintro w' ⟨s0, s1, s2, s3, s4, s5⟩; go_simp; with_reducible rfl) (h := ?_)
   refine one_ (i := 2) (N := some 27) #[true, true, true, false, true, true, false, false, false, false, false, false, false, false, false, false, false, false, false, false, false, false, false, false] rfl rfl (one_of HT_.out (by kernel_rfl)) (by decide) (fun K hK => ?_)
   refine goes_ Tryz.func26 (by kernel_rfl) rfl #[.agg #[.slice d1 a4.length c8, .slice d0 a3.length c6]] (by rfl) rfl rfl (by (try simp only [List.map_toArray, List.map_cons, List.map_nil]); first | done | rfl | (simp only [List.length_drop, List.length_take]; rfl)) ?_
   with_reducible refine (scarfjointref18_Copied.calls _ _ a4 _ _ a3 j8 j7 _ ?a8 ?a7 ?a6 ?a5 t8.out).mono ?_
   (case a8 => exact cb d3 HB)
   (case a7 => exact d5.out)
   (case a6 => exact cb d2 HB)
   (case a5 => exact d4.out)
   rintro e y6 ⟨x9, x8, rfl, h9, h8, hb⟩
   refine ⟨_, rfl, ?_⟩
   have b4 := Aside0.mk (Kd.R_lower h9 (below_size (bb HB)))
   have b3 := Aside0.mk (Kd.R_lower h8 (below_size (bb HB)))
   replace a0 := bkb a0 hb
   replace a1 := bkb a1 hb
   replace a2 := bkb a2 hb
   replace HB := bstep HB hb
   (try clear hb)
   (try clear hb2)
   (try clear hk)
   (try clear hi)
   (try clear h9)
   (try clear h8)
   obtain ⟨s9, r9, eo53⟩ := Kd.R_slice b4.out
   (first | subst eo53 | (injection eo53 with f1_ f2_ f3_; have f4_ := f1_.symm; have f5_ := f3_.symm; clear f1_ f2_ f3_; subst f4_; subst f5_))
   obtain ⟨s8, r8, eo54⟩ := Kd.R_slice b3.out
   (first | subst eo54 | (injection eo54 with f1_ f2_ f3_; have f4_ := f1_.symm; have f5_ := f3_.symm; clear f1_ f2_ f3_; subst f4_; subst f5_))
   refine hK.out _ _ ⟨bc a0 0, bc a0 1, bc a1 0, bc a1 1, bc a2 0, bc a2 1⟩ (fun hHeld => ?_)
   clear hK K
   refine norm_ (a' := ?_) ?_ ?_
   rotate_left
   ·show Act.put _ (some 27) _ = _
    simp only [Act.put, List.setIfInBounds_toArray, List.set_cons_zero, List.set_cons_succ, i64_w, i32_w]
    rfl
   refine one_ (i := 3) (N := some 28) #[true, true, true, true, true, true, false, false, false, false, false, false, false, false, false, false, false, false, false, false, false, false, false, false] rfl rfl (one_of HT_.out (by kernel_rfl)) (by decide) (fun K hK => ?_)
   refine goes_ Tryz.func23 (by kernel_rfl) rfl #[.agg #[.slice g1 b0.length e7, .slice g0 a9.length e6], .agg #[.slice s9 j8.length r9, .slice s8 j7.length r8]] (by rfl) rfl rfl (by (try simp only [List.map_toArray, List.map_cons, List.map_nil]); first | done | rfl | (simp only [List.length_drop, List.length_take]; rfl)) ?_
   with_reducible refine (statistic_Valid.calls d7 _ _ b0 _ _ a9 _ _ j8 _ _ j7 g9 _ ?a8 ?a7 ?a6 ?a5 ?c0 ?b9 ?b8 ?b7 t7.out).mono ?_
   (case a8 => exact cb g4 HB)
   (case a7 => exact g7.out)
   (case a6 => exact cb g3 HB)
   (case a5 => exact g6.out)
   (case c0 => repeat (first | exact (Kd.R_reads' b4.out).2.2 | (with_reducible refine Kd.C_alloc ?_ _) | (with_reducible refine Kd.C_drewN ?_ _) | (with_reducible refine Kd.C_drew ?_)))
   (case b9 => exact (Kd.R_reads' b4.out).2.1)
   (case b8 => repeat (first | exact (Kd.R_reads' b3.out).2.2 | (with_reducible refine Kd.C_alloc ?_ _) | (with_reducible refine Kd.C_drewN ?_ _) | (with_reducible refine Kd.C_drew ?_)))
   (case b7 => exact (Kd.R_reads' b3.out).2.1)
   rintro e y5 ⟨rfl, hb⟩
   refine ⟨_, rfl, ?_⟩
   replace b4 := kRb b4 hb
   replace b3 := kRb b3 hb
   replace a0 := bkb a0 hb
   replace a1 := bkb a1 hb
   replace a2 := bkb a2 hb
   replace HB := bstep HB hb
   (try clear hb)
   (try clear hb2)
   (try clear hk)
   (try clear hi)
   refine hK.out _ _ ⟨bc a0 0, bc a0 1, bc a1 0, bc a1 1, bc a2 0, bc a2 1⟩ (fun hHeld => ?_)
   clear hK K
   refine norm_ (a' := ?_) ?_ ?_
   rotate_left
   ·show Act.put _ (some 28) _ = _
    simp only [Act.put, List.setIfInBounds_toArray, List.set_cons_zero, List.set_cons_succ, i64_w, i32_w]
    rfl
   refine one_ (i := 6) (N := some 31) #[true, true, true, true, true, true, true, false, false, false, false, false, false, false, false, false, false, false, false, false, false, false, false, false] rfl rfl (one_of HT_.out (by kernel_rfl)) (by decide) (fun K hK => ?_)
   refine goes_ Tryz.func30 (by kernel_rfl) rfl #[.agg #[.slice g1 b0.length e7, .slice g0 a9.length e6], .agg #[.slice d1 a4.length c8, .slice d0 a3.length c6]] (by rfl) rfl rfl (by (try simp only [List.map_toArray, List.map_cons, List.map_nil]); first | done | rfl | (simp only [List.length_drop, List.length_take]; rfl)) ?_
   with_reducible refine (scarfjointref18_Valid.calls d7 _ _ b0 _ _ a9 _ _ a4 _ _ a3 g8 _ ?a8 ?a7 ?a6 ?a5 ?c0 ?b9 ?b8 ?b7 t6.out).mono ?_
   (case a8 => exact cb g4 HB)
   (case a7 => exact g7.out)
   (case a6 => exact cb g3 HB)
   (case a5 => exact g6.out)
   (case c0 => exact cb d3 HB)
   (case b9 => exact d5.out)
   (case b8 => exact cb d2 HB)
   (case b7 => exact d4.out)
   rintro e y4 ⟨rfl, hb⟩
   refine ⟨_, rfl, ?_⟩
   replace b4 := kRb b4 hb
   replace b3 := kRb b3 hb
   replace a0 := bkb a0 hb
   replace a1 := bkb a1 hb
   replace a2 := bkb a2 hb
   replace HB := bstep HB hb
   (try clear hb)
   (try clear hb2)
   (try clear hk)
   (try clear hi)
   refine hK.out _ _ ⟨bc a0 0, bc a0 1, bc a1 0, bc a1 1, bc a2 0, bc a2 1⟩ (fun hHeld => ?_)
   clear hK K
   refine norm_ (a' := ?_) ?_ ?_
   rotate_left
   ·show Act.put _ (some 31) _ = _
    simp only [Act.put, List.setIfInBounds_toArray, List.set_cons_zero, List.set_cons_succ, i64_w, i32_w]
    rfl
   refine pu 7 32 (bits 24 0xff) HT_ (h := ?_)
   refine pu 8 33 (bits 24 0x1ff) HT_ (h := ?_)
   refine tk 9 34 (bits 24 0x3ff) HT_ HW_ hHeld (hy := by rintro w' ⟨s0, s1, s2, s3, s4, s5⟩; go_simp; with_reducible rfl) (h := ?_)
   refine tk 10 35 (bits 24 0x7ff) HT_ HW_ hHeld (hy := by rintro w' ⟨s0, s1, s2, s3, s4, s5⟩; go_simp; with_reducible rfl) (h := ?_)
   refine tk 12 37 (bits 24 0x17ff) HT_ HW_ hHeld (hy := by rintro w' ⟨s0, s1, s2, s3, s4, s5⟩; go_simp; with_reducible rfl) (h := ?_)
   refine tk 13 38 (bits 24 0x37ff) HT_ HW_ hHeld (hy := by rintro w' ⟨s0, s1, s2, s3, s4, s5⟩; go_simp; with_reducible rfl) (h := ?_)
   refine one_ (i := 11) (N := some 36) #[true, true, true, true, true, true, true, true, true, true, true, true, true, true, false, false, false, false, false, false, false, false, false, false] rfl rfl (one_of HT_.out (by kernel_rfl)) (by decide) (fun K hK => ?_)
   refine goes_ Tryz.func31 (by kernel_rfl) rfl #[.agg #[.slice d1 a4.length c8, .slice d0 a3.length c6], .agg #[.slice e9 b2.length e5, .slice e8 b1.length e4]] (by rfl) rfl rfl (by (try simp only [List.map_toArray, List.map_cons, List.map_nil]); first | done | rfl | (simp only [List.length_drop, List.length_take]; rfl)) ?_
   with_reducible refine (statistic_Same.calls d7 _ _ a4 _ _ a3 _ _ b2 _ _ b1 b6 _ ?a8 ?a7 ?a6 ?a5 ?c0 ?b9 ?b8 ?b7 t5.out).mono ?_
   (case a8 => exact cb d3 HB)
   (case a7 => exact d5.out)
   (case a6 => exact cb d2 HB)
   (case a5 => exact d4.out)
   (case c0 => exact cb m3 HB)
   (case b9 => exact m5.out)
   (case b8 => exact cb m2 HB)
   (case b7 => exact m4.out)
   rintro e y3 ⟨rfl, hb⟩
   refine ⟨_, rfl, ?_⟩
   replace b4 := kRb b4 hb
   replace b3 := kRb b3 hb
   replace a0 := bkb a0 hb
   replace a1 := bkb a1 hb
   replace a2 := bkb a2 hb
   replace HB := bstep HB hb
   (try clear hb)
   (try clear hb2)
   (try clear hk)
   (try clear hi)
   refine hK.out _ _ ⟨bc a0 0, bc a0 1, bc a1 0, bc a1 1, bc a2 0, bc a2 1⟩ (fun hHeld => ?_)
   clear hK K
   refine norm_ (a' := ?_) ?_ ?_
   rotate_left
   ·show Act.put _ (some 36) _ = _
    simp only [Act.put, List.setIfInBounds_toArray, List.set_cons_zero, List.set_cons_succ, i64_w, i32_w]
    rfl
   refine one_ (i := 14) (N := some 39) #[true, true, true, true, true, true, true, true, true, true, true, true, true, true, true, false, false, false, false, false, false, false, false, false] rfl rfl (one_of HT_.out (by kernel_rfl)) (by decide) (fun K hK => ?_)
   refine goes_ Tryz.func15 (by kernel_rfl) rfl #[.agg #[.slice d1 a4.length c8, .slice d0 a3.length c6], .agg #[.slice e9 b2.length e5, .slice e8 b1.length e4]] (by rfl) rfl rfl (by (try simp only [List.map_toArray, List.map_cons, List.map_nil]); first | done | rfl | (simp only [List.length_drop, List.length_take]; rfl)) ?_
   with_reducible refine (scarfjointref18_Same.calls d7 _ _ a4 _ _ a3 _ _ b2 _ _ b1 b5 _ ?a8 ?a7 ?a6 ?a5 ?c0 ?b9 ?b8 ?b7 t4.out).mono ?_
   (case a8 => exact cb d3 HB)
   (case a7 => exact d5.out)
   (case a6 => exact cb d2 HB)
   (case a5 => exact d4.out)
   (case c0 => exact cb m3 HB)
   (case b9 => exact m5.out)
   (case b8 => exact cb m2 HB)
   (case b7 => exact m4.out)
   rintro e y2 ⟨rfl, hb⟩
   refine ⟨_, rfl, ?_⟩
   replace b4 := kRb b4 hb
   replace b3 := kRb b3 hb
   replace a0 := bkb a0 hb
   replace a1 := bkb a1 hb
   replace a2 := bkb a2 hb
   replace HB := bstep HB hb
   (try clear hb)
   (try clear hb2)
   (try clear hk)
   (try clear hi)
   refine hK.out _ _ ⟨bc a0 0, bc a0 1, bc a1 0, bc a1 1, bc a2 0, bc a2 1⟩ (fun hHeld => ?_)
   clear hK K
   refine norm_ (a' := ?_) ?_ ?_
   rotate_left
   ·show Act.put _ (some 39) _ = _
    simp only [Act.put, List.setIfInBounds_toArray, List.set_cons_zero, List.set_cons_succ, i64_w, i32_w]
    rfl
   refine pu 15 40 (bits 24 0xffff) HT_ (h := ?_)
   refine pu 16 41 (bits 24 0x1ffff) HT_ (h := ?_)
   refine pu 17 42 (bits 24 0x3ffff) HT_ (h := ?_)
   refine tk 18 43 (bits 24 0x7ffff) HT_ HW_ hHeld (hy := by rintro w' ⟨s0, s1, s2, s3, s4, s5⟩; go_simp; with_reducible rfl) (h := ?_)
   refine tk 19 44 (bits 24 0xfffff) HT_ HW_ hHeld (hy := by rintro w' ⟨s0, s1, s2, s3, s4, s5⟩; go_simp; with_reducible rfl) (h := ?_)
   refine one_ (i := 20) (N := some 45) #[true, true, true, true, true, true, true, true, true, true, true, true, true, true, true, true, true, true, true, true, true, false, false, false] rfl rfl (one_of HT_.out (by kernel_rfl)) (by decide) (fun K hK => ?_)
   refine goes_ Tryz.func26 (by kernel_rfl) rfl #[.agg #[.slice d1 a4.length c8, .slice d0 a3.length c6]] (by rfl) rfl rfl (by (try simp only [List.map_toArray, List.map_cons, List.map_nil]); first | done | rfl | (simp only [List.length_drop, List.length_take]; rfl)) ?_
   with_reducible refine (scarfjointref18_Copied.calls _ _ a4 _ _ a3 j6 h4 _ ?a8 ?a7 ?a6 ?a5 t3.out).mono ?_
   (case a8 => exact cb d3 HB)
   (case a7 => exact d5.out)
   (case a6 => exact cb d2 HB)
   (case a5 => exact d4.out)
   rintro e y1 ⟨x7, v1, rfl, h9, h8, hb⟩
   refine ⟨_, rfl, ?_⟩
   have g5 := Aside0.mk (Kd.R_lower (Kd.R_new' (Kd.R_new' h9 (Kd.R_lt (kR b4))) (Kd.R_lt (kR b3))) (below_size (bb HB)))
   have e3 := Aside0.mk (Kd.R_lower (Kd.R_new' (Kd.R_new' h8 (Kd.R_lt (kR b4))) (Kd.R_lt (kR b3))) (below_size (bb HB)))
   replace b4 := Aside0.mk (Kd.R_mono (Kd.R_told (Kd.R_told (Kd.R_old (kR b4) hb) (Kd.R_base h9)) (Kd.R_base h8)) (fun _ h_ => h_.1))
   replace b3 := Aside0.mk (Kd.R_mono (Kd.R_told (Kd.R_told (Kd.R_old (kR b3) hb) (Kd.R_base h9)) (Kd.R_base h8)) (fun _ h_ => h_.1))
   replace a0 := bkb a0 hb
   replace a1 := bkb a1 hb
   replace a2 := bkb a2 hb
   replace HB := bstep HB hb
   (try clear hb)
   (try clear hb2)
   (try clear hk)
   (try clear hi)
   (try clear h9)
   (try clear h8)
   obtain ⟨s7, r7, eo60⟩ := Kd.R_slice g5.out
   (first | subst eo60 | (injection eo60 with f1_ f2_ f3_; have f4_ := f1_.symm; have f5_ := f3_.symm; clear f1_ f2_ f3_; subst f4_; subst f5_))
   obtain ⟨s6, r6, eo61⟩ := Kd.R_slice e3.out
   (first | subst eo61 | (injection eo61 with f1_ f2_ f3_; have f4_ := f1_.symm; have f5_ := f3_.symm; clear f1_ f2_ f3_; subst f4_; subst f5_))
   refine hK.out _ _ ⟨bc a0 0, bc a0 1, bc a1 0, bc a1 1, bc a2 0, bc a2 1⟩ (fun hHeld => ?_)
   clear hK K
   refine norm_ (a' := ?_) ?_ ?_
   rotate_left
   ·show Act.put _ (some 45) _ = _
    simp only [Act.put, List.setIfInBounds_toArray, List.set_cons_zero, List.set_cons_succ, i64_w, i32_w]
    rfl
   refine one_ (i := 21) (N := some 46) #[true, true, true, true, true, true, true, true, true, true, true, true, true, true, true, true, true, true, true, true, true, true, false, false] rfl rfl (one_of HT_.out (by kernel_rfl)) (by decide) (fun K hK => ?_)
   refine goes_ Tryz.func31 (by kernel_rfl) rfl #[.agg #[.slice d1 a4.length c8, .slice d0 a3.length c6], .agg #[.slice s7 j6.length r7, .slice s6 h4.length r6]] (by rfl) rfl rfl (by (try simp only [List.map_toArray, List.map_cons, List.map_nil]); first | done | rfl | (simp only [List.length_drop, List.length_take]; rfl)) ?_
   with_reducible refine (statistic_Same.calls d7 _ _ a4 _ _ a3 _ _ j6 _ _ h4 d6 _ ?a8 ?a7 ?a6 ?a5 ?c0 ?b9 ?b8 ?b7 t2.out).mono ?_
   (case a8 => exact cb d3 HB)
   (case a7 => exact d5.out)
   (case a6 => exact cb d2 HB)
   (case a5 => exact d4.out)
   (case c0 => repeat (first | exact (Kd.R_reads' g5.out).2.2 | (with_reducible refine Kd.C_alloc ?_ _) | (with_reducible refine Kd.C_drewN ?_ _) | (with_reducible refine Kd.C_drew ?_)))
   (case b9 => exact (Kd.R_reads' g5.out).2.1)
   (case b8 => repeat (first | exact (Kd.R_reads' e3.out).2.2 | (with_reducible refine Kd.C_alloc ?_ _) | (with_reducible refine Kd.C_drewN ?_ _) | (with_reducible refine Kd.C_drew ?_)))
   (case b7 => exact (Kd.R_reads' e3.out).2.1)
   rintro e y0 ⟨rfl, hb⟩
   refine ⟨_, rfl, ?_⟩
   replace b4 := kRb b4 hb
   replace b3 := kRb b3 hb
   replace g5 := kRb g5 hb
   replace e3 := kRb e3 hb
   replace a0 := bkb a0 hb
   replace a1 := bkb a1 hb
   replace a2 := bkb a2 hb
   replace HB := bstep HB hb
   (try clear hb)
   (try clear hb2)
   (try clear hk)
   (try clear hi)
   refine hK.out _ _ ⟨bc a0 0, bc a0 1, bc a1 0, bc a1 1, bc a2 0, bc a2 1⟩ (fun hHeld => ?_)
   clear hK K
   refine norm_ (a' := ?_) ?_ ?_
   rotate_left
   ·show Act.put _ (some 46) _ = _
    simp only [Act.put, List.setIfInBounds_toArray, List.set_cons_zero, List.set_cons_succ, i64_w, i32_w]
    rfl
   refine pu 22 47 (bits 24 0x7fffff) HT_ (h := ?_)
   refine pu 23 6 (bits 24 0xffffff) HT_ (h := ?_)
   refine done_ (done_of HT_.out (by kernel_rfl)) ?_
   try go_wp2
   go_ret
   exact ⟨by first | rfl | (simp <;> rfl) | (simp [*] <;> rfl), bb HB⟩
end Go.Proofs.YtfpianecohobjaaGreat.P
