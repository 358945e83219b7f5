/- StatisticOf: a part of its proof. No condition. -/
import Derived.Test.YtfpianecohobjaaVPx0
namespace Go.Proofs.Ytfpianecohobjaa.P
open Go.RowKit Go.Proofs.YtfpianecohobjaaW.PrintWords Go.Proofs.YtfpianecohobjaaW.PrintLast Go.Proofs.YtfpianecohobjaaW.PrintMore
set_option maxHeartbeats 8000000
set_option maxRecDepth 100000
set_option linter.unusedVariables false
set_option linter.unusedSimpArgs false
def q4_Below1.f : Nat → List (S68) → List (S71) → Int → Int → Option (Bool)
 | 0, _, _, _, _ => none
 | k + 1, a0, a4, a1, a2 => if a1 = a2 then (some true) else (if a1 ≥ 0 then (if 0 ≤ a1 then (if a1 < (a0.length : Int) then ((q4_Below1.f k a0 a4 ((rd_T68 a0 a1).f1) a2).bind fun b3 => (some b3)) else (none)) else (none)) else (some false))
def q4_Below1.T1 : Bool × List (List Nat × List Nat) := (true, [([], []), ([], []), ([0, 1], [0, 1]), ([2], [2]), ([3], [3]), ([4, 3], [3, 4]), ([5, 3, 3], [3, 5]), ([6], [6]), ([6], [6]), ([8, 6], [6, 8]), ([6], [6]), ([9, 10, 6], [6, 9, 10]), ([11, 6], [6, 11]), ([12, 6], [6, 12]), ([6], [6]), ([7, 13, 14, 6, 6], [6, 7, 13, 14]), ([6, 15, 3], [3, 6, 15]), ([3, 16], [3, 16]), ([17, 15, 0, 1, 2, 3, 4, 5, 6, 7, 8, 9, 10, 11, 12, 13, 14, 15, 16, 17], [17])])
def q4_Below1.B1 : List Nat := [0, 0, 3, 7, 15, 31, 63, 127, 127, 383, 127, 1919, 3967, 8063, 127, 32767, 65535, 131071, 262143]
theorem q4_Below1.tab1 : rtab .any (opsOf Try.f46 1) = q4_Below1.T1 := by kernel_rfl
theorem q4_Below1.bits1 : waitsOk q4_Below1.T1.2 q4_Below1.B1 = true := by kernel_rfl
theorem q4_Below1.calls (k : Nat) : ∀ (b4 : Option Addr) (b1 : Nat) (a0 : List (S68)) (b2 : Option Addr) (b0 : Nat) (a4 : List (S71)) (a1 : Int) (a2 : Int) (r : Bool) (w : World) (c2 : Kd.C k68 w b4 a0.length a0) (c5 : a0.length ≤ b1) (c1 : Kd.C k71 w b2 a4.length a4) (c3 : a4.length ≤ b0) (h : q4_Below1.f k a0 a4 a1 a2 = some r),
  Calls Try.prog 46 #[.agg #[.slice b4 a0.length b1, .slice b2 a4.length b0], .int .i64 a1, .int .i64 a2] w fun e w' => e = .returned (.bool r) ∧ Below w.heap.size w w' := by
 induction k using Nat.strongRecOn with
 | _ k ih =>
 intro b4 b1 a0 b2 b0 a4 a1 a2 r w c2 c5 c1 c3 h
 cases k with
 | zero => exact absurd h (by simp [q4_Below1.f])
 | succ k =>
 simp only [q4_Below1.f] at h
 have hu25 := Try.underlying25
 have d2 := Aside0.mk c2
 have e2 := Aside0.mk c5
 clear c2 c5
 have e0 := Aside0.mk c1
 have e1 := Aside0.mk c3
 clear c1 c3
 have HB := Aside0.mk (Below.refl w.heap.size w)
 have H : (if a1 = a2 then (some true) else (if a1 ≥ 0 then (if 0 ≤ a1 then (if a1 < (a0.length : Int) then ((q4_Below1.f k a0 a4 ((rd_T68 a0 a1).f1) a2).bind fun b3 => (some b3)) else (none)) else (none)) else (some false))) = some r := h
 clear h
 by_cases c4 : a1 = a2
 rw [if_pos c4] at H
 have e7 := beq_iff_eq.mpr c4
 have e6 := bne_eq_false_iff_eq.mpr c4
 clear c4
 obtain rfl := Option.some.inj H
 rotate_left
 rw [if_neg c4] at H
 have e7 := beq_eq_false_iff_ne.mpr c4
 have e6 := bne_iff_ne.mpr c4
 by_cases c7 : a1 ≥ 0
 ·rw [if_pos c7] at H
  have e5 : decide (0 ≤ a1) = true := decide_eq_true c7
  clear c7
  obtain ⟨c8, H⟩ := itn H
  have g3 := decide_eq_true c8
  clear c8
  obtain ⟨c9, H⟩ := itn H
  have g2 := decide_eq_true c9
  clear c9
  obtain ⟨b3, g1, H⟩ := obA H
  obtain rfl := Option.some.inj H
  go_enter Try.func46, Try.ntmps46
  try go_wp2_with (first | ((with_reducible refine gate_dst (N := 3) rfl ?_); refine be 3 #[.slice b4 a0.length b1, .slice b2 a4.length b0] 25 ?_; intro c6 hg g0 hbox hb; have a3 := Aside0.mk (hbox); have e3 := bsz HB hg; replace HB := bstep HB hb; clear hb hbox hg))
  replace a3 := Aside0.mk (blk_drew a3.out)
  replace HB := Aside0.mk (below_drew1 HB.out)
  have d1 : 0 ≤ a1 := odt
  have d0 : a1 < (a0.length : Int) := odt
  obtain ⟨a5, d5, d4, e4, a9, a8, a7, a6, b9, c0⟩ := at_T68 d2.out a1 d1 d0
  have b5 := a6
  have b6 := a7
  have b7 := a8
  have b8 := a9
  cases e4
  replace a9 := hxc HB a9
  replace a8 := hxc HB a8
  replace a7 := hxc HB a7
  replace a6 := hxc HB a6
  have d3 := Aside0.mk c0
  have e8 := Aside0.mk b9
  clear c0 b9
  replace d1 := eq_true d1
  replace d0 := eq_true d0
  refine start_ (n := 19) (S := fun w' => w'.cell? ⟨c6, 0, none⟩ = some (.slice (some a5) a0.length b1) ∧ w'.cell? ⟨c6, 1, none⟩ = some (.slice b2 a4.length b0) ∧ w'.cell? (a5.add ((a1).toNat * 4)) = some (.string ((rd_T68 a0 a1).f0)) ∧ w'.cell? ⟨(a5.add ((a1).toNat * 4)).block, (a5.add ((a1).toNat * 4)).off + 1, none⟩ = some (.int .i64 ((rd_T68 a0 a1).f1)) ∧ w'.cell? ⟨(a5.add ((a1).toNat * 4)).block, (a5.add ((a1).toNat * 4)).off + 2, none⟩ = some (.bool ((rd_T68 a0 a1).f2)) ∧ w'.cell? ⟨(a5.add ((a1).toNat * 4)).block, (a5.add ((a1).toNat * 4)).off + 3, none⟩ = some (.slice d5 ((rd_T68 a0 a1).f3).length d4)) (ds := []) #[false, false, false, false, false, false, false, false, false, false, false, false, false, false, false, false, false, false, false] (by kernel_rfl) rfl rfl ⟨bc a3 0, bc a3 1, (hxc HB b8), (hxc HB b7), (hxc HB b6), (hxc HB b5)⟩ (fun hHeld => ?_); refine with_tabW q4_Below1.tab1 q4_Below1.bits1 (fun HT_ HW_ => ?_)
  generalize g0.drew = g6 at a3 HB d3 a9 a8 a7 a6 hHeld ⊢
  refine pu 0 7 (bits 19 0x1) HT_ (h := ?_)
  refine pu 1 8 (bits 19 0x3) HT_ (h := ?_)
  refine pu 2 9 (bits 19 0x7) HT_ (h := ?_)
  refine pu 3 10 (bits 19 0xf) HT_ (h := ?_)
  refine pu 4 11 (bits 19 0x1f) HT_ (h := ?_)
  refine pu 5 12 (bits 19 0x3f) HT_ (h := ?_)
  refine pu 6 13 (bits 19 0x7f) HT_ (h := ?_)
  refine pu 8 15 (bits 19 0x17f) HT_ (h := ?_)
  refine pu 10 17 (bits 19 0x57f) HT_ (h := ?_)
  refine pu 14 21 (bits 19 0x457f) HT_ (h := ?_)
  refine tk 7 14 (bits 19 0x45ff) HT_ HW_ hHeld (hy := by rintro w' ⟨s0, s1, s2, s3, s4, s5⟩; go_simp; with_reducible rfl) (h := ?_)
  refine tk 9 16 (bits 19 0x47ff) HT_ HW_ hHeld (hy := by rintro w' ⟨s0, s1, s2, s3, s4, s5⟩; go_simp; with_reducible rfl) (h := ?_)
  refine pu 11 18 (bits 19 0x4fff) HT_ (h := ?_)
  refine pu 12 19 (bits 19 0x5fff) HT_ (h := ?_)
  refine tk 13 20 (bits 19 0x7fff) HT_ HW_ hHeld (hy := by rintro w' ⟨s0, s1, s2, s3, s4, s5⟩; go_simp; with_reducible rfl) (h := ?_)
  refine one_ (i := 15) (N := some 22) #[true, true, true, true, true, true, true, true, true, true, true, true, true, true, true, true, false, false, false] rfl rfl (one_of HT_.out (by kernel_rfl)) (by decide) (fun K hK => ?_)
  refine goes_ Try.func46 (by kernel_rfl) rfl #[.agg #[.slice (some a5) a0.length b1, .slice b2 a4.length b0], .int .i64 ((rd_T68 a0 a1).f1), .int .i64 a2] (by rfl) rfl rfl (by (try simp only [List.map_toArray, List.map_cons, List.map_nil]); first | done | rfl | (simp only [List.length_drop, List.length_take]; rfl)) ?_
  with_reducible refine (ih k (by omega) _ _ a0 _ _ a4 ((rd_T68 a0 a1).f1) a2 b3 _ ?d9 ?d8 ?d7 ?d6 g1.out).mono ?_
  (case d9 => exact cb d2 HB)
  (case d8 => exact e2.out)
  (case d7 => exact cb e0 HB)
  (case d6 => exact e1.out)
  rintro e g5 ⟨rfl, hb⟩
  refine ⟨_, rfl, ?_⟩
  replace a3 := bkb a3 hb
  replace HB := bstep HB hb
  (try clear hb)
  (try clear hb2)
  (try clear hk)
  (try clear hi)
  refine hK.out _ _ ⟨bc a3 0, bc a3 1, (hxc HB b8), (hxc HB b7), (hxc HB b6), (hxc HB b5)⟩ (fun hHeld => ?_)
  clear hK K
  refine norm_ (a' := ?_) ?_ ?_
  rotate_left
  ·show Act.put _ (some 22) _ = _
   simp only [Act.put, List.setIfInBounds_toArray, List.set_cons_zero, List.set_cons_succ, i64_w, i32_w]
   rfl
  refine pu 16 23 (bits 19 0x1ffff) HT_ (h := ?_)
  refine pu 17 24 (bits 19 0x3ffff) HT_ (h := ?_)
  refine pu 18 6 (bits 19 0x7ffff) HT_ (h := ?_)
  refine done_ (done_of HT_.out (by kernel_rfl)) ?_
  try go_wp2
  go_ret
  exact ⟨erf, bb HB⟩
 rw [if_neg c7] at H
 have e5 : decide (0 ≤ a1) = false := decide_eq_false c7
 clear c7
 obtain rfl := Option.some.inj H
 all_goals
  go_enter Try.func46, Try.ntmps46
  try go_wp2_with (first | ((with_reducible refine gate_dst (N := 3) rfl ?_); refine be 3 #[.slice b4 a0.length b1, .slice b2 a4.length b0] 25 ?_; intro c6 hg e9 hbox hb; have a3 := Aside0.mk (hbox); have e3 := bsz HB hg; replace HB := bstep HB hb; clear hb hbox hg))
  replace a3 := Aside0.mk (blk_drew a3.out)
  replace HB := Aside0.mk (below_drew1 HB.out)
  refine start_ (n := 19) (S := fun w' => True) (ds := []) #[false, false, false, false, false, false, false, false, false, false, false, false, false, false, false, false, false, false, false] (by kernel_rfl) rfl rfl trivial (fun hHeld => ?_); refine with_tabW q4_Below1.tab1 q4_Below1.bits1 (fun HT_ HW_ => ?_)
  generalize e9.drew = g4 at a3 HB hHeld ⊢
  refine pu 0 7 (bits 19 0x1) HT_ (h := ?_)
  refine pu 1 8 (bits 19 0x3) HT_ (h := ?_)
  refine pu 2 9 (bits 19 0x7) HT_ (h := ?_)
  refine pu 3 10 (bits 19 0xf) HT_ (h := ?_)
 ·refine pu 4 11 (bits 19 0x1f) HT_ (h := ?_)
  refine pu 5 12 (bits 19 0x3f) HT_ (h := ?_)
  refine pu 6 13 (bits 19 0x7f) HT_ (h := ?_)
  refine pn 7 14 (bits 19 0xff) HT_ (h := ?_)
  refine pn 8 15 (bits 19 0x1ff) HT_ (h := ?_)
  refine pn 9 16 (bits 19 0x3ff) HT_ (h := ?_)
  refine pn 10 17 (bits 19 0x7ff) HT_ (h := ?_)
  refine pn 11 18 (bits 19 0xfff) HT_ (h := ?_)
  refine pn 12 19 (bits 19 0x1fff) HT_ (h := ?_)
  refine pn 13 20 (bits 19 0x3fff) HT_ (h := ?_)
  refine pn 14 21 (bits 19 0x7fff) HT_ (h := ?_)
  refine pn 15 22 (bits 19 0xffff) HT_ (h := ?_)
  refine pu 16 23 (bits 19 0x1ffff) HT_ (h := ?_)
  refine pu 17 24 (bits 19 0x3ffff) HT_ (h := ?_)
  refine pu 18 6 (bits 19 0x7ffff) HT_ (h := ?_)
  refine done_ (done_of HT_.out (by kernel_rfl)) ?_
  try go_wp2
  go_ret
  exact ⟨erf, bb HB⟩
 ·refine pn 4 11 (bits 19 0x1f) HT_ (h := ?_)
  refine pn 5 12 (bits 19 0x3f) HT_ (h := ?_)
  refine pn 6 13 (bits 19 0x7f) HT_ (h := ?_)
  refine pn 7 14 (bits 19 0xff) HT_ (h := ?_)
  refine pn 8 15 (bits 19 0x1ff) HT_ (h := ?_)
  refine pn 9 16 (bits 19 0x3ff) HT_ (h := ?_)
  refine pn 10 17 (bits 19 0x7ff) HT_ (h := ?_)
  refine pn 11 18 (bits 19 0xfff) HT_ (h := ?_)
  refine pn 12 19 (bits 19 0x1fff) HT_ (h := ?_)
  refine pn 13 20 (bits 19 0x3fff) HT_ (h := ?_)
  refine pn 14 21 (bits 19 0x7fff) HT_ (h := ?_)
  refine pn 15 22 (bits 19 0xffff) HT_ (h := ?_)
  refine pn 16 23 (bits 19 0x1ffff) HT_ (h := ?_)
  refine pu 17 24 (bits 19 0x3ffff) HT_ (h := ?_)
  refine pu 18 6 (bits 19 0x7ffff) HT_ (h := ?_)
  refine done_ (done_of HT_.out (by kernel_rfl)) ?_
  try go_wp2
  go_ret
  exact ⟨erf, bb HB⟩
end Go.Proofs.Ytfpianecohobjaa.P
