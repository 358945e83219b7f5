/- typesLists_holds: a part of the proof that the law returns true for every input. No condition. -/
import Derived.Test.YtfpianecohobjaaVPx0
namespace Go.Proofs.Ytfpianecohobjaa.P
open Go.RowKit Go.Proofs.YtfpianecohobjaaW.PrintWords Go.Proofs.YtfpianecohobjaaW.PrintLast Go.Proofs.YtfpianecohobjaaW.PrintMore
set_option linter.unusedVariables false
set_option linter.unusedSimpArgs false
def q4_Below1.f : Nat → List (S68) → List (S71) → Int → Int → Option (Bool)
 | 0, _, _, _, _ => none
 | k + 1, l0_0, l0_1, a1, a2 => if a1 = a2 then (some true) else (if a1 ≥ 0 then (if 0 ≤ a1 then (if a1 < (l0_0.length : Int) then ((q4_Below1.f k l0_0 l0_1 ((rd_T68 l0_0 a1).f1) a2).bind fun t377 => (some t377)) else (none)) else (none)) else (some false))
def q4_Below1.T1 : Bool × List (List Nat × List Nat) := (true, [([], []), ([], []), ([0, 1], [0, 1]), ([2], [2]), ([3], [3]), ([4, 3], [3, 4]), ([5, 3, 3], [3, 5]), ([6], [6]), ([6], [6]), ([8, 6], [6, 8]), ([6], [6]), ([9, 10, 6], [6, 9, 10]), ([11, 6], [6, 11]), ([12, 6], [6, 12]), ([6], [6]), ([7, 13, 14, 6, 6], [6, 7, 13, 14]), ([6, 15, 3], [3, 6, 15]), ([3, 16], [3, 16]), ([17, 15, 0, 1, 2, 3, 4, 5, 6, 7, 8, 9, 10, 11, 12, 13, 14, 15, 16, 17], [17])])
def q4_Below1.B1 : List Nat := [0, 0, 3, 7, 15, 31, 63, 127, 127, 383, 127, 1919, 3967, 8063, 127, 32767, 65535, 131071, 262143]
theorem q4_Below1.tab1 : rtab .any (opsOf Try.f46 1) = q4_Below1.T1 := by kernel_rfl
theorem q4_Below1.bits1 : waitsOk q4_Below1.T1.2 q4_Below1.B1 = true := by kernel_rfl
set_option maxHeartbeats 8000000 in
set_option maxRecDepth 100000 in
theorem q4_Below1.calls (k : Nat) : ∀ (A0_0 : Option Addr) (c0_0 : Nat) (l0_0 : List (S68)) (A0_1 : Option Addr) (c0_1 : Nat) (l0_1 : List (S71)) (a1 : Int) (a2 : Int) (r : Bool) (w : World) (hr0_0 : Kd.C k68 w A0_0 l0_0.length l0_0) (hc0_0 : l0_0.length ≤ c0_0) (hr0_1 : Kd.C k71 w A0_1 l0_1.length l0_1) (hc0_1 : l0_1.length ≤ c0_1) (h : q4_Below1.f k l0_0 l0_1 a1 a2 = some r),
  Calls Try.prog 46 #[.agg #[.slice A0_0 l0_0.length c0_0, .slice A0_1 l0_1.length c0_1], .int .i64 a1, .int .i64 a2] w fun e w' => e = .returned (.bool r) ∧ Below w.heap.size w w' := by
 induction k using Nat.strongRecOn with
 | _ k ih =>
 intro A0_0 c0_0 l0_0 A0_1 c0_1 l0_1 a1 a2 r w hr0_0 hc0_0 hr0_1 hc0_1 h
 cases k with
 | zero => exact absurd h (by simp [q4_Below1.f])
 | succ k =>
 simp only [q4_Below1.f] at h
 have hu25 := Try.underlying25
 have HR0_0 := Aside0.mk hr0_0
 have HC0_0 := Aside0.mk hc0_0
 clear hr0_0 hc0_0
 have HR0_1 := Aside0.mk hr0_1
 have HC0_1 := Aside0.mk hc0_1
 clear hr0_1 hc0_1
 have HB := Aside0.mk (Below.refl w.heap.size w)
 have H : (if a1 = a2 then (some true) else (if a1 ≥ 0 then (if 0 ≤ a1 then (if a1 < (l0_0.length : Int) then ((q4_Below1.f k l0_0 l0_1 ((rd_T68 l0_0 a1).f1) a2).bind fun t377 => (some t377)) else (none)) else (none)) else (some false))) = some r := h
 clear h
 by_cases c4 : a1 = a2
 ·rw [if_pos c4] at H
  have c4b0 : (a1 == a2) = true := beq_iff_eq.mpr c4
  have c4b1 : (a1 != a2) = false := bne_eq_false_iff_eq.mpr c4
  clear c4
  obtain rfl := Option.some.inj H
  go_enter Try.func46, Try.ntmps46
  try go_wp2_with ((with_reducible refine gate_dst (N := 3) rfl ?_); refine box_event ?hg (N := 3) ?hd (cs := #[.slice A0_0 l0_0.length c0_0, .slice A0_1 l0_1.length c0_1]) (t := 25) ?hr ?_; (case hd => rfl); (case hg => rfl); (case hr => first | (go_simp; done) | (go_simp; rfl)); intro gb375 hg w5 hbox hb; have BK375 := Aside0.mk (hbox); have GW375 := bsz HB hg; have GE375 := bsz HB hg; replace HB := bstep HB hb; clear hb hbox hg)
  replace BK375 := Aside0.mk (blk_drew BK375.out)
  replace HB := Aside0.mk (below_drew1 HB.out)
  refine start_ (n := 19) (S := fun w' => True) (ds := []) #[false, false, false, false, false, false, false, false, false, false, false, false, false, false, false, false, false, false, false] (by kernel_rfl) rfl rfl trivial (fun hHeld => ?_); refine with_tabW q4_Below1.tab1 q4_Below1.bits1 (fun HT_ HW_ => ?_)
  generalize w5.drew = w6 at BK375 HB hHeld ⊢
  refine pu 0 7 (bits 19 0x1) HT_ (h := ?_)
  refine pu 1 8 (bits 19 0x3) HT_ (h := ?_)
  refine pu 2 9 (bits 19 0x7) HT_ (h := ?_)
  refine pu 3 10 (bits 19 0xf) HT_ (h := ?_)
  refine pn 4 11 (bits 19 0x1f) HT_ (h := ?_)
  refine pn 5 12 (bits 19 0x3f) HT_ (h := ?_)
  refine pn 6 13 (bits 19 0x7f) HT_ (h := ?_)
  refine pn 7 14 (bits 19 0xff) HT_ (h := ?_)
  refine pn 8 15 (bits 19 0x1ff) HT_ (h := ?_)
  refine pn 9 16 (bits 19 0x3ff) HT_ (h := ?_)
  refine pn 10 17 (bits 19 0x7ff) HT_ (h := ?_)
  refine pn 11 18 (bits 19 0xfff) HT_ (h := ?_)
  refine pn 12 19 (bits 19 0x1fff) HT_ (h := ?_)
  refine pn 13 20 (bits 19 0x3fff) HT_ (h := ?_)
  refine pn 14 21 (bits 19 0x7fff) HT_ (h := ?_)
  refine pn 15 22 (bits 19 0xffff) HT_ (h := ?_)
  refine pn 16 23 (bits 19 0x1ffff) HT_ (h := ?_)
  refine pu 17 24 (bits 19 0x3ffff) HT_ (h := ?_)
  refine pu 18 6 (bits 19 0x7ffff) HT_ (h := ?_)
  refine done_ (done_of HT_.out (by kernel_rfl)) ?_
  try go_wp2
  go_ret
  exact ⟨erf, bb HB⟩
 ·rw [if_neg c4] at H
  have c4b0 : (a1 == a2) = false := beq_eq_false_iff_ne.mpr c4
  have c4b1 : (a1 != a2) = true := bne_iff_ne.mpr c4
  by_cases c7 : a1 ≥ 0
  ·rw [if_pos c7] at H
   have c7b0 : decide (0 ≤ a1) = true := decide_eq_true c7
   clear c7
   by_cases c8 : 0 ≤ a1
   ·rw [if_pos c8] at H
    have c8b0 : decide (0 ≤ a1) = true := decide_eq_true c8
    clear c8
    by_cases c9 : a1 < (l0_0.length : Int)
    ·rw [if_pos c9] at H
     have c9b0 : decide (a1 < (l0_0.length : Int)) = true := decide_eq_true c9
     clear c9
     replace H := Option.bind_eq_some_iff.mp H
     obtain ⟨t377, A100, H⟩ := H
     replace H : (some t377) = some r := H
     have A10 := Aside0.mk A100
     clear A100
     obtain rfl := Option.some.inj H
     go_enter Try.func46, Try.ntmps46
     try go_wp2_with ((with_reducible refine gate_dst (N := 3) rfl ?_); refine box_event ?hg (N := 3) ?hd (cs := #[.slice A0_0 l0_0.length c0_0, .slice A0_1 l0_1.length c0_1]) (t := 25) ?hr ?_; (case hd => rfl); (case hg => rfl); (case hr => first | (go_simp; done) | (go_simp; rfl)); intro gb375 hg w11 hbox hb; have BK375 := Aside0.mk (hbox); have GW375 := bsz HB hg; have GE375 := bsz HB hg; replace HB := bstep HB hb; clear hb hbox hg)
     replace BK375 := Aside0.mk (blk_drew BK375.out)
     replace HB := Aside0.mk (below_drew1 HB.out)
     have p376 : 0 ≤ a1 := odt
     have q376 : a1 < (l0_0.length : Int) := odt
     obtain ⟨ad376, A376_3, c376_3, e376, hx376_0, hx376_1, hx376_2, hx376_3, hl376_3, hi376_3⟩ := at_T68 HR0_0.out a1 p376 q376
     have hw376_3 := hx376_3
     have hw376_2 := hx376_2
     have hw376_1 := hx376_1
     have hw376_0 := hx376_0
     cases e376
     replace hx376_0 := hxc HB hx376_0
     replace hx376_1 := hxc HB hx376_1
     replace hx376_2 := hxc HB hx376_2
     replace hx376_3 := hxc HB hx376_3
     have HR376_3 := Aside0.mk hi376_3
     have HC376_3 := Aside0.mk hl376_3
     clear hi376_3 hl376_3
     replace p376 := eq_true p376
     replace q376 := eq_true q376
     refine start_ (n := 19) (S := fun w' => w'.cell? ⟨gb375, 0, none⟩ = some (.slice (some ad376) l0_0.length c0_0) ∧ w'.cell? ⟨gb375, 1, none⟩ = some (.slice A0_1 l0_1.length c0_1) ∧ w'.cell? (ad376.add ((a1).toNat * 4)) = some (.string ((rd_T68 l0_0 a1).f0)) ∧ w'.cell? ⟨(ad376.add ((a1).toNat * 4)).block, (ad376.add ((a1).toNat * 4)).off + 1, none⟩ = some (.int .i64 ((rd_T68 l0_0 a1).f1)) ∧ w'.cell? ⟨(ad376.add ((a1).toNat * 4)).block, (ad376.add ((a1).toNat * 4)).off + 2, none⟩ = some (.bool ((rd_T68 l0_0 a1).f2)) ∧ w'.cell? ⟨(ad376.add ((a1).toNat * 4)).block, (ad376.add ((a1).toNat * 4)).off + 3, none⟩ = some (.slice A376_3 ((rd_T68 l0_0 a1).f3).length c376_3)) (ds := []) #[false, false, false, false, false, false, false, false, false, false, false, false, false, false, false, false, false, false, false] (by kernel_rfl) rfl rfl ⟨(blk_cell BK375.out 0).trans rfl, (blk_cell BK375.out 1).trans rfl, (hxc HB hw376_0), (hxc HB hw376_1), (hxc HB hw376_2), (hxc HB hw376_3)⟩ (fun hHeld => ?_); refine with_tabW q4_Below1.tab1 q4_Below1.bits1 (fun HT_ HW_ => ?_)
     generalize w11.drew = w12 at BK375 HB HR376_3 hx376_0 hx376_1 hx376_2 hx376_3 hHeld ⊢
     refine pu 0 7 (bits 19 0x1) HT_ (h := ?_)
     refine pu 1 8 (bits 19 0x3) HT_ (h := ?_)
     refine pu 2 9 (bits 19 0x7) HT_ (h := ?_)
     refine pu 3 10 (bits 19 0xf) HT_ (h := ?_)
     refine pu 4 11 (bits 19 0x1f) HT_ (h := ?_)
     refine pu 5 12 (bits 19 0x3f) HT_ (h := ?_)
     refine pu 6 13 (bits 19 0x7f) HT_ (h := ?_)
     refine pu 8 15 (bits 19 0x17f) HT_ (h := ?_)
     refine pu 10 17 (bits 19 0x57f) HT_ (h := ?_)
     refine pu 14 21 (bits 19 0x457f) HT_ (h := ?_)
     refine tk 7 14 (bits 19 0x45ff) HT_ HW_ hHeld (hy := by rintro w' ⟨s0, s1, s2, s3, s4, s5⟩; go_simp; with_reducible rfl) (h := ?_)
     refine tk 9 16 (bits 19 0x47ff) HT_ HW_ hHeld (hy := by rintro w' ⟨s0, s1, s2, s3, s4, s5⟩; go_simp; with_reducible rfl) (h := ?_)
     refine pu 11 18 (bits 19 0x4fff) HT_ (h := ?_)
     refine pu 12 19 (bits 19 0x5fff) HT_ (h := ?_)
     refine tk 13 20 (bits 19 0x7fff) HT_ HW_ hHeld (hy := by rintro w' ⟨s0, s1, s2, s3, s4, s5⟩; go_simp; with_reducible rfl) (h := ?_)
     refine one_ (i := 15) (N := some 22) #[true, true, true, true, true, true, true, true, true, true, true, true, true, true, true, true, false, false, false] rfl rfl (one_of HT_.out (by kernel_rfl)) (by decide) (fun K hK => ?_)
     refine goes_ Try.func46 (by kernel_rfl) rfl #[.agg #[.slice (some ad376) l0_0.length c0_0, .slice A0_1 l0_1.length c0_1], .int .i64 ((rd_T68 l0_0 a1).f1), .int .i64 a2] (by rfl) rfl rfl (by (try simp only [List.map_toArray, List.map_cons, List.map_nil]); first | done | rfl | (simp only [List.length_drop, List.length_take]; rfl)) ?_
     with_reducible refine (ih k (by omega) _ _ l0_0 _ _ l0_1 ((rd_T68 l0_0 a1).f1) a2 t377 _ ?side1 ?side2 ?side3 ?side4 A10.out).mono ?_
     (case side1 => exact cb HR0_0 HB)
     (case side2 => exact HC0_0.out)
     (case side3 => exact cb HR0_1 HB)
     (case side4 => exact HC0_1.out)
     rintro e w13 ⟨rfl, hb⟩
     refine ⟨_, rfl, ?_⟩
     replace BK375 := bkb BK375 hb
     replace HB := bstep HB hb
     clear hb
     refine hK.out _ _ ⟨(blk_cell BK375.out 0).trans rfl, (blk_cell BK375.out 1).trans rfl, (hxc HB hw376_0), (hxc HB hw376_1), (hxc HB hw376_2), (hxc HB hw376_3)⟩ (fun hHeld => ?_)
     clear hK K
     refine norm_ (a' := ?_) ?_ ?_
     rotate_left
     ·show Act.put _ (some 22) _ = _
      simp only [Act.put, List.setIfInBounds_toArray, List.set_cons_zero, List.set_cons_succ, i64_w, i32_w]
      rfl
     refine pu 16 23 (bits 19 0x1ffff) HT_ (h := ?_)
     refine pu 17 24 (bits 19 0x3ffff) HT_ (h := ?_)
     refine pu 18 6 (bits 19 0x7ffff) HT_ (h := ?_)
     refine done_ (done_of HT_.out (by kernel_rfl)) ?_
     try go_wp2
     go_ret
     exact ⟨erf, bb HB⟩
    ·rw [if_neg c9] at H
     exact absurd H (by simp)
   ·rw [if_neg c8] at H
    exact absurd H (by simp)
  ·rw [if_neg c7] at H
   have c7b0 : decide (0 ≤ a1) = false := decide_eq_false c7
   clear c7
   obtain rfl := Option.some.inj H
   go_enter Try.func46, Try.ntmps46
   try go_wp2_with ((with_reducible refine gate_dst (N := 3) rfl ?_); refine box_event ?hg (N := 3) ?hd (cs := #[.slice A0_0 l0_0.length c0_0, .slice A0_1 l0_1.length c0_1]) (t := 25) ?hr ?_; (case hd => rfl); (case hg => rfl); (case hr => first | (go_simp; done) | (go_simp; rfl)); intro gb375 hg w14 hbox hb; have BK375 := Aside0.mk (hbox); have GW375 := bsz HB hg; have GE375 := bsz HB hg; replace HB := bstep HB hb; clear hb hbox hg)
   replace BK375 := Aside0.mk (blk_drew BK375.out)
   replace HB := Aside0.mk (below_drew1 HB.out)
   refine start_ (n := 19) (S := fun w' => True) (ds := []) #[false, false, false, false, false, false, false, false, false, false, false, false, false, false, false, false, false, false, false] (by kernel_rfl) rfl rfl trivial (fun hHeld => ?_); refine with_tabW q4_Below1.tab1 q4_Below1.bits1 (fun HT_ HW_ => ?_)
   generalize w14.drew = w15 at BK375 HB hHeld ⊢
   refine pu 0 7 (bits 19 0x1) HT_ (h := ?_)
   refine pu 1 8 (bits 19 0x3) HT_ (h := ?_)
   refine pu 2 9 (bits 19 0x7) HT_ (h := ?_)
   refine pu 3 10 (bits 19 0xf) HT_ (h := ?_)
   refine pu 4 11 (bits 19 0x1f) HT_ (h := ?_)
   refine pu 5 12 (bits 19 0x3f) HT_ (h := ?_)
   refine pu 6 13 (bits 19 0x7f) HT_ (h := ?_)
   refine pn 7 14 (bits 19 0xff) HT_ (h := ?_)
   refine pn 8 15 (bits 19 0x1ff) HT_ (h := ?_)
   refine pn 9 16 (bits 19 0x3ff) HT_ (h := ?_)
   refine pn 10 17 (bits 19 0x7ff) HT_ (h := ?_)
   refine pn 11 18 (bits 19 0xfff) HT_ (h := ?_)
   refine pn 12 19 (bits 19 0x1fff) HT_ (h := ?_)
   refine pn 13 20 (bits 19 0x3fff) HT_ (h := ?_)
   refine pn 14 21 (bits 19 0x7fff) HT_ (h := ?_)
   refine pn 15 22 (bits 19 0xffff) HT_ (h := ?_)
   refine pu 16 23 (bits 19 0x1ffff) HT_ (h := ?_)
   refine pu 17 24 (bits 19 0x3ffff) HT_ (h := ?_)
   refine pu 18 6 (bits 19 0x7ffff) HT_ (h := ?_)
   refine done_ (done_of HT_.out (by kernel_rfl)) ?_
   try go_wp2
   go_ret
   exact ⟨erf, bb HB⟩
end Go.Proofs.Ytfpianecohobjaa.P
