/- StatisticOf: a part of its proof. No condition. -/
import Derived.Test.YtfpianecohobjaaGreatEPx0
import Derived.Test.YtfpianecohobjaaGreatEH0
namespace Go.Proofs.YtfpianecohobjaaGreat.P
open Go.RowKit Go.Proofs.YtfpianecohobjaaGreatW.PrintWords Go.Proofs.YtfpianecohobjaaGreatW.PrintLast Go.Proofs.YtfpianecohobjaaGreatW.PrintMore
set_option maxHeartbeats 8000000
set_option maxRecDepth 100000
set_option linter.unusedVariables false
set_option linter.unusedSimpArgs false
def statistic_copied.f (a5 : List (S75)) (a4 : List (S75)) : Option ((List (S75)) × (List (S75))) := (clone_Count.f a5).bind fun a7 => ((clone_Count.f a4).bind fun a6 => (some (a7, a6)))
def statistic_copied.T1 : Bool × List (List Nat × List Nat) := (true, [([], []), ([0], [0]), ([1], [1]), ([], []), ([3], [3]), ([4, 2], [4]), ([2, 5], [2, 5]), ([6, 5, 0, 1, 2, 3, 4, 5, 6], [6])])
def statistic_copied.B1 : List Nat := [0, 1, 3, 0, 8, 31, 63, 127]
theorem statistic_copied.tab1 : rtab .any (opsOf Tryz.f51 1) = statistic_copied.T1 := by kernel_rfl
theorem statistic_copied.bits1 : waitsOk statistic_copied.T1.2 statistic_copied.B1 = true := by kernel_rfl
theorem statistic_copied.calls (b3 : Option Addr) (b1 : Nat) (a5 : List (S75)) (b2 : Option Addr) (b0 : Nat) (a4 : List (S75)) (r1 : List (S75)) (r2 : List (S75)) (w : World) (c0 : Kd.C k75 w b3 a5.length a5) (c2 : a5.length ≤ b1) (b9 : Kd.C k75 w b2 a4.length a4) (c1 : a4.length ≤ b0) (h : statistic_copied.f a5 a4 = some (r1, r2)) :
  Calls Tryz.prog 51 #[.agg #[.slice b3 a5.length b1, .slice b2 a4.length b0]] w fun e w' => ∃ c6 c5 : Value, e = .returned (.agg #[c6, c5]) ∧ Kd.R k75 75 w' w.heap.size (fun k_ => some k_ ≠ (c5 : Value).ownBlock) c6 r1 ∧ Kd.R k75 75 w' w.heap.size (fun k_ => some k_ ≠ (c6 : Value).ownBlock) c5 r2 ∧ Below w.heap.size w w' := by
 have hu46 := Tryz.underlying46
 have d0 := Aside0.mk c0
 have d2 := Aside0.mk c2
 clear c0 c2
 have c9 := Aside0.mk b9
 have d1 := Aside0.mk c1
 clear b9 c1
 have HB := Aside0.mk (Below.refl w.heap.size w)
 have H : ((clone_Count.f a5).bind fun a7 => ((clone_Count.f a4).bind fun a6 => (some (a7, a6)))) = some (r1, r2) := h
 clear h
 obtain ⟨a7, A2, H⟩ := obA H
 obtain ⟨a6, A3, H⟩ := obA H
 simp only [Option.some.injEq, Prod.mk.injEq] at H
 obtain ⟨rfl, rfl⟩ := H
 go_enter Tryz.func51, Tryz.ntmps51
 try go_wp2_with (first | ((with_reducible refine gate_dst (N := 1) rfl ?_); refine be 1 #[.slice b3 a5.length b1, .slice b2 a4.length b0] 46 ?_; intro c3 hg w4 hbox hb; have a0 := Aside0.mk (hbox); have e0 := bsz HB hg; replace HB := bstep HB hb; clear hb hbox hg) | ((with_reducible refine gate_dst (N := 2) rfl ?_); refine be 2 #[.slice none 0 0, .slice none 0 0] 46 ?_; intro a3 hg w5 hbox hb; have a1 := Aside0.mk (hbox); have d9 := bsz HB hg; replace HB := bstep HB hb; have a2 := blt a0 hg; have a9 := bgt a0 hg; replace a0 := bkb a0 hb; clear hb hbox hg))
 replace a0 := Aside0.mk (blk_drew a0.out)
 replace a1 := Aside0.mk (blk_drew a1.out)
 replace HB := Aside0.mk (below_drew1 HB.out)
 refine start_ (n := 8) (S := fun w' => w'.cell? ⟨c3, 0, none⟩ = some (.slice b3 a5.length b1) ∧ w'.cell? ⟨c3, 1, none⟩ = some (.slice b2 a4.length b0)) (ds := []) #[false, false, false, false, false, false, false, false] (by kernel_rfl) rfl rfl ⟨bc a0 0, bc a0 1⟩ (fun hHeld => ?_); refine with_tabW statistic_copied.tab1 statistic_copied.bits1 (fun HT_ HW_ => ?_)
 generalize w5.drew = w6 at a0 a1 HB hHeld ⊢
 refine pu 0 3 (bits 8 0x1) HT_ (h := ?_)
 refine pu 3 6 (bits 8 0x9) HT_ (h := ?_)
 refine tk 1 4 (bits 8 0xb) HT_ HW_ hHeld (hy := by rintro w' ⟨s0, s1⟩; go_simp; with_reducible rfl) (h := ?_)
 refine tk 4 7 (bits 8 0x1b) HT_ HW_ hHeld (hy := by rintro w' ⟨s0, s1⟩; go_simp; with_reducible rfl) (h := ?_)
 refine one_ (i := 2) (N := some 5) #[true, true, true, true, true, false, false, false] rfl rfl (one_of HT_.out (by kernel_rfl)) (by decide) (fun K hK => ?_)
 refine goes_ Tryz.func74 (by kernel_rfl) rfl #[.slice b3 a5.length b1] (by rfl) rfl rfl (by (try simp only [List.map_toArray, List.map_cons, List.map_nil]); first | done | rfl | (simp only [List.length_drop, List.length_take]; rfl)) ?_
 with_reducible refine (clone_Count.calls _ _ a5 a7 _ ?b6 ?b5 A2.out).mono ?_
 (case b6 => exact cb d0 HB)
 (case b5 => exact d2.out)
 rintro e w7 ⟨e2, rfl, b4, hb⟩
 refine ⟨_, rfl, ?_⟩
 have a8 := Aside0.mk (Kd.R_lower b4 (below_size (bb HB)))
 replace a0 := bkb a0 hb
 replace a1 := bkb a1 hb
 replace HB := bstep HB hb
 (try clear hb)
 (try clear hb2)
 (try clear hk)
 (try clear hi)
 (try clear b4)
 refine hK.out _ _ ⟨bc a0 0, bc a0 1⟩ (fun hHeld => ?_)
 clear hK K
 refine norm_ (a' := ?_) ?_ ?_
 rotate_left
 ·show Act.put _ (some 5) _ = _
  simp only [Act.put, List.setIfInBounds_toArray, List.set_cons_zero, List.set_cons_succ, i64_w, i32_w]
  rfl
 refine one_ (i := 5) (N := some 8) #[true, true, true, true, true, true, false, false] rfl rfl (one_of HT_.out (by kernel_rfl)) (by decide) (fun K hK => ?_)
 refine goes_ Tryz.func74 (by kernel_rfl) rfl #[.slice b2 a4.length b0] (by rfl) rfl rfl (by (try simp only [List.map_toArray, List.map_cons, List.map_nil]); first | done | rfl | (simp only [List.length_drop, List.length_take]; rfl)) ?_
 with_reducible refine (clone_Count.calls _ _ a4 a6 _ ?b6 ?b5 A3.out).mono ?_
 (case b6 => exact cb c9 HB)
 (case b5 => exact d1.out)
 rintro e w8 ⟨e1, rfl, b4, hb⟩
 refine ⟨_, rfl, ?_⟩
 have c4 := Aside0.mk (Kd.R_lower (Kd.R_new' b4 (Kd.R_lt (kR a8))) (below_size (bb HB)))
 replace a8 := Aside0.mk (Kd.R_elder' (kR a8) (Kd.R_base b4) hb)
 replace a0 := bkb a0 hb
 replace a1 := bkb a1 hb
 replace HB := bstep HB hb
 (try clear hb)
 (try clear hb2)
 (try clear hk)
 (try clear hi)
 (try clear b4)
 obtain ⟨c8, c7, eo9⟩ := Kd.R_slice c4.out
 (first | subst eo9 | (injection eo9 with f1_ f2_ f3_; have f4_ := f1_.symm; have f5_ := f3_.symm; clear f1_ f2_ f3_; subst f4_; subst f5_))
 obtain ⟨b8, b7, eo10⟩ := Kd.R_slice a8.out
 (first | subst eo10 | (injection eo10 with f1_ f2_ f3_; have f4_ := f1_.symm; have f5_ := f3_.symm; clear f1_ f2_ f3_; subst f4_; subst f5_))
 refine hK.out _ _ ⟨bc a0 0, bc a0 1⟩ (fun hHeld => ?_)
 clear hK K
 refine norm_ (a' := ?_) ?_ ?_
 rotate_left
 ·show Act.put _ (some 8) _ = _
  simp only [Act.put, List.setIfInBounds_toArray, List.set_cons_zero, List.set_cons_succ, i64_w, i32_w]
  rfl
 refine pu 6 9 (bits 8 0x7f) HT_ (h := ?_)
 refine one_ (i := 7) (N := none) #[true, true, true, true, true, true, true, true] rfl rfl (one_of HT_.out (by kernel_rfl)) (by decide) (fun K hK => ?_)
 have e4 : w8.cell? ⟨a3, 0, none⟩ = some (.slice none 0 0) := bc a1 0
 have d8 := blk_frozen a1.out 0
 have d4 := a2.out
 have d6 := a9.out
 have e3 : w8.cell? ⟨a3, 1, none⟩ = some (.slice none 0 0) := bc a1 1
 have d7 := blk_frozen a1.out 1
 have d3 := a2.out
 have d5 := a9.out
 refine skip_ (w1 := ?_) (by rfl) rfl ?_ ?_
 rotate_left
 ·go_simp
  rfl
 refine hK.out _ _ ⟨((cell_far (p := ⟨a3, _, none⟩) a2.out _).trans (((cell_far (p := ⟨a3, _, none⟩) a2.out _).trans (hHeld.1)))), ((cell_far (p := ⟨a3, _, none⟩) a2.out _).trans (((cell_far (p := ⟨a3, _, none⟩) a2.out _).trans (hHeld.2))))⟩ (fun hHeld => ?_)
 clear hK K
 refine done_ (done_of HT_.out (by kernel_rfl)) ?_
 try go_wp2
 refine bodyPost_ret (results_cell_row rfl _ _ a3 46 #[.slice b8 a7.length b7, .slice c8 a6.length c7] (0, 0) _ rfl (bkP a1) Tryz.underlying46 rfl (by kernel_rfl)) rfl ?_
 exact ⟨_, _, erf, by (with_reducible repeat (first | apply Kd.R_alloc | apply Kd.R_drewN | apply Kd.R_drew)); exact Kd.R_mono (Kd.R_far (p := ⟨a3, 1, none⟩) (Kd.R_far (p := ⟨a3, 0, none⟩) (Kd.R_types a8.out a1.out (by decide)) (fun _ hk => hk.2) (.slice b8 a7.length b7)) (fun _ hk => hk.2) (.slice c8 a6.length c7)) (fun _ hk => hk.1.2), by (with_reducible repeat (first | apply Kd.R_alloc | apply Kd.R_drewN | apply Kd.R_drew)); exact Kd.R_mono (Kd.R_far (p := ⟨a3, 1, none⟩) (Kd.R_far (p := ⟨a3, 0, none⟩) (Kd.R_types c4.out a1.out (by decide)) (fun _ hk => hk.2) (.slice b8 a7.length b7)) (fun _ hk => hk.2) (.slice c8 a6.length c7)) (fun _ hk => hk.1.2), bb HB⟩
end Go.Proofs.YtfpianecohobjaaGreat.P
