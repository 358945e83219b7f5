/- StatisticOf: a part of its proof. No condition. -/
import Derived.Test.YtfpianecohobjaaGreatYPx0
namespace Go.Proofs.YtfpianecohobjaaGreat.P
open Go.RowKit Go.Proofs.YtfpianecohobjaaGreatW.PrintWords Go.Proofs.YtfpianecohobjaaGreatW.PrintLast Go.Proofs.YtfpianecohobjaaGreatW.PrintMore
set_option linter.unusedVariables false
set_option linter.unusedSimpArgs false
def scarfjointref18_Copied.f (a5 : List (S75)) (a4 : List (S75)) : Option ((List (S75)) × (List (S75))) := (some (([] : List (S75)) : List (S75))).bind fun b4 => (if b4.length + a5.length < 4398046511104 then ((some (([] : List (S75)) : List (S75))).bind fun a9 => (if a9.length + a4.length < 4398046511104 then (some ((b4 ++ a5), (a9 ++ a4))) else (none))) else (none))
def scarfjointref18_Copied.T1 : Bool × List (List Nat × List Nat) := (true, [([], []), ([], []), ([1], [1]), ([0, 2], [0, 2]), ([], []), ([], []), ([5], [5]), ([4, 6, 3], [4, 6]), ([3, 7], [3, 7]), ([8, 7, 0, 1, 2, 3, 4, 5, 6, 7, 8], [8])])
def scarfjointref18_Copied.B1 : List Nat := [0, 0, 2, 7, 0, 0, 32, 127, 255, 511]
theorem scarfjointref18_Copied.tab1 : rtab .any (opsOf Tryz.f26 1) = scarfjointref18_Copied.T1 := by kernel_rfl
theorem scarfjointref18_Copied.bits1 : waitsOk scarfjointref18_Copied.T1.2 scarfjointref18_Copied.B1 = true := by kernel_rfl
set_option maxHeartbeats 8000000 in
set_option maxRecDepth 100000 in
theorem scarfjointref18_Copied.calls (b8 : Option Addr) (b6 : Nat) (a5 : List (S75)) (b7 : Option Addr) (b5 : Nat) (a4 : List (S75)) (r1 : List (S75)) (r2 : List (S75)) (w : World) (e9 : Kd.C k75 w b8 a5.length a5) (g1 : a5.length ≤ b6) (e8 : Kd.C k75 w b7 a4.length a4) (g0 : a4.length ≤ b5) (h : scarfjointref18_Copied.f a5 a4 = some (r1, r2)) :
  Calls Tryz.prog 26 #[.agg #[.slice b8 a5.length b6, .slice b7 a4.length b5]] w fun e w' => ∃ g4 g3 : Value, e = .returned (.agg #[g4, g3]) ∧ Kd.R k75 75 w' w.heap.size (fun k_ => some k_ ≠ (g3 : Value).ownBlock) g4 r1 ∧ Kd.R k75 75 w' w.heap.size (fun k_ => some k_ ≠ (g4 : Value).ownBlock) g3 r2 ∧ Below w.heap.size w w' := by
 have hu46 := Tryz.underlying46
 have e1 := Aside0.mk e9
 have j9 := Aside0.mk g1
 clear e9 g1
 have g7 := Aside0.mk e8
 have j8 := Aside0.mk g0
 clear e8 g0
 have HB := Aside0.mk (Below.refl w.heap.size w)
 have H : ((some (([] : List (S75)) : List (S75))).bind fun b4 => (if b4.length + a5.length < 4398046511104 then ((some (([] : List (S75)) : List (S75))).bind fun a9 => (if a9.length + a4.length < 4398046511104 then (some ((b4 ++ a5), (a9 ++ a4))) else (none))) else (none))) = some (r1, r2) := h
 clear h
 obtain ⟨b4, d2⟩ : ∃ y_ : List (S75), y_ = (([] : List (S75))) := ⟨_, rfl⟩
 replace H : (if b4.length + a5.length < 4398046511104 then ((some (([] : List (S75)) : List (S75))).bind fun a9 => (if a9.length + a4.length < 4398046511104 then (some ((b4 ++ a5), (a9 ++ a4))) else (none))) else (none)) = some (r1, r2) := by first | (rw [d2]; with_reducible exact H) | (have H2_ := (Option.bind_some _ _).symm.trans H; rw [d2]; with_reducible exact H2_) | (have H2_ := (Option.bind_some _ _).symm.trans H; with_reducible exact H2_) | with_reducible exact H | (rw [d2]; exact H) | exact H
 have d5 := Aside0.mk d2
 clear d2
 obtain ⟨c2, H⟩ := itn H
 have e6 := Aside0.mk c2
 clear c2
 obtain ⟨c1, d1⟩ : ∃ y_ : List (S75), y_ = (b4 ++ a5) := ⟨_, rfl⟩
 replace H : ((some (([] : List (S75)) : List (S75))).bind fun a9 => (if a9.length + a4.length < 4398046511104 then (some (c1, (a9 ++ a4))) else (none))) = some (r1, r2) := by first | (rw [d1]; with_reducible exact H) | (have H2_ := (Option.bind_some _ _).symm.trans H; rw [d1]; with_reducible exact H2_) | (have H2_ := (Option.bind_some _ _).symm.trans H; with_reducible exact H2_) | with_reducible exact H | (rw [d1]; exact H) | exact H
 have e0 := Aside0.mk d1
 clear d1
 obtain ⟨a9, d0⟩ : ∃ y_ : List (S75), y_ = (([] : List (S75))) := ⟨_, rfl⟩
 replace H : (if a9.length + a4.length < 4398046511104 then (some (c1, (a9 ++ a4))) else (none)) = some (r1, r2) := by first | (rw [d0]; with_reducible exact H) | (have H2_ := (Option.bind_some _ _).symm.trans H; rw [d0]; with_reducible exact H2_) | (have H2_ := (Option.bind_some _ _).symm.trans H; with_reducible exact H2_) | with_reducible exact H | (rw [d0]; exact H) | exact H
 have c8 := Aside0.mk d0
 clear d0
 obtain ⟨c3, H⟩ := itn H
 have h4 := Aside0.mk c3
 clear c3
 obtain ⟨d7, c9⟩ : ∃ y_ : List (S75), y_ = (a9 ++ a4) := ⟨_, rfl⟩
 replace H : (some (c1, d7)) = some (r1, r2) := by first | (rw [c9]; with_reducible exact H) | (have H2_ := (Option.bind_some _ _).symm.trans H; rw [c9]; with_reducible exact H2_) | (have H2_ := (Option.bind_some _ _).symm.trans H; with_reducible exact H2_) | with_reducible exact H | (rw [c9]; exact H) | exact H
 have g6 := Aside0.mk c9
 clear c9
 simp only [Option.some.injEq, Prod.mk.injEq] at H
 obtain ⟨rfl, rfl⟩ := H
 go_enter Tryz.func26, Tryz.ntmps26
 try go_wp2_with (first | ((with_reducible refine gate_dst (N := 1) rfl ?_); refine be 1 #[.slice b8 a5.length b6, .slice b7 a4.length b5] 46 ?_; intro b1 hg w4 hbox hb; have a2 := Aside0.mk (hbox); have m2 := bsz HB hg; replace HB := bstep HB hb; clear hb hbox hg) | ((with_reducible refine gate_dst (N := 2) rfl ?_); refine be 2 #[.slice none 0 0, .slice none 0 0] 46 ?_; intro a7 hg w5 hbox hb; have a3 := Aside0.mk (hbox); have m0 := bsz HB hg; replace HB := bstep HB hb; have b2 := blt a2 hg; have d4 := bgt a2 hg; replace a2 := bkb a2 hb; clear hb hbox hg))
 replace a2 := Aside0.mk (blk_drew a2.out)
 replace a3 := Aside0.mk (blk_drew a3.out)
 replace HB := Aside0.mk (below_drew1 HB.out)
 refine start_ (n := 10) (S := fun w' => w'.cell? ⟨b1, 0, none⟩ = some (.slice b8 a5.length b6) ∧ w'.cell? ⟨b1, 1, none⟩ = some (.slice b7 a4.length b5)) (ds := []) #[false, false, false, false, false, false, false, false, false, false] (by kernel_rfl) rfl rfl ⟨bc a2 0, bc a2 1⟩ (fun hHeld => ?_); refine with_tabW scarfjointref18_Copied.tab1 scarfjointref18_Copied.bits1 (fun HT_ HW_ => ?_)
 generalize w5.drew = w6 at a2 a3 HB hHeld ⊢
 refine pu 1 4 (bits 10 0x2) HT_ (h := ?_)
 refine pu 5 8 (bits 10 0x22) HT_ (h := ?_)
 refine tk 2 5 (bits 10 0x26) HT_ HW_ hHeld (hy := by rintro w' ⟨s0, s1⟩; go_simp; with_reducible rfl) (h := ?_)
 refine tk 6 9 (bits 10 0x66) HT_ HW_ hHeld (hy := by rintro w' ⟨s0, s1⟩; go_simp; with_reducible rfl) (h := ?_)
 refine join_ (σ := Value × Value × Value) 3 #[true, true, true, true, true, true, true, false, false, false] (fun s_ => [(3, s_.1), (6, s_.2.1), (7, s_.2.2)]) (fun s_ w' => (w'.cell? ⟨b1, 0, none⟩ = some (.slice b8 a5.length b6) ∧ w'.cell? ⟨b1, 1, none⟩ = some (.slice b7 a4.length b5)) ∧ (Kd.R k75 75 w' w.heap.size (fun k_ => some k_ ≠ (s_.2.2 : Value).ownBlock) s_.2.1 c1) ∧ (Kd.R k75 75 w' w.heap.size (fun k_ => some k_ ≠ (s_.2.1 : Value).ownBlock) s_.2.2 a9) ∧ (w'.heap[b1]? = some (.cells #[.slice b8 a5.length b6, .slice b7 a4.length b5] 46 (0, 0))) ∧ (w'.heap[a7]? = some (.cells #[.slice none 0 0, .slice none 0 0] 46 (0, 0))) ∧ (Below w.heap.size w w')) ?_ ?_
 rotate_left
 ·intro hCont
  refine two_ (i := 0) (j := 4) (Ni := some 3) (Nj := some 7) #[true, true, true, false, false, true, true, false, false, false] #[false, true, true, false, true, true, true, false, false, false] rfl rfl rfl rfl (two_of HT_.out (by kernel_rfl)) (by decide) (by decide) (fun K hK => ?_) (fun K hK => ?_)
  ·skip
   refine Kd.R_lit_step k75 _ 75 ?hg (N := 3) ?hd (xs := ([] : List (S75))) (inner := []) (ok := fun _ => True) (okp := fun _ => True) ?hr ?hp (fun _ hk => hk) trivial (Below.refl _ _) (Nat.le_refl _) (by simp) ?_; (case hd => rfl); (case hg => rfl); (case hr => first | (go_simp; done) | (go_simp; rfl)); (case hp => exact (Reps.none _ _))
   intro c6 w7 c7 hb hg_ hnew_
   clear hg_ hnew_
   (first | rw [← d5.out] at c7 | (simp only [Int.reduceToNat] at c7; rw [← d5.out] at c7))
   have a8 := Aside0.mk (Kd.R_lower c7 (below_size (bb HB)))
   replace a2 := bkb a2 hb
   replace a3 := bkb a3 hb
   replace HB := bstep HB hb
   clear hb c7
   refine hK.out _ _ ⟨bc a2 0, bc a2 1⟩ (fun hHeld => ?_)
   clear hK K
   refine norm_ (a' := ?_) ?_ ?_
   rotate_left
   ·show Act.put _ (some 3) _ = _
    simp only [Act.put, List.setIfInBounds_toArray, List.set_cons_zero, List.set_cons_succ, i64_w, i32_w]
    rfl
   refine two_ (i := 3) (j := 4) (Ni := some 6) (Nj := some 7) #[true, true, true, true, false, true, true, false, false, false] #[true, true, true, false, true, true, true, false, false, false] rfl rfl rfl rfl (two_of HT_.out (by kernel_rfl)) (by decide) (by decide) (fun K hK => ?_) (fun K hK => ?_)
   ·skip
    refine Kd.R_append_rows_step k75 (w0 := w) w.heap.size (by rfl) (.tmp 3) (.tmp 5) 44 75 (.agg #[(.int .i64 0), (.int .i64 0), (.int .i64 0), (.int .i64 0)]) 32 rfl Tryz.underlying44 info75 rfl (by decide) (by omega) c6 b4 a5 _ _ _ (fun _ => True) (fun _ => False) rfl rfl ?aO ?aR (fun _ _ h => h) (fun _ h => h.elim) ?aF ?aB ?aS ?aL ?_
    (case aR => exact cb e1 HB)
    (case aB => exact (bb HB))
    (case aF => exact (fun _ _ => trivial))
    (case aO => exact (kR a8))
    (case aS => exact (below_size (bb HB)))
    (case aL => have := e6.out; omega)
    intro c5 w9 ho hb hg hat
    rw [← e0.out] at ho
    replace a2 := Aside0.mk (blk_grown (g := b1) (o := .cells #[.slice b8 a5.length b6, .slice b7 a4.length b5] 46 (0, 0)) (bk a2) hg (Kd.R_ne a8.out a2.out (by decide)))
    replace a3 := Aside0.mk (blk_grown (g := a7) (o := .cells #[.slice none 0 0, .slice none 0 0] 46 (0, 0)) (bk a3) hg (Kd.R_ne a8.out a3.out (by decide)))
    replace HB := Aside0.mk (hb)
    have b0 := Aside0.mk (ho)
    clear a8 ho hb hg hat
    refine hK.out _ _ ⟨bc a2 0, bc a2 1⟩ (fun hHeld => ?_)
    clear hK K
    refine norm_ (a' := ?_) ?_ ?_
    rotate_left
    ·show Act.put _ (some 6) _ = _
     simp only [Act.put, List.setIfInBounds_toArray, List.set_cons_zero, List.set_cons_succ, i64_w, i32_w]
     rfl
    refine one_ (i := 4) (N := some 7) #[true, true, true, true, true, true, true, false, false, false] rfl rfl (one_of HT_.out (by kernel_rfl)) (by decide) (fun K hK => ?_)
    refine Kd.R_lit_step k75 _ 75 ?hg (N := 7) ?hd (xs := ([] : List (S75))) (inner := []) (ok := fun _ => True) (okp := fun _ => True) ?hr ?hp (fun _ hk => hk) trivial (Below.refl _ _) (Nat.le_refl _) (by simp) ?_; (case hd => rfl); (case hg => rfl); (case hr => first | (go_simp; done) | (go_simp; rfl)); (case hp => exact (Reps.none _ _))
    intro b9 m6 d3 hb hg_ hnew_
    clear hg_ hnew_
    (first | rw [← c8.out] at d3 | (simp only [Int.reduceToNat] at d3; rw [← c8.out] at d3))
    have a6 := Aside0.mk (Kd.R_lower (Kd.R_new' d3 (Kd.R_lt (kR b0))) (below_size (bb HB)))
    replace b0 := Aside0.mk (Kd.R_elder' (kR b0) (Kd.R_base d3) hb)
    replace a2 := bkb a2 hb
    replace a3 := bkb a3 hb
    replace HB := bstep HB hb
    clear hb d3
    refine hK.out _ _ ⟨bc a2 0, bc a2 1⟩ (fun hHeld => ?_)
    clear hK K
    refine norm_ (a' := ?_) ?_ ?_
    rotate_left
    ·show Act.put _ (some 7) _ = _
     simp only [Act.put, List.setIfInBounds_toArray, List.set_cons_zero, List.set_cons_succ, i64_w, i32_w]
     rfl
    exact norm_ (by simp only [putAll, Act.put, List.setIfInBounds_toArray, List.set_cons_zero, List.set_cons_succ]) (hCont (c6, c5, b9) _ ⟨hHeld, (by (with_reducible repeat (first | apply Kd.R_alloc | apply Kd.R_drewN | apply Kd.R_drew)); exact Kd.R_mono b0.out (fun _ hk => hk.2)), (by (with_reducible repeat (first | apply Kd.R_alloc | apply Kd.R_drewN | apply Kd.R_drew)); exact Kd.R_mono a6.out (fun _ hk => hk.2)), (bk a2), (bk a3), (bb HB)⟩)
   ·skip
    refine Kd.R_lit_step k75 _ 75 ?hg (N := 7) ?hd (xs := ([] : List (S75))) (inner := []) (ok := fun _ => True) (okp := fun _ => True) ?hr ?hp (fun _ hk => hk) trivial (Below.refl _ _) (Nat.le_refl _) (by simp) ?_; (case hd => rfl); (case hg => rfl); (case hr => first | (go_simp; done) | (go_simp; rfl)); (case hp => exact (Reps.none _ _))
    intro b9 w9 b3 hb hg_ hnew_
    clear hg_ hnew_
    (first | rw [← c8.out] at b3 | (simp only [Int.reduceToNat] at b3; rw [← c8.out] at b3))
    have a6 := Aside0.mk (Kd.R_lower (Kd.R_new' b3 (Kd.R_lt (kR a8))) (below_size (bb HB)))
    replace a8 := Aside0.mk (Kd.R_elder' (kR a8) (Kd.R_base b3) hb)
    replace a2 := bkb a2 hb
    replace a3 := bkb a3 hb
    replace HB := bstep HB hb
    clear hb b3
    refine hK.out _ _ ⟨bc a2 0, bc a2 1⟩ (fun hHeld => ?_)
    clear hK K
    refine norm_ (a' := ?_) ?_ ?_
    rotate_left
    ·show Act.put _ (some 7) _ = _
     simp only [Act.put, List.setIfInBounds_toArray, List.set_cons_zero, List.set_cons_succ, i64_w, i32_w]
     rfl
    refine one_ (i := 3) (N := some 6) #[true, true, true, true, true, true, true, false, false, false] rfl rfl (one_of HT_.out (by kernel_rfl)) (by decide) (fun K hK => ?_)
    refine Kd.R_append_rows_step k75 (w0 := w) w.heap.size (by rfl) (.tmp 3) (.tmp 5) 44 75 (.agg #[(.int .i64 0), (.int .i64 0), (.int .i64 0), (.int .i64 0)]) 32 rfl Tryz.underlying44 info75 rfl (by decide) (by omega) c6 b4 a5 _ _ _ (fun k_ => some k_ ≠ (b9 : Value).ownBlock) (fun _ => False) rfl rfl ?aO ?aR (fun _ _ h => h) (fun _ h => h.elim) ?aF ?aB ?aS ?aL ?_
    (case aR => exact cb e1 HB)
    (case aB => exact (bb HB))
    (case aF => exact (fun k_ hk => Kd.fresh' (Kd.R_lt (kR a6)) k_ hk))
    (case aO => exact (by (with_reducible repeat (first | apply Kd.R_alloc | apply Kd.R_drewN | apply Kd.R_drew)); exact Kd.R_mono a8.out (fun _ hk => hk.2)))
    (case aS => exact (below_size (bb HB)))
    (case aL => have := e6.out; omega)
    intro c5 j3 ho hb hg hat
    rw [← e0.out] at ho
    replace a2 := Aside0.mk (blk_grown (g := b1) (o := .cells #[.slice b8 a5.length b6, .slice b7 a4.length b5] 46 (0, 0)) (bk a2) hg (Kd.R_ne a8.out a2.out (by decide)))
    replace a3 := Aside0.mk (blk_grown (g := a7) (o := .cells #[.slice none 0 0, .slice none 0 0] 46 (0, 0)) (bk a3) hg (Kd.R_ne a8.out a3.out (by decide)))
    replace a6 := Aside0.mk (Kd.R_after (ok := (fun _ => True)) (kR a6) hg hat)
    replace HB := Aside0.mk (hb)
    have b0 := Aside0.mk (ho)
    clear a8 ho hb hg hat
    refine hK.out _ _ ⟨bc a2 0, bc a2 1⟩ (fun hHeld => ?_)
    clear hK K
    refine norm_ (a' := ?_) ?_ ?_
    rotate_left
    ·show Act.put _ (some 6) _ = _
     simp only [Act.put, List.setIfInBounds_toArray, List.set_cons_zero, List.set_cons_succ, i64_w, i32_w]
     rfl
    exact norm_ (by simp only [putAll, Act.put, List.setIfInBounds_toArray, List.set_cons_zero, List.set_cons_succ]) (hCont (c6, c5, b9) _ ⟨hHeld, (kR b0), (by (with_reducible repeat (first | apply Kd.R_alloc | apply Kd.R_drewN | apply Kd.R_drew)); exact Kd.R_mono a6.out (fun _ hk => hk.2)), (bk a2), (bk a3), (bb HB)⟩)
  ·skip
   refine Kd.R_lit_step k75 _ 75 ?hg (N := 7) ?hd (xs := ([] : List (S75))) (inner := []) (ok := fun _ => True) (okp := fun _ => True) ?hr ?hp (fun _ hk => hk) trivial (Below.refl _ _) (Nat.le_refl _) (by simp) ?_; (case hd => rfl); (case hg => rfl); (case hr => first | (go_simp; done) | (go_simp; rfl)); (case hp => exact (Reps.none _ _))
   intro b9 w7 c7 hb hg_ hnew_
   clear hg_ hnew_
   (first | rw [← c8.out] at c7 | (simp only [Int.reduceToNat] at c7; rw [← c8.out] at c7))
   have a6 := Aside0.mk (Kd.R_lower c7 (below_size (bb HB)))
   replace a2 := bkb a2 hb
   replace a3 := bkb a3 hb
   replace HB := bstep HB hb
   clear hb c7
   refine hK.out _ _ ⟨bc a2 0, bc a2 1⟩ (fun hHeld => ?_)
   clear hK K
   refine norm_ (a' := ?_) ?_ ?_
   rotate_left
   ·show Act.put _ (some 7) _ = _
    simp only [Act.put, List.setIfInBounds_toArray, List.set_cons_zero, List.set_cons_succ, i64_w, i32_w]
    rfl
   refine one_ (i := 0) (N := some 3) #[true, true, true, false, true, true, true, false, false, false] rfl rfl (one_of HT_.out (by kernel_rfl)) (by decide) (fun K hK => ?_)
   refine Kd.R_lit_step k75 _ 75 ?hg (N := 3) ?hd (xs := ([] : List (S75))) (inner := []) (ok := fun _ => True) (okp := fun _ => True) ?hr ?hp (fun _ hk => hk) trivial (Below.refl _ _) (Nat.le_refl _) (by simp) ?_; (case hd => rfl); (case hg => rfl); (case hr => first | (go_simp; done) | (go_simp; rfl)); (case hp => exact (Reps.none _ _))
   intro c6 w9 b3 hb hg_ hnew_
   clear hg_ hnew_
   (first | rw [← d5.out] at b3 | (simp only [Int.reduceToNat] at b3; rw [← d5.out] at b3))
   have a8 := Aside0.mk (Kd.R_lower (Kd.R_new' b3 (Kd.R_lt (kR a6))) (below_size (bb HB)))
   replace a6 := Aside0.mk (Kd.R_elder' (kR a6) (Kd.R_base b3) hb)
   replace a2 := bkb a2 hb
   replace a3 := bkb a3 hb
   replace HB := bstep HB hb
   clear hb b3
   refine hK.out _ _ ⟨bc a2 0, bc a2 1⟩ (fun hHeld => ?_)
   clear hK K
   refine norm_ (a' := ?_) ?_ ?_
   rotate_left
   ·show Act.put _ (some 3) _ = _
    simp only [Act.put, List.setIfInBounds_toArray, List.set_cons_zero, List.set_cons_succ, i64_w, i32_w]
    rfl
   refine one_ (i := 3) (N := some 6) #[true, true, true, true, true, true, true, false, false, false] rfl rfl (one_of HT_.out (by kernel_rfl)) (by decide) (fun K hK => ?_)
   refine Kd.R_append_rows_step k75 (w0 := w) w.heap.size (by rfl) (.tmp 3) (.tmp 5) 44 75 (.agg #[(.int .i64 0), (.int .i64 0), (.int .i64 0), (.int .i64 0)]) 32 rfl Tryz.underlying44 info75 rfl (by decide) (by omega) c6 b4 a5 _ _ _ (fun k_ => some k_ ≠ (b9 : Value).ownBlock) (fun _ => False) rfl rfl ?aO ?aR (fun _ _ h => h) (fun _ h => h.elim) ?aF ?aB ?aS ?aL ?_
   (case aR => exact cb e1 HB)
   (case aB => exact (bb HB))
   (case aF => exact (fun k_ hk => Kd.fresh' (Kd.R_lt (kR a6)) k_ hk))
   (case aO => exact (by (with_reducible repeat (first | apply Kd.R_alloc | apply Kd.R_drewN | apply Kd.R_drew)); exact Kd.R_mono a8.out (fun _ hk => hk.2)))
   (case aS => exact (below_size (bb HB)))
   (case aL => have := e6.out; omega)
   intro c5 j3 ho hb hg hat
   rw [← e0.out] at ho
   replace a2 := Aside0.mk (blk_grown (g := b1) (o := .cells #[.slice b8 a5.length b6, .slice b7 a4.length b5] 46 (0, 0)) (bk a2) hg (Kd.R_ne a8.out a2.out (by decide)))
   replace a3 := Aside0.mk (blk_grown (g := a7) (o := .cells #[.slice none 0 0, .slice none 0 0] 46 (0, 0)) (bk a3) hg (Kd.R_ne a8.out a3.out (by decide)))
   replace a6 := Aside0.mk (Kd.R_after (ok := (fun _ => True)) (kR a6) hg hat)
   replace HB := Aside0.mk (hb)
   have b0 := Aside0.mk (ho)
   clear a8 ho hb hg hat
   refine hK.out _ _ ⟨bc a2 0, bc a2 1⟩ (fun hHeld => ?_)
   clear hK K
   refine norm_ (a' := ?_) ?_ ?_
   rotate_left
   ·show Act.put _ (some 6) _ = _
    simp only [Act.put, List.setIfInBounds_toArray, List.set_cons_zero, List.set_cons_succ, i64_w, i32_w]
    rfl
   exact norm_ (by simp only [putAll, Act.put, List.setIfInBounds_toArray, List.set_cons_zero, List.set_cons_succ]) (hCont (c6, c5, b9) _ ⟨hHeld, (kR b0), (by (with_reducible repeat (first | apply Kd.R_alloc | apply Kd.R_drewN | apply Kd.R_drew)); exact Kd.R_mono a6.out (fun _ hk => hk.2)), (bk a2), (bk a3), (bb HB)⟩)
 rintro ⟨c6, c5, b9⟩ d6 ⟨hS_, h0_, h1_, h2_, h3_, h4_⟩
 have b0 : Aside0 (Kd.R k75 75 d6 w.heap.size (fun k_ => some k_ ≠ (b9 : Value).ownBlock) c5 c1) := ⟨h0_⟩
 have a6 : Aside0 (Kd.R k75 75 d6 w.heap.size (fun k_ => some k_ ≠ (c5 : Value).ownBlock) b9 a9) := ⟨h1_⟩
 replace a2 : Aside0 (d6.heap[b1]? = some (.cells #[.slice b8 a5.length b6, .slice b7 a4.length b5] 46 (0, 0))) := ⟨h2_⟩
 replace a3 : Aside0 (d6.heap[a7]? = some (.cells #[.slice none 0 0, .slice none 0 0] 46 (0, 0))) := ⟨h3_⟩
 replace HB : Aside0 (Below w.heap.size w d6) := ⟨h4_⟩
 clear h0_ h1_ h2_ h3_ h4_
 have hHeld : d6.cell? ⟨b1, 0, none⟩ = some (.slice b8 a5.length b6) ∧ d6.cell? ⟨b1, 1, none⟩ = some (.slice b7 a4.length b5) := hS_
 refine norm_ (a' := ?_) ?_ ?_
 rotate_left
 ·simp only [putAll, Act.put, List.setIfInBounds_toArray, List.set_cons_zero, List.set_cons_succ]
  rfl
 refine one_ (i := 7) (N := some 10) #[true, true, true, true, true, true, true, true, false, false] rfl rfl (one_of HT_.out (by kernel_rfl)) (by decide) (fun K hK => ?_)
 refine Kd.R_append_rows_step k75 (w0 := w) w.heap.size (by rfl) (.tmp 7) (.tmp 9) 44 75 (.agg #[(.int .i64 0), (.int .i64 0), (.int .i64 0), (.int .i64 0)]) 32 rfl Tryz.underlying44 info75 rfl (by decide) (by omega) b9 a9 a4 _ _ _ (fun k_ => some k_ ≠ (c5 : Value).ownBlock) (fun _ => False) rfl rfl ?aO ?aR (fun _ _ h => h) (fun _ h => h.elim) ?aF ?aB ?aS ?aL ?_
 (case aR => exact cb g7 HB)
 (case aB => exact (bb HB))
 (case aF => exact (fun k_ hk => Kd.fresh' (Kd.R_lt (kR b0)) k_ hk))
 (case aO => exact (kR a6))
 (case aS => exact (below_size (bb HB)))
 (case aL => have := h4.out; omega)
 intro m3 g8 ho hb hg hat
 rw [← g6.out] at ho
 replace a2 := Aside0.mk (blk_grown (g := b1) (o := .cells #[.slice b8 a5.length b6, .slice b7 a4.length b5] 46 (0, 0)) (bk a2) hg (Kd.R_ne a6.out a2.out (by decide)))
 replace a3 := Aside0.mk (blk_grown (g := a7) (o := .cells #[.slice none 0 0, .slice none 0 0] 46 (0, 0)) (bk a3) hg (Kd.R_ne a6.out a3.out (by decide)))
 replace b0 := Aside0.mk (Kd.R_after (ok := (fun _ => True)) (by (with_reducible repeat (first | apply Kd.R_alloc | apply Kd.R_drewN | apply Kd.R_drew)); exact Kd.R_mono b0.out (fun _ hk => ⟨trivial, hk⟩)) hg hat)
 replace HB := Aside0.mk (hb)
 have g2 := Aside0.mk (ho)
 clear a6 ho hb hg hat
 obtain ⟨e7, e5, eo14⟩ := Kd.R_slice g2.out
 (first | subst eo14 | (injection eo14 with f1_ f2_ f3_; have f4_ := f1_.symm; have f5_ := f3_.symm; clear f1_ f2_ f3_; subst f4_; subst f5_))
 obtain ⟨e2, d9, eo15⟩ := Kd.R_slice b0.out
 (first | subst eo15 | (injection eo15 with f1_ f2_ f3_; have f4_ := f1_.symm; have f5_ := f3_.symm; clear f1_ f2_ f3_; subst f4_; subst f5_))
 refine hK.out _ _ ⟨bc a2 0, bc a2 1⟩ (fun hHeld => ?_)
 clear hK K
 refine norm_ (a' := ?_) ?_ ?_
 rotate_left
 ·show Act.put _ (some 10) _ = _
  simp only [Act.put, List.setIfInBounds_toArray, List.set_cons_zero, List.set_cons_succ, i64_w, i32_w]
  rfl
 refine pu 8 11 (bits 10 0x1ff) HT_ (h := ?_)
 refine one_ (i := 9) (N := none) #[true, true, true, true, true, true, true, true, true, true] rfl rfl (one_of HT_.out (by kernel_rfl)) (by decide) (fun K hK => ?_)
 have m5 : g8.cell? ⟨a7, 0, none⟩ = some (.slice none 0 0) := bc a3 0
 have j6 := blk_frozen a3.out 0
 have j0 := b2.out
 have j2 := d4.out
 have m4 : g8.cell? ⟨a7, 1, none⟩ = some (.slice none 0 0) := bc a3 1
 have j5 := blk_frozen a3.out 1
 have h9 := b2.out
 have j1 := d4.out
 refine skip_ (w1 := ?_) (by rfl) rfl ?_ ?_
 rotate_left
 ·go_simp
  rfl
 refine hK.out _ _ ⟨((cell_far (p := ⟨a7, _, none⟩) b2.out _).trans (((cell_far (p := ⟨a7, _, none⟩) b2.out _).trans (hHeld.1)))), ((cell_far (p := ⟨a7, _, none⟩) b2.out _).trans (((cell_far (p := ⟨a7, _, none⟩) b2.out _).trans (hHeld.2))))⟩ (fun hHeld => ?_)
 clear hK K
 refine done_ (done_of HT_.out (by kernel_rfl)) ?_
 try go_wp2
 refine bodyPost_ret (results_cell_row rfl _ _ a7 46 #[.slice e2 c1.length d9, .slice e7 d7.length e5] (0, 0) _ rfl (by (with_reducible repeat (first | refine dN ?_ _ | refine dR ?_ | refine dA ?_ _)); refine blk_put (cs := #[.slice e2 c1.length d9, .slice none 0 0]) ?_ 1 _ rfl; refine blk_put (cs := #[.slice none 0 0, .slice none 0 0]) ?_ 0 _ rfl; (with_reducible repeat (first | refine dN ?_ _ | refine dR ?_ | refine dA ?_ _)); exact a3.out) Tryz.underlying46 rfl (by kernel_rfl)) rfl ?_
 exact ⟨_, _, erf, by (with_reducible repeat (first | apply Kd.R_alloc | apply Kd.R_drewN | apply Kd.R_drew)); exact Kd.R_mono (Kd.R_far (p := ⟨a7, 1, none⟩) (Kd.R_far (p := ⟨a7, 0, none⟩) (Kd.R_types b0.out a3.out (by decide)) (fun _ hk => hk.2) (.slice e2 c1.length d9)) (fun _ hk => hk.2) (.slice e7 d7.length e5)) (fun _ hk => hk.1.2), by (with_reducible repeat (first | apply Kd.R_alloc | apply Kd.R_drewN | apply Kd.R_drew)); exact Kd.R_mono (Kd.R_far (p := ⟨a7, 1, none⟩) (Kd.R_far (p := ⟨a7, 0, none⟩) (Kd.R_types g2.out a3.out (by decide)) (fun _ hk => hk.2) (.slice e2 c1.length d9)) (fun _ hk => hk.2) (.slice e7 d7.length e5)) (fun _ hk => hk.1), bb HB⟩
def scarfjointref18_is.f (a0 : Int) (a1 : Int) : Option (Bool) := if a0 ≥ 0 then (some (decide (a0 < a1))) else (some false)
set_option maxHeartbeats 8000000 in
set_option maxRecDepth 100000 in
theorem scarfjointref18_is.calls (a0 : Int) (a1 : Int) (r : Bool) (w : World) (h : scarfjointref18_is.f a0 a1 = some r) :
  Calls Tryz.prog 60 #[.int .i64 a0, .int .i64 a1] w fun e w' => e = .returned (.bool r) ∧ Drawn0 w w' := by
 have H : (if a0 ≥ 0 then (some (decide (a0 < a1))) else (some false)) = some r := h
 clear h
 by_cases c3 : a0 ≥ 0
 ·rw [if_pos c3] at H
  have g5 : decide (0 ≤ a0) = true := decide_eq_true c3
  clear c3
  obtain rfl := Option.some.inj H
  go_enter Tryz.func60, Tryz.ntmps60
  go_wp2
  go_ret
  exact ⟨by first | rfl | (simp; done) | (simp [*]; done), drw⟩
 rw [if_neg c3] at H
 have g5 : decide (0 ≤ a0) = false := decide_eq_false c3
 clear c3
 obtain rfl := Option.some.inj H
 go_enter Tryz.func60, Tryz.ntmps60
 go_wp2
 go_ret
 exact ⟨by first | rfl | (simp; done) | (simp [*]; done), drw⟩
def scarfjointref18_total.l0 : Nat → List (S75) → Int → Int → Option (Int)
 | 0, _, _, _ => none
 | k + 1, x0, x3, x4 => if x4 < (x0.length : Int) then (if 0 ≤ x4 then (scarfjointref18_total.l0 k x0 (wrap64 (x3 + ((rd_T75 x0 x4).f3))) (wrap64 (x4 + 1))) else (none)) else (some x3)
def scarfjointref18_total.f (k : Nat) (l0 : List (S75)) : Option (Int) := scarfjointref18_total.l0 k l0 0 0
set_option maxHeartbeats 8000000 in
set_option maxRecDepth 100000 in
theorem scarfjointref18_total.calls (k : Nat) (A0 : Option Addr) (c0 : Nat) (l0 : List (S75)) (r : Int) (w : World) (g9 : Kd.C k75 w A0 l0.length l0) (h0 : l0.length ≤ c0) (h : scarfjointref18_total.f k l0 = some r) :
  Calls Tryz.prog 64 #[.slice A0 l0.length c0] w fun e w' => e = .returned (.int .i64 r) ∧ Drawn0 w w' := by
 have j4 := Aside0.mk g9
 have m7 := Aside0.mk h0
 clear g9 h0
 have H : (scarfjointref18_total.l0 k l0 0 0) = some r := h
 clear h
 have H' := Aside0.mk H
 clear H
 go_enter Tryz.func64, Tryz.ntmps64
 go_wp2
 go_loopg [3, 4] k (fun kq v3 v4 w' => ∃ (d8 : Int) (c4 : Int), v3 = .int .i64 d8 ∧ v4 = .int .i64 c4 ∧ Aside0 (scarfjointref18_total.l0 kq l0 d8 c4 = some r) ∧ Aside0 (kq ≤ k) ∧ Drawn0 w w')
 case atStart => exact ⟨(0), (0), eqs, eqs, H', ⟨Nat.le_refl _⟩, drw⟩
 case round =>
  clear H'
  obtain ⟨d8, c4, rfl, rfl, HA, h1, ⟨m1, rfl⟩⟩ := hrel
  cases gk with
  | zero => exact absurd HA.out (by simp [scarfjointref18_total.l0])
  | succ k1 =>
   have H := HA.out
   clear HA
   simp only [scarfjointref18_total.l0] at H
   by_cases c2 : c4 < (l0.length : Int)
   rotate_left
   ·rw [if_neg c2] at H
    have h3 := decide_eq_false c2
    clear c2
    obtain rfl := Option.some.inj H
    go_wp2
    go_ret
    exact ⟨by first | rfl | (simp; done) | (simp [*]; done), drw⟩
   rw [if_pos c2] at H
   have h3 := decide_eq_true c2
   clear c2
   obtain ⟨c3, H⟩ := itn H
   have g5 := decide_eq_true c3
   clear c3
   have H' := Aside0.mk H
   clear H
   have e4 : 0 ≤ c4 := odt
   have e3 : c4 < (l0.length : Int) := odt
   obtain ⟨j7, h2, h8, h7, h6, h5⟩ := at_T75 j4.out c4 e4 e3
   cases h2
   replace e4 := eq_true e4
   replace e3 := eq_true e3
   go_wp2
   go_roundg k1
   case measure => have := h1.out; omega
   case rel => exact ⟨(wrap64 (d8 + ((rd_T75 l0 c4).f3))), (wrap64 (c4 + 1)), eqs, eqs, H', ⟨by have := h1.out; omega⟩, drw⟩
end Go.Proofs.YtfpianecohobjaaGreat.P
