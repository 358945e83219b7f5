/- StatisticOf: a part of its proof. No condition. -/
import Derived.Test.YtfpianecohobjaaGreatEPx0
import Derived.Test.YtfpianecohobjaaGreatEPx46
import Derived.Test.YtfpianecohobjaaGreatEMf
import Derived.Test.YtfpianecohobjaaGreatEMe
namespace Go.Proofs.YtfpianecohobjaaGreat.P
open Go.RowKit Go.Proofs.YtfpianecohobjaaGreatW.PrintWords Go.Proofs.YtfpianecohobjaaGreatW.PrintLast Go.Proofs.YtfpianecohobjaaGreatW.PrintMore
set_option maxHeartbeats 8000000
set_option maxRecDepth 100000
set_option linter.unusedVariables false
set_option linter.unusedSimpArgs false
def scarfjointref18_Copied.f (a5 : List (S75)) (a4 : List (S75)) : Option ((List (S75)) × (List (S75))) := (some (([] : List (S75)) : List (S75))).bind fun b4 => (if b4.length + a5.length < 4398046511104 then ((some (([] : List (S75)) : List (S75))).bind fun a9 => (if a9.length + a4.length < 4398046511104 then (some ((b4 ++ a5), (a9 ++ a4))) else (none))) else (none))
def scarfjointref18_Copied.T1 : Bool × List (List Nat × List Nat) := (true, [([], []), ([], []), ([1], [1]), ([0, 2], [0, 2]), ([], []), ([], []), ([5], [5]), ([4, 6, 3], [4, 6]), ([3, 7], [3, 7]), ([8, 7, 0, 1, 2, 3, 4, 5, 6, 7, 8], [8])])
def scarfjointref18_Copied.B1 : List Nat := [0, 0, 2, 7, 0, 0, 32, 127, 255, 511]
theorem scarfjointref18_Copied.tab1 : rtab .any (opsOf Tryz.f26 1) = scarfjointref18_Copied.T1 := by kernel_rfl
theorem scarfjointref18_Copied.bits1 : waitsOk scarfjointref18_Copied.T1.2 scarfjointref18_Copied.B1 = true := by kernel_rfl
theorem scarfjointref18_Copied.calls (b8 : Option Addr) (b6 : Nat) (a5 : List (S75)) (b7 : Option Addr) (b5 : Nat) (a4 : List (S75)) (r1 : List (S75)) (r2 : List (S75)) (w : World) (e9 : Kd.C k75 w b8 a5.length a5) (g1 : a5.length ≤ b6) (e8 : Kd.C k75 w b7 a4.length a4) (g0 : a4.length ≤ b5) (h : scarfjointref18_Copied.f a5 a4 = some (r1, r2)) :
  Calls Tryz.prog 26 #[.agg #[.slice b8 a5.length b6, .slice b7 a4.length b5]] w fun e w' => ∃ g4 g3 : Value, e = .returned (.agg #[g4, g3]) ∧ Kd.R k75 75 w' w.heap.size (fun k_ => some k_ ≠ (g3 : Value).ownBlock) g4 r1 ∧ Kd.R k75 75 w' w.heap.size (fun k_ => some k_ ≠ (g4 : Value).ownBlock) g3 r2 ∧ Below w.heap.size w w' := by
 have hu46 := Tryz.underlying46
 have e0 := Aside0.mk e9
 have j9 := Aside0.mk g1
 clear e9 g1
 have g7 := Aside0.mk e8
 have j8 := Aside0.mk g0
 clear e8 g0
 have HB := Aside0.mk (Below.refl w.heap.size w)
 have H : ((some (([] : List (S75)) : List (S75))).bind fun b4 => (if b4.length + a5.length < 4398046511104 then ((some (([] : List (S75)) : List (S75))).bind fun a9 => (if a9.length + a4.length < 4398046511104 then (some ((b4 ++ a5), (a9 ++ a4))) else (none))) else (none))) = some (r1, r2) := h
 clear h
 obtain ⟨b4, d2⟩ : ∃ y_ : List (S75), y_ = (([] : List (S75))) := ⟨_, rfl⟩
 replace H : (if b4.length + a5.length < 4398046511104 then ((some (([] : List (S75)) : List (S75))).bind fun a9 => (if a9.length + a4.length < 4398046511104 then (some ((b4 ++ a5), (a9 ++ a4))) else (none))) else (none)) = some (r1, r2) := by first | (rw [d2]; with_reducible exact H) | (have H2_ := (Option.bind_some _ _).symm.trans H; rw [d2]; with_reducible exact H2_) | (have H2_ := (Option.bind_some _ _).symm.trans H; with_reducible exact H2_) | with_reducible exact H | (rw [d2]; exact H) | exact H
 have d5 := Aside0.mk d2
 clear d2
 obtain ⟨c2, H⟩ := itn H
 have e5 := Aside0.mk c2
 clear c2
 obtain ⟨c5, d1⟩ : ∃ y_ : List (S75), y_ = (b4 ++ a5) := ⟨_, rfl⟩
 replace H : ((some (([] : List (S75)) : List (S75))).bind fun a9 => (if a9.length + a4.length < 4398046511104 then (some (c5, (a9 ++ a4))) else (none))) = some (r1, r2) := by first | (rw [d1]; with_reducible exact H) | (have H2_ := (Option.bind_some _ _).symm.trans H; rw [d1]; with_reducible exact H2_) | (have H2_ := (Option.bind_some _ _).symm.trans H; with_reducible exact H2_) | with_reducible exact H | (rw [d1]; exact H) | exact H
 have d9 := Aside0.mk d1
 clear d1
 obtain ⟨a9, d0⟩ : ∃ y_ : List (S75), y_ = (([] : List (S75))) := ⟨_, rfl⟩
 replace H : (if a9.length + a4.length < 4398046511104 then (some (c5, (a9 ++ a4))) else (none)) = some (r1, r2) := by first | (rw [d0]; with_reducible exact H) | (have H2_ := (Option.bind_some _ _).symm.trans H; rw [d0]; with_reducible exact H2_) | (have H2_ := (Option.bind_some _ _).symm.trans H; with_reducible exact H2_) | with_reducible exact H | (rw [d0]; exact H) | exact H
 have c8 := Aside0.mk d0
 clear d0
 obtain ⟨c3, H⟩ := itn H
 have h4 := Aside0.mk c3
 clear c3
 obtain ⟨d7, c9⟩ : ∃ y_ : List (S75), y_ = (a9 ++ a4) := ⟨_, rfl⟩
 replace H : (some (c5, d7)) = some (r1, r2) := by first | (rw [c9]; with_reducible exact H) | (have H2_ := (Option.bind_some _ _).symm.trans H; rw [c9]; with_reducible exact H2_) | (have H2_ := (Option.bind_some _ _).symm.trans H; with_reducible exact H2_) | with_reducible exact H | (rw [c9]; exact H) | exact H
 have g6 := Aside0.mk c9
 clear c9
 simp only [Option.some.injEq, Prod.mk.injEq] at H
 obtain ⟨rfl, rfl⟩ := H
 go_enter Tryz.func26, Tryz.ntmps26
 try go_wp2_with (first | ((with_reducible refine gate_dst (N := 1) rfl ?_); refine be 1 #[.slice b8 a5.length b6, .slice b7 a4.length b5] 46 ?_; intro b1 hg w4 hbox hb; have a2 := Aside0.mk (hbox); have m2 := bsz HB hg; replace HB := bstep HB hb; clear hb hbox hg) | ((with_reducible refine gate_dst (N := 2) rfl ?_); refine be 2 #[.slice none 0 0, .slice none 0 0] 46 ?_; intro a7 hg w5 hbox hb; have a3 := Aside0.mk (hbox); have m0 := bsz HB hg; replace HB := bstep HB hb; have b2 := blt a2 hg; have d4 := bgt a2 hg; replace a2 := bkb a2 hb; clear hb hbox hg))
 replace a2 := Aside0.mk (blk_drew a2.out)
 replace a3 := Aside0.mk (blk_drew a3.out)
 replace HB := Aside0.mk (below_drew1 HB.out)
 refine start_ (n := 10) (S := fun w' => w'.cell? ⟨b1, 0, none⟩ = some (.slice b8 a5.length b6) ∧ w'.cell? ⟨b1, 1, none⟩ = some (.slice b7 a4.length b5)) (ds := []) #[false, false, false, false, false, false, false, false, false, false] (by kernel_rfl) rfl rfl ⟨bc a2 0, bc a2 1⟩ (fun hHeld => ?_); refine with_tabW scarfjointref18_Copied.tab1 scarfjointref18_Copied.bits1 (fun HT_ HW_ => ?_)
 generalize w5.drew = w6 at a2 a3 HB hHeld ⊢
 refine pu 1 4 (bits 10 0x2) HT_ (h := ?_)
 refine pu 5 8 (bits 10 0x22) HT_ (h := ?_)
 refine tk 2 5 (bits 10 0x26) HT_ HW_ hHeld (hy := by rintro w' ⟨s0, s1⟩; go_simp; with_reducible rfl) (h := ?_)
 refine tk 6 9 (bits 10 0x66) HT_ HW_ hHeld (hy := by rintro w' ⟨s0, s1⟩; go_simp; with_reducible rfl) (h := ?_)
 refine join_ (σ := Value × Value × Value) 3 #[true, true, true, true, true, true, true, false, false, false] (fun s_ => [(3, s_.1), (6, s_.2.1), (7, s_.2.2)]) (fun s_ w' => (w'.cell? ⟨b1, 0, none⟩ = some (.slice b8 a5.length b6) ∧ w'.cell? ⟨b1, 1, none⟩ = some (.slice b7 a4.length b5)) ∧ (Kd.R k75 75 w' w.heap.size (fun k_ => some k_ ≠ (s_.2.2 : Value).ownBlock) s_.2.1 c5) ∧ (Kd.R k75 75 w' w.heap.size (fun k_ => some k_ ≠ (s_.2.1 : Value).ownBlock) s_.2.2 a9) ∧ (w'.heap[b1]? = some (.cells #[.slice b8 a5.length b6, .slice b7 a4.length b5] 46 (0, 0))) ∧ (w'.heap[a7]? = some (.cells #[.slice none 0 0, .slice none 0 0] 46 (0, 0))) ∧ (Below w.heap.size w w')) ?_ ?_
 rotate_left
 ·intro hCont
  refine two_ (i := 0) (j := 4) (Ni := some 3) (Nj := some 7) #[true, true, true, false, false, true, true, false, false, false] #[false, true, true, false, true, true, true, false, false, false] rfl rfl rfl rfl (two_of HT_.out (by kernel_rfl)) (by decide) (by decide) (fun K hK => ?_) (fun K hK => ?_)
  ·skip
   refine Kd.R_lit_step k75 _ 75 ?hg (N := 3) ?hd (xs := ([] : List (S75))) (inner := []) (ok := fun _ => True) (okp := fun _ => True) ?hr ?hp (fun _ hk => hk) trivial (Below.refl _ _) (Nat.le_refl _) (by simp) ?_; (case hd => rfl); (case hg => rfl); (case hr => first | (go_simp; done) | (go_simp; rfl)); (case hp => exact (Reps.none _ _))
   intro c6 w7 c7 hb hg_ hnew_
   clear hg_ hnew_
   (first | rw [← d5.out] at c7 | (simp only [Int.reduceToNat] at c7; rw [← d5.out] at c7))
   have a8 := Aside0.mk (Kd.R_lower c7 (below_size (bb HB)))
   replace a2 := bkb a2 hb
   replace a3 := bkb a3 hb
   replace HB := bstep HB hb
   clear hb c7
   refine hK.out _ _ ⟨bc a2 0, bc a2 1⟩ (fun hHeld => ?_)
   clear hK K
   refine norm_ (a' := ?_) ?_ ?_
   rotate_left
   ·show Act.put _ (some 3) _ = _
    simp only [Act.put, List.setIfInBounds_toArray, List.set_cons_zero, List.set_cons_succ, i64_w, i32_w]
    rfl
   refine two_ (i := 3) (j := 4) (Ni := some 6) (Nj := some 7) #[true, true, true, true, false, true, true, false, false, false] #[true, true, true, false, true, true, true, false, false, false] rfl rfl rfl rfl (two_of HT_.out (by kernel_rfl)) (by decide) (by decide) (fun K hK => ?_) (fun K hK => ?_)
   ·skip
    refine Kd.R_append_rows_step k75 (w0 := w) w.heap.size (by rfl) (.tmp 3) (.tmp 5) 44 75 (.agg #[(.int .i64 0), (.int .i64 0), (.int .i64 0), (.int .i64 0)]) 32 rfl Tryz.underlying44 info75 rfl (by decide) (by omega) c6 b4 a5 _ _ _ (fun _ => True) (fun _ => False) rfl rfl ?aO ?aR (fun _ _ h => h) (fun _ h => h.elim) ?aF ?aB ?aS ?aL ?_
    (case aR => exact cb e0 HB)
    (case aB => exact (bb HB))
    (case aF => exact (fun _ _ => trivial))
    (case aO => exact (kR a8))
    (case aS => exact (below_size (bb HB)))
    (case aL => have := e5.out; omega)
    intro c4 w9 ho hb hg hat
    rw [← d9.out] at ho
    replace a2 := Aside0.mk (blk_grown (g := b1) (o := .cells #[.slice b8 a5.length b6, .slice b7 a4.length b5] 46 (0, 0)) (bk a2) hg (Kd.R_ne a8.out a2.out (by decide)))
    replace a3 := Aside0.mk (blk_grown (g := a7) (o := .cells #[.slice none 0 0, .slice none 0 0] 46 (0, 0)) (bk a3) hg (Kd.R_ne a8.out a3.out (by decide)))
    replace HB := Aside0.mk (hb)
    have b0 := Aside0.mk (ho)
    clear a8 ho hb hg hat
    refine hK.out _ _ ⟨bc a2 0, bc a2 1⟩ (fun hHeld => ?_)
    clear hK K
    refine norm_ (a' := ?_) ?_ ?_
    rotate_left
    ·show Act.put _ (some 6) _ = _
     simp only [Act.put, List.setIfInBounds_toArray, List.set_cons_zero, List.set_cons_succ, i64_w, i32_w]
     rfl
    refine one_ (i := 4) (N := some 7) #[true, true, true, true, true, true, true, false, false, false] rfl rfl (one_of HT_.out (by kernel_rfl)) (by decide) (fun K hK => ?_)
    refine Kd.R_lit_step k75 _ 75 ?hg (N := 7) ?hd (xs := ([] : List (S75))) (inner := []) (ok := fun _ => True) (okp := fun _ => True) ?hr ?hp (fun _ hk => hk) trivial (Below.refl _ _) (Nat.le_refl _) (by simp) ?_; (case hd => rfl); (case hg => rfl); (case hr => first | (go_simp; done) | (go_simp; rfl)); (case hp => exact (Reps.none _ _))
    intro b9 m6 d3 hb hg_ hnew_
    clear hg_ hnew_
    (first | rw [← c8.out] at d3 | (simp only [Int.reduceToNat] at d3; rw [← c8.out] at d3))
    have a6 := Aside0.mk (Kd.R_lower (Kd.R_new' d3 (Kd.R_lt (kR b0))) (below_size (bb HB)))
    replace b0 := Aside0.mk (Kd.R_elder' (kR b0) (Kd.R_base d3) hb)
    replace a2 := bkb a2 hb
    replace a3 := bkb a3 hb
    replace HB := bstep HB hb
    clear hb d3
    refine hK.out _ _ ⟨bc a2 0, bc a2 1⟩ (fun hHeld => ?_)
    clear hK K
    refine norm_ (a' := ?_) ?_ ?_
    rotate_left
    ·show Act.put _ (some 7) _ = _
     simp only [Act.put, List.setIfInBounds_toArray, List.set_cons_zero, List.set_cons_succ, i64_w, i32_w]
     rfl
    exact norm_ (by simp only [putAll, Act.put, List.setIfInBounds_toArray, List.set_cons_zero, List.set_cons_succ]) (hCont (c6, c4, b9) _ ⟨hHeld, (by (with_reducible repeat (first | apply Kd.R_alloc | apply Kd.R_drewN | apply Kd.R_drew)); exact Kd.R_mono b0.out (fun _ hk => hk.2)), (by (with_reducible repeat (first | apply Kd.R_alloc | apply Kd.R_drewN | apply Kd.R_drew)); exact Kd.R_mono a6.out (fun _ hk => hk.2)), (bk a2), (bk a3), (bb HB)⟩)
   ·skip
    refine Kd.R_lit_step k75 _ 75 ?hg (N := 7) ?hd (xs := ([] : List (S75))) (inner := []) (ok := fun _ => True) (okp := fun _ => True) ?hr ?hp (fun _ hk => hk) trivial (Below.refl _ _) (Nat.le_refl _) (by simp) ?_; (case hd => rfl); (case hg => rfl); (case hr => first | (go_simp; done) | (go_simp; rfl)); (case hp => exact (Reps.none _ _))
    intro b9 w9 b3 hb hg_ hnew_
    clear hg_ hnew_
    (first | rw [← c8.out] at b3 | (simp only [Int.reduceToNat] at b3; rw [← c8.out] at b3))
    have a6 := Aside0.mk (Kd.R_lower (Kd.R_new' b3 (Kd.R_lt (kR a8))) (below_size (bb HB)))
    replace a8 := Aside0.mk (Kd.R_elder' (kR a8) (Kd.R_base b3) hb)
    replace a2 := bkb a2 hb
    replace a3 := bkb a3 hb
    replace HB := bstep HB hb
    clear hb b3
    refine hK.out _ _ ⟨bc a2 0, bc a2 1⟩ (fun hHeld => ?_)
    clear hK K
    refine norm_ (a' := ?_) ?_ ?_
    rotate_left
    ·show Act.put _ (some 7) _ = _
     simp only [Act.put, List.setIfInBounds_toArray, List.set_cons_zero, List.set_cons_succ, i64_w, i32_w]
     rfl
    refine one_ (i := 3) (N := some 6) #[true, true, true, true, true, true, true, false, false, false] rfl rfl (one_of HT_.out (by kernel_rfl)) (by decide) (fun K hK => ?_)
    refine Kd.R_append_rows_step k75 (w0 := w) w.heap.size (by rfl) (.tmp 3) (.tmp 5) 44 75 (.agg #[(.int .i64 0), (.int .i64 0), (.int .i64 0), (.int .i64 0)]) 32 rfl Tryz.underlying44 info75 rfl (by decide) (by omega) c6 b4 a5 _ _ _ (fun k_ => some k_ ≠ (b9 : Value).ownBlock) (fun _ => False) rfl rfl ?aO ?aR (fun _ _ h => h) (fun _ h => h.elim) ?aF ?aB ?aS ?aL ?_
    (case aR => exact cb e0 HB)
    (case aB => exact (bb HB))
    (case aF => exact (fun k_ hk => Kd.fresh' (Kd.R_lt (kR a6)) k_ hk))
    (case aO => exact (by (with_reducible repeat (first | apply Kd.R_alloc | apply Kd.R_drewN | apply Kd.R_drew)); exact Kd.R_mono a8.out (fun _ hk => hk.2)))
    (case aS => exact (below_size (bb HB)))
    (case aL => have := e5.out; omega)
    intro c4 j3 ho hb hg hat
    rw [← d9.out] at ho
    replace a2 := Aside0.mk (blk_grown (g := b1) (o := .cells #[.slice b8 a5.length b6, .slice b7 a4.length b5] 46 (0, 0)) (bk a2) hg (Kd.R_ne a8.out a2.out (by decide)))
    replace a3 := Aside0.mk (blk_grown (g := a7) (o := .cells #[.slice none 0 0, .slice none 0 0] 46 (0, 0)) (bk a3) hg (Kd.R_ne a8.out a3.out (by decide)))
    replace a6 := Aside0.mk (Kd.R_after (ok := (fun _ => True)) (kR a6) hg hat)
    replace HB := Aside0.mk (hb)
    have b0 := Aside0.mk (ho)
    clear a8 ho hb hg hat
    refine hK.out _ _ ⟨bc a2 0, bc a2 1⟩ (fun hHeld => ?_)
    clear hK K
    refine norm_ (a' := ?_) ?_ ?_
    rotate_left
    ·show Act.put _ (some 6) _ = _
     simp only [Act.put, List.setIfInBounds_toArray, List.set_cons_zero, List.set_cons_succ, i64_w, i32_w]
     rfl
    exact norm_ (by simp only [putAll, Act.put, List.setIfInBounds_toArray, List.set_cons_zero, List.set_cons_succ]) (hCont (c6, c4, b9) _ ⟨hHeld, (kR b0), (by (with_reducible repeat (first | apply Kd.R_alloc | apply Kd.R_drewN | apply Kd.R_drew)); exact Kd.R_mono a6.out (fun _ hk => hk.2)), (bk a2), (bk a3), (bb HB)⟩)
  ·skip
   refine Kd.R_lit_step k75 _ 75 ?hg (N := 7) ?hd (xs := ([] : List (S75))) (inner := []) (ok := fun _ => True) (okp := fun _ => True) ?hr ?hp (fun _ hk => hk) trivial (Below.refl _ _) (Nat.le_refl _) (by simp) ?_; (case hd => rfl); (case hg => rfl); (case hr => first | (go_simp; done) | (go_simp; rfl)); (case hp => exact (Reps.none _ _))
   intro b9 w7 c7 hb hg_ hnew_
   clear hg_ hnew_
   (first | rw [← c8.out] at c7 | (simp only [Int.reduceToNat] at c7; rw [← c8.out] at c7))
   have a6 := Aside0.mk (Kd.R_lower c7 (below_size (bb HB)))
   replace a2 := bkb a2 hb
   replace a3 := bkb a3 hb
   replace HB := bstep HB hb
   clear hb c7
   refine hK.out _ _ ⟨bc a2 0, bc a2 1⟩ (fun hHeld => ?_)
   clear hK K
   refine norm_ (a' := ?_) ?_ ?_
   rotate_left
   ·show Act.put _ (some 7) _ = _
    simp only [Act.put, List.setIfInBounds_toArray, List.set_cons_zero, List.set_cons_succ, i64_w, i32_w]
    rfl
   refine one_ (i := 0) (N := some 3) #[true, true, true, false, true, true, true, false, false, false] rfl rfl (one_of HT_.out (by kernel_rfl)) (by decide) (fun K hK => ?_)
   refine Kd.R_lit_step k75 _ 75 ?hg (N := 3) ?hd (xs := ([] : List (S75))) (inner := []) (ok := fun _ => True) (okp := fun _ => True) ?hr ?hp (fun _ hk => hk) trivial (Below.refl _ _) (Nat.le_refl _) (by simp) ?_; (case hd => rfl); (case hg => rfl); (case hr => first | (go_simp; done) | (go_simp; rfl)); (case hp => exact (Reps.none _ _))
   intro c6 w9 b3 hb hg_ hnew_
   clear hg_ hnew_
   (first | rw [← d5.out] at b3 | (simp only [Int.reduceToNat] at b3; rw [← d5.out] at b3))
   have a8 := Aside0.mk (Kd.R_lower (Kd.R_new' b3 (Kd.R_lt (kR a6))) (below_size (bb HB)))
   replace a6 := Aside0.mk (Kd.R_elder' (kR a6) (Kd.R_base b3) hb)
   replace a2 := bkb a2 hb
   replace a3 := bkb a3 hb
   replace HB := bstep HB hb
   clear hb b3
   refine hK.out _ _ ⟨bc a2 0, bc a2 1⟩ (fun hHeld => ?_)
   clear hK K
   refine norm_ (a' := ?_) ?_ ?_
   rotate_left
   ·show Act.put _ (some 3) _ = _
    simp only [Act.put, List.setIfInBounds_toArray, List.set_cons_zero, List.set_cons_succ, i64_w, i32_w]
    rfl
   refine one_ (i := 3) (N := some 6) #[true, true, true, true, true, true, true, false, false, false] rfl rfl (one_of HT_.out (by kernel_rfl)) (by decide) (fun K hK => ?_)
   refine Kd.R_append_rows_step k75 (w0 := w) w.heap.size (by rfl) (.tmp 3) (.tmp 5) 44 75 (.agg #[(.int .i64 0), (.int .i64 0), (.int .i64 0), (.int .i64 0)]) 32 rfl Tryz.underlying44 info75 rfl (by decide) (by omega) c6 b4 a5 _ _ _ (fun k_ => some k_ ≠ (b9 : Value).ownBlock) (fun _ => False) rfl rfl ?aO ?aR (fun _ _ h => h) (fun _ h => h.elim) ?aF ?aB ?aS ?aL ?_
   (case aR => exact cb e0 HB)
   (case aB => exact (bb HB))
   (case aF => exact (fun k_ hk => Kd.fresh' (Kd.R_lt (kR a6)) k_ hk))
   (case aO => exact (by (with_reducible repeat (first | apply Kd.R_alloc | apply Kd.R_drewN | apply Kd.R_drew)); exact Kd.R_mono a8.out (fun _ hk => hk.2)))
   (case aS => exact (below_size (bb HB)))
   (case aL => have := e5.out; omega)
   intro c4 j3 ho hb hg hat
   rw [← d9.out] at ho
   replace a2 := Aside0.mk (blk_grown (g := b1) (o := .cells #[.slice b8 a5.length b6, .slice b7 a4.length b5] 46 (0, 0)) (bk a2) hg (Kd.R_ne a8.out a2.out (by decide)))
   replace a3 := Aside0.mk (blk_grown (g := a7) (o := .cells #[.slice none 0 0, .slice none 0 0] 46 (0, 0)) (bk a3) hg (Kd.R_ne a8.out a3.out (by decide)))
   replace a6 := Aside0.mk (Kd.R_after (ok := (fun _ => True)) (kR a6) hg hat)
   replace HB := Aside0.mk (hb)
   have b0 := Aside0.mk (ho)
   clear a8 ho hb hg hat
   refine hK.out _ _ ⟨bc a2 0, bc a2 1⟩ (fun hHeld => ?_)
   clear hK K
   refine norm_ (a' := ?_) ?_ ?_
   rotate_left
   ·show Act.put _ (some 6) _ = _
    simp only [Act.put, List.setIfInBounds_toArray, List.set_cons_zero, List.set_cons_succ, i64_w, i32_w]
    rfl
   exact norm_ (by simp only [putAll, Act.put, List.setIfInBounds_toArray, List.set_cons_zero, List.set_cons_succ]) (hCont (c6, c4, b9) _ ⟨hHeld, (kR b0), (by (with_reducible repeat (first | apply Kd.R_alloc | apply Kd.R_drewN | apply Kd.R_drew)); exact Kd.R_mono a6.out (fun _ hk => hk.2)), (bk a2), (bk a3), (bb HB)⟩)
 rintro ⟨c6, c4, b9⟩ d6 ⟨hS_, h0_, h1_, h2_, h3_, h4_⟩
 have b0 : Aside0 (Kd.R k75 75 d6 w.heap.size (fun k_ => some k_ ≠ (b9 : Value).ownBlock) c4 c5) := ⟨h0_⟩
 have a6 : Aside0 (Kd.R k75 75 d6 w.heap.size (fun k_ => some k_ ≠ (c4 : Value).ownBlock) b9 a9) := ⟨h1_⟩
 replace a2 : Aside0 (d6.heap[b1]? = some (.cells #[.slice b8 a5.length b6, .slice b7 a4.length b5] 46 (0, 0))) := ⟨h2_⟩
 replace a3 : Aside0 (d6.heap[a7]? = some (.cells #[.slice none 0 0, .slice none 0 0] 46 (0, 0))) := ⟨h3_⟩
 replace HB : Aside0 (Below w.heap.size w d6) := ⟨h4_⟩
 clear h0_ h1_ h2_ h3_ h4_
 have hHeld : d6.cell? ⟨b1, 0, none⟩ = some (.slice b8 a5.length b6) ∧ d6.cell? ⟨b1, 1, none⟩ = some (.slice b7 a4.length b5) := hS_
 refine norm_ (a' := ?_) ?_ ?_
 rotate_left
 ·simp only [putAll, Act.put, List.setIfInBounds_toArray, List.set_cons_zero, List.set_cons_succ]
  rfl
 refine one_ (i := 7) (N := some 10) #[true, true, true, true, true, true, true, true, false, false] rfl rfl (one_of HT_.out (by kernel_rfl)) (by decide) (fun K hK => ?_)
 refine Kd.R_append_rows_step k75 (w0 := w) w.heap.size (by rfl) (.tmp 7) (.tmp 9) 44 75 (.agg #[(.int .i64 0), (.int .i64 0), (.int .i64 0), (.int .i64 0)]) 32 rfl Tryz.underlying44 info75 rfl (by decide) (by omega) b9 a9 a4 _ _ _ (fun k_ => some k_ ≠ (c4 : Value).ownBlock) (fun _ => False) rfl rfl ?aO ?aR (fun _ _ h => h) (fun _ h => h.elim) ?aF ?aB ?aS ?aL ?_
 (case aR => exact cb g7 HB)
 (case aB => exact (bb HB))
 (case aF => exact (fun k_ hk => Kd.fresh' (Kd.R_lt (kR b0)) k_ hk))
 (case aO => exact (kR a6))
 (case aS => exact (below_size (bb HB)))
 (case aL => have := h4.out; omega)
 intro m3 g8 ho hb hg hat
 rw [← g6.out] at ho
 replace a2 := Aside0.mk (blk_grown (g := b1) (o := .cells #[.slice b8 a5.length b6, .slice b7 a4.length b5] 46 (0, 0)) (bk a2) hg (Kd.R_ne a6.out a2.out (by decide)))
 replace a3 := Aside0.mk (blk_grown (g := a7) (o := .cells #[.slice none 0 0, .slice none 0 0] 46 (0, 0)) (bk a3) hg (Kd.R_ne a6.out a3.out (by decide)))
 replace b0 := Aside0.mk (Kd.R_after (ok := (fun _ => True)) (by (with_reducible repeat (first | apply Kd.R_alloc | apply Kd.R_drewN | apply Kd.R_drew)); exact Kd.R_mono b0.out (fun _ hk => ⟨trivial, hk⟩)) hg hat)
 replace HB := Aside0.mk (hb)
 have g2 := Aside0.mk (ho)
 clear a6 ho hb hg hat
 obtain ⟨e7, e4, eo14⟩ := Kd.R_slice g2.out
 (first | subst eo14 | (injection eo14 with f1_ f2_ f3_; have f4_ := f1_.symm; have f5_ := f3_.symm; clear f1_ f2_ f3_; subst f4_; subst f5_))
 obtain ⟨e6, e3, eo15⟩ := Kd.R_slice b0.out
 (first | subst eo15 | (injection eo15 with f1_ f2_ f3_; have f4_ := f1_.symm; have f5_ := f3_.symm; clear f1_ f2_ f3_; subst f4_; subst f5_))
 refine hK.out _ _ ⟨bc a2 0, bc a2 1⟩ (fun hHeld => ?_)
 clear hK K
 refine norm_ (a' := ?_) ?_ ?_
 rotate_left
 ·show Act.put _ (some 10) _ = _
  simp only [Act.put, List.setIfInBounds_toArray, List.set_cons_zero, List.set_cons_succ, i64_w, i32_w]
  rfl
 refine pu 8 11 (bits 10 0x1ff) HT_ (h := ?_)
 refine one_ (i := 9) (N := none) #[true, true, true, true, true, true, true, true, true, true] rfl rfl (one_of HT_.out (by kernel_rfl)) (by decide) (fun K hK => ?_)
 have m5 : g8.cell? ⟨a7, 0, none⟩ = some (.slice none 0 0) := bc a3 0
 have j6 := blk_frozen a3.out 0
 have j0 := b2.out
 have j2 := d4.out
 have m4 : g8.cell? ⟨a7, 1, none⟩ = some (.slice none 0 0) := bc a3 1
 have j5 := blk_frozen a3.out 1
 have h9 := b2.out
 have j1 := d4.out
 refine skip_ (w1 := ?_) (by rfl) rfl ?_ ?_
 rotate_left
 ·go_simp
  rfl
 refine hK.out _ _ ⟨((cell_far (p := ⟨a7, _, none⟩) b2.out _).trans (((cell_far (p := ⟨a7, _, none⟩) b2.out _).trans (hHeld.1)))), ((cell_far (p := ⟨a7, _, none⟩) b2.out _).trans (((cell_far (p := ⟨a7, _, none⟩) b2.out _).trans (hHeld.2))))⟩ (fun hHeld => ?_)
 clear hK K
 refine done_ (done_of HT_.out (by kernel_rfl)) ?_
 try go_wp2
 refine bodyPost_ret (results_cell_row rfl _ _ a7 46 #[.slice e6 c5.length e3, .slice e7 d7.length e4] (0, 0) _ rfl (bkP a3) Tryz.underlying46 rfl (by kernel_rfl)) rfl ?_
 exact ⟨_, _, erf, by (with_reducible repeat (first | apply Kd.R_alloc | apply Kd.R_drewN | apply Kd.R_drew)); exact Kd.R_mono (Kd.R_far (p := ⟨a7, 1, none⟩) (Kd.R_far (p := ⟨a7, 0, none⟩) (Kd.R_types b0.out a3.out (by decide)) (fun _ hk => hk.2) (.slice e6 c5.length e3)) (fun _ hk => hk.2) (.slice e7 d7.length e4)) (fun _ hk => hk.1.2), by (with_reducible repeat (first | apply Kd.R_alloc | apply Kd.R_drewN | apply Kd.R_drew)); exact Kd.R_mono (Kd.R_far (p := ⟨a7, 1, none⟩) (Kd.R_far (p := ⟨a7, 0, none⟩) (Kd.R_types g2.out a3.out (by decide)) (fun _ hk => hk.2) (.slice e6 c5.length e3)) (fun _ hk => hk.2) (.slice e7 d7.length e4)) (fun _ hk => hk.1), bb HB⟩
def scarfjointref18_is.f (a0 : Int) (a1 : Int) : Option (Bool) := if a0 ≥ 0 then (some (decide (a0 < a1))) else (some false)
theorem scarfjointref18_is.calls (a0 : Int) (a1 : Int) (r : Bool) (w : World) (h : scarfjointref18_is.f a0 a1 = some r) :
  Calls Tryz.prog 60 #[.int .i64 a0, .int .i64 a1] w fun e w' => e = .returned (.bool r) ∧ Drawn0 w w' := by
 have H : (if a0 ≥ 0 then (some (decide (a0 < a1))) else (some false)) = some r := h
 clear h
 by_cases c3 : a0 ≥ 0
 ·rw [if_pos c3] at H
  have g5 : decide (0 ≤ a0) = true := decide_eq_true c3
  clear c3
  obtain rfl := Option.some.inj H
  go_enter Tryz.func60, Tryz.ntmps60
  go_wp2
  go_ret
  exact ⟨by first | rfl | (simp; done) | (simp [*]; done), drw⟩
 rw [if_neg c3] at H
 have g5 : decide (0 ≤ a0) = false := decide_eq_false c3
 clear c3
 obtain rfl := Option.some.inj H
 go_enter Tryz.func60, Tryz.ntmps60
 go_wp2
 go_ret
 exact ⟨by first | rfl | (simp; done) | (simp [*]; done), drw⟩
def scarfjointref18_total.l0 : Nat → List (S75) → Int → Int → Option (Int)
 | 0, _, _, _ => none
 | k + 1, x0, x3, x4 => if x4 < (x0.length : Int) then (if 0 ≤ x4 then (scarfjointref18_total.l0 k x0 (wrap64 (x3 + ((rd_T75 x0 x4).f3))) (wrap64 (x4 + 1))) else (none)) else (some x3)
def scarfjointref18_total.f (k : Nat) (l0 : List (S75)) : Option (Int) := scarfjointref18_total.l0 k l0 0 0
theorem scarfjointref18_total.calls (k : Nat) (A0 : Option Addr) (c0 : Nat) (l0 : List (S75)) (r : Int) (w : World) (g9 : Kd.C k75 w A0 l0.length l0) (h0 : l0.length ≤ c0) (h : scarfjointref18_total.f k l0 = some r) :
  Calls Tryz.prog 64 #[.slice A0 l0.length c0] w fun e w' => e = .returned (.int .i64 r) ∧ Drawn0 w w' := by
 have j4 := Aside0.mk g9
 have m7 := Aside0.mk h0
 clear g9 h0
 have H : (scarfjointref18_total.l0 k l0 0 0) = some r := h
 clear h
 have H' := Aside0.mk H
 clear H
 go_enter Tryz.func64, Tryz.ntmps64
 go_wp2
 go_loopg [3, 4] k (fun kq v3 v4 w' => ∃ (d8 : Int) (c1 : Int), v3 = .int .i64 d8 ∧ v4 = .int .i64 c1 ∧ Aside0 (scarfjointref18_total.l0 kq l0 d8 c1 = some r) ∧ Aside0 (kq ≤ k) ∧ Drawn0 w w')
 case atStart => exact ⟨(0), (0), eqs, eqs, H', ⟨Nat.le_refl _⟩, drw⟩
 case round =>
  clear H'
  obtain ⟨d8, c1, rfl, rfl, HA, h1, ⟨m1, rfl⟩⟩ := hrel
  cases gk with
  | zero => exact absurd HA.out (by simp [scarfjointref18_total.l0])
  | succ k1 =>
   have H := HA.out
   clear HA
   simp only [scarfjointref18_total.l0] at H
   by_cases c2 : c1 < (l0.length : Int)
   rotate_left
   ·rw [if_neg c2] at H
    have h3 := decide_eq_false c2
    clear c2
    obtain rfl := Option.some.inj H
    go_wp2
    go_ret
    exact ⟨by first | rfl | (simp; done) | (simp [*]; done), drw⟩
   rw [if_pos c2] at H
   have h3 := decide_eq_true c2
   clear c2
   obtain ⟨c3, H⟩ := itn H
   have g5 := decide_eq_true c3
   clear c3
   have H' := Aside0.mk H
   clear H
   have e2 : 0 ≤ c1 := odt
   have e1 : c1 < (l0.length : Int) := odt
   obtain ⟨j7, h2, h8, h7, h6, h5⟩ := at_T75 j4.out c1 e2 e1
   cases h2
   replace e2 := eq_true e2
   replace e1 := eq_true e1
   go_wp2
   go_roundg k1
   case measure => have := h1.out; omega
   case rel => exact ⟨(wrap64 (d8 + ((rd_T75 l0 c1).f3))), (wrap64 (c1 + 1)), eqs, eqs, H', ⟨by have := h1.out; omega⟩, drw⟩
def scarfjointref18_number.l0 : Nat → List (S75) → Int → Int → Int → Int → Int → Option (Int)
 | 0, _, _, _, _, _, _ => none
 | k + 1, x0, x5, b5, b4, b3, b2 => if x5 < (x0.length : Int) then (if 0 ≤ x5 then ((scarfjointref18_compare.f ((rd_T75 x0 x5).f0) ((rd_T75 x0 x5).f1) ((rd_T75 x0 x5).f2) ((rd_T75 x0 x5).f3) b5 b4 b3 b2).bind fun c8 => (if c8 = 0 then (some ((rd_T75 x0 x5).f3)) else (scarfjointref18_number.l0 k x0 (wrap64 (x5 + 1)) b5 b4 b3 b2))) else (none)) else (some 0)
def scarfjointref18_number.f (k : Nat) (l0 : List (S75)) (a6 : Int) (a5 : Int) (a4 : Int) (a3 : Int) : Option (Int) := scarfjointref18_number.l0 k l0 0 a6 a5 a4 a3
theorem scarfjointref18_number.calls (k : Nat) (A0 : Option Addr) (c0 : Nat) (l0 : List (S75)) (a6 : Int) (a5 : Int) (a4 : Int) (a3 : Int) (r : Int) (w : World) (d4 : Kd.C k75 w A0 l0.length l0) (d5 : l0.length ≤ c0) (h : scarfjointref18_number.f k l0 a6 a5 a4 a3 = some r) :
  Calls Tryz.prog 66 #[.slice A0 l0.length c0, .agg #[.int .i64 a6, .int .i64 a5, .int .i64 a4, .int .i64 a3]] w fun e w' => e = .returned (.int .i64 r) ∧ Below w.heap.size w w' := by
 have hu75 := Tryz.underlying75
 have d6 := Aside0.mk d4
 have e7 := Aside0.mk d5
 clear d4 d5
 have HB := Aside0.mk (Below.refl w.heap.size w)
 have H : (scarfjointref18_number.l0 k l0 0 a6 a5 a4 a3) = some r := h
 clear h
 have H' := Aside0.mk H
 clear H
 go_enter Tryz.func66, Tryz.ntmps66
 go_wp2_with (first | ((with_reducible refine gate_dst (N := 3) rfl ?_); refine be 3 #[.int .i64 a6, .int .i64 a5, .int .i64 a4, .int .i64 a3] 75 ?_; intro b1 hg w3 hbox hb; have a1 := Aside0.mk (hbox); have e3 := bsz HB hg; replace HB := bstep HB hb; clear hb hbox hg))
 go_loopg [5] k (fun kq v5 w' => ∃ (a0 : Int), v5 = .int .i64 a0 ∧ Aside0 (scarfjointref18_number.l0 kq l0 a0 a6 a5 a4 a3 = some r) ∧ Aside0 (kq ≤ k) ∧ Aside0 (w'.heap[b1]? = some (.cells #[.int .i64 a6, .int .i64 a5, .int .i64 a4, .int .i64 a3] 75 (0, 0))) ∧ Aside0 (Below w.heap.size w w'))
 case atStart => exact ⟨(0), eqs, H', ⟨Nat.le_refl _⟩, ⟨bk a1⟩, ⟨bb HB⟩⟩
 case round =>
  clear H'
  obtain ⟨a0, rfl, HA, d7, a1, HB⟩ := hrel
  cases gk with
  | zero => exact absurd HA.out (by simp [scarfjointref18_number.l0])
  | succ k1 =>
   have H := HA.out
   clear HA
   simp only [scarfjointref18_number.l0] at H
   by_cases c4 : a0 < (l0.length : Int)
   rotate_left
   ·rw [if_neg c4] at H
    have e2 := decide_eq_false c4
    clear c4
    obtain rfl := Option.some.inj H
    go_wp2
    go_ret
    exact ⟨erf, bb HB⟩
   rw [if_pos c4] at H
   have e2 := decide_eq_true c4
   clear c4
   obtain ⟨c5, H⟩ := itn H
   have e4 := decide_eq_true c5
   clear c5
   obtain ⟨c8, A6, H⟩ := obA H
   by_cases c7 : c8 = 0
   rw [if_pos c7] at H
   have e1 := beq_iff_eq.mpr c7
   have e0 := bne_eq_false_iff_eq.mpr c7
   clear c7
   obtain rfl := Option.some.inj H
   rotate_left
   rw [if_neg c7] at H
   have e1 := beq_eq_false_iff_ne.mpr c7
   have e0 := bne_iff_ne.mpr c7
   have H' := Aside0.mk H
   clear H
   all_goals
    try go_wp2
    replace a1 := Aside0.mk (blk_drew a1.out)
    replace HB := Aside0.mk (below_drew1 HB.out)
    have d2 : 0 ≤ a0 := odt
    have d0 : a0 < (l0.length : Int) := odt
    obtain ⟨a2, d9, b0, a9, a8, a7⟩ := at_T75 d6.out a0 d2 d0
    have c1 := a7
    have c2 := a8
    have c3 := a9
    have c6 := b0
    cases d9
    replace b0 := hxc HB b0
    replace a9 := hxc HB a9
    replace a8 := hxc HB a8
    replace a7 := hxc HB a7
    replace d2 := eq_true d2
    replace d0 := eq_true d0
    refine start_ (n := 7) (S := fun w' => w'.cell? ⟨b1, 0, none⟩ = some (.int .i64 a6) ∧ w'.cell? ⟨b1, 1, none⟩ = some (.int .i64 a5) ∧ w'.cell? ⟨b1, 2, none⟩ = some (.int .i64 a4) ∧ w'.cell? ⟨b1, 3, none⟩ = some (.int .i64 a3) ∧ w'.cell? (a2.add ((a0).toNat * 4)) = some (.int .i64 ((rd_T75 l0 a0).f0)) ∧ w'.cell? ⟨(a2.add ((a0).toNat * 4)).block, (a2.add ((a0).toNat * 4)).off + 1, none⟩ = some (.int .i64 ((rd_T75 l0 a0).f1)) ∧ w'.cell? ⟨(a2.add ((a0).toNat * 4)).block, (a2.add ((a0).toNat * 4)).off + 2, none⟩ = some (.int .i64 ((rd_T75 l0 a0).f2)) ∧ w'.cell? ⟨(a2.add ((a0).toNat * 4)).block, (a2.add ((a0).toNat * 4)).off + 3, none⟩ = some (.int .i64 ((rd_T75 l0 a0).f3))) (ds := []) #[false, false, false, false, false, false, false] (by kernel_rfl) rfl rfl ⟨bc a1 0, bc a1 1, bc a1 2, bc a1 3, (hxc HB c6), (hxc HB c3), (hxc HB c2), (hxc HB c1)⟩ (fun hHeld => ?_)
    generalize wr.drew = e6 at a1 HB b0 a9 a8 a7 hHeld ⊢
    refine pure_ (i := 0) (N := some 12) (v := ?_) (a' := ?_) #[true, false, false, false, false, false, false] rfl rfl (by kernel_rfl) (fun _ _ _ h => h) (Or.inl ⟨by rfl, ?_⟩) ?_ ?_
    rotate_left
    ·intro w'
     go_simp
     with_reducible rfl
    rotate_left
    ·simp only [Act.put, List.setIfInBounds_toArray, List.set_cons_zero, List.set_cons_succ, i64_w, i32_w]
     rfl
    refine pure_ (i := 1) (N := some 13) (v := ?_) (a' := ?_) #[true, true, false, false, false, false, false] rfl rfl (by kernel_rfl) (fun _ _ _ h => h) (Or.inl ⟨by rfl, ?_⟩) ?_ ?_
    rotate_left
    ·intro w'
     go_simp
     with_reducible rfl
    rotate_left
    ·simp only [Act.put, List.setIfInBounds_toArray, List.set_cons_zero, List.set_cons_succ, i64_w, i32_w]
     rfl
    refine pure_ (i := 2) (N := some 14) (v := ?_) (a' := ?_) #[true, true, true, false, false, false, false] rfl rfl (by kernel_rfl) (fun _ _ _ h => h) (Or.inl ⟨by rfl, ?_⟩) ?_ ?_
    rotate_left
    ·intro w'
     go_simp
     with_reducible rfl
    rotate_left
    ·simp only [Act.put, List.setIfInBounds_toArray, List.set_cons_zero, List.set_cons_succ, i64_w, i32_w]
     rfl
    refine take_ (i := 3) (N := some 15) (v := ?_) (a' := ?_) #[true, true, true, true, false, false, false] rfl rfl (by kernel_rfl) (fun _ _ _ h => h) (Or.inl ⟨by rfl, ?_⟩) hHeld ?_ ?_
    rotate_left
    ·rintro w' ⟨s0, s1, s2, s3, s4, s5, s6, s7⟩
     go_simp
     with_reducible rfl
    rotate_left
    ·simp only [Act.put, List.setIfInBounds_toArray, List.set_cons_zero, List.set_cons_succ, i64_w, i32_w]
     rfl
    refine take_ (i := 4) (N := some 16) (v := ?_) (a' := ?_) #[true, true, true, true, true, false, false] rfl rfl (by kernel_rfl) (fun _ _ _ h => h) (Or.inl ⟨by rfl, ?_⟩) hHeld ?_ ?_
    rotate_left
    ·rintro w' ⟨s0, s1, s2, s3, s4, s5, s6, s7⟩
     go_simp
     with_reducible rfl
    rotate_left
    ·simp only [Act.put, List.setIfInBounds_toArray, List.set_cons_zero, List.set_cons_succ, i64_w, i32_w]
     rfl
    refine one_ (i := 5) (N := some 17) #[true, true, true, true, true, true, false] rfl rfl (by kernel_rfl) (by decide) (fun K hK => ?_)
    refine goes_ Tryz.func63 (by kernel_rfl) rfl #[.agg #[.int .i64 ((rd_T75 l0 a0).f0), .int .i64 ((rd_T75 l0 a0).f1), .int .i64 ((rd_T75 l0 a0).f2), .int .i64 ((rd_T75 l0 a0).f3)], .agg #[.int .i64 a6, .int .i64 a5, .int .i64 a4, .int .i64 a3]] (by rfl) rfl rfl (by (try simp only [List.map_toArray, List.map_cons, List.map_nil]); first | done | rfl | (simp only [List.length_drop, List.length_take]; rfl)) ?_
    with_reducible refine (scarfjointref18_compare.calls _ _ _ _ _ _ _ _ _ _ A6.out).mono ?_
    rintro e e5 ⟨rfl, hb⟩
    refine ⟨_, rfl, ?_⟩
    replace a1 := bkb a1 hb
    replace HB := bstep HB hb
    (try clear hb)
    (try clear hb2)
    (try clear hk)
    (try clear hi)
    refine hK.out _ _ ⟨bc a1 0, bc a1 1, bc a1 2, bc a1 3, (hxc HB c6), (hxc HB c3), (hxc HB c2), (hxc HB c1)⟩ (fun hHeld => ?_)
    clear hK K
    refine norm_ (a' := ?_) ?_ ?_
    rotate_left
    ·show Act.put _ (some 17) _ = _
     simp only [Act.put, List.setIfInBounds_toArray, List.set_cons_zero, List.set_cons_succ, i64_w, i32_w]
     rfl
    refine pure_ (i := 6) (N := some 18) (v := ?_) (a' := ?_) #[true, true, true, true, true, true, true] rfl rfl (by kernel_rfl) (fun _ _ _ h => h) (Or.inl ⟨by rfl, ?_⟩) ?_ ?_
    rotate_left
    ·intro w'
     go_simp
     with_reducible rfl
    rotate_left
    ·simp only [Act.put, List.setIfInBounds_toArray, List.set_cons_zero, List.set_cons_succ, i64_w, i32_w]
     rfl
    refine done_ (by kernel_rfl) ?_
   ·try go_wp2
    go_roundg k1
    case measure => have := d7.out; omega
    case rel => exact ⟨(wrap64 (a0 + 1)), eqs, H', ⟨by have := d7.out; omega⟩, ⟨bk a1⟩, ⟨bb HB⟩⟩
   ·have d1 : 0 ≤ a0 := odt
    have c9 : a0 < (l0.length : Int) := odt
    obtain ⟨d3, d8, b9, b8, b7, b6⟩ := at_T75 d6.out a0 d1 c9
    obtain rfl : a2 = d3 := (by injection d8)
    replace b9 := hxc HB b9
    replace b8 := hxc HB b8
    replace b7 := hxc HB b7
    replace b6 := hxc HB b6
    replace d1 := eq_true d1
    replace c9 := eq_true c9
    try go_wp2
    go_ret
    exact ⟨erf, bb HB⟩
mutual
def scarfjointref18_Valid.l0 : Nat → Int → List (S96) → List (S101) → List (S75) → List (S75) → Option (Int)
 | 0, _, _, _, _, _ => none
 | k + 1, x7, a7, a9, a0, a1 => if x7 < (a0.length : Int) then (if 0 ≤ x7 then ((scarfjointref18_is.f ((rd_T75 a0 x7).f0) (a7.length : Int)).bind fun q5 => (if q5 = true then (if ((rd_T75 a0 x7).f1) = 0 then (if ((rd_T75 a0 x7).f2) = 0 then (if ((rd_T75 a0 x7).f3) < 1 then (scarfjointref18_Valid.j1 k x7 true a7 a9 a0 a1 ((rd_T75 a0 x7).f0) ((rd_T75 a0 x7).f1) ((rd_T75 a0 x7).f2) ((rd_T75 a0 x7).f3)) else (scarfjointref18_Valid.j1 k x7 (decide (((rd_T75 a0 x7).f3) > 40)) a7 a9 a0 a1 ((rd_T75 a0 x7).f0) ((rd_T75 a0 x7).f1) ((rd_T75 a0 x7).f2) ((rd_T75 a0 x7).f3))) else (scarfjointref18_Valid.j1 k x7 true a7 a9 a0 a1 ((rd_T75 a0 x7).f0) ((rd_T75 a0 x7).f1) ((rd_T75 a0 x7).f2) ((rd_T75 a0 x7).f3))) else (scarfjointref18_Valid.j1 k x7 true a7 a9 a0 a1 ((rd_T75 a0 x7).f0) ((rd_T75 a0 x7).f1) ((rd_T75 a0 x7).f2) ((rd_T75 a0 x7).f3))) else (scarfjointref18_Valid.j1 k x7 true a7 a9 a0 a1 ((rd_T75 a0 x7).f0) ((rd_T75 a0 x7).f1) ((rd_T75 a0 x7).f2) ((rd_T75 a0 x7).f3)))) else (none)) else ((scarfjointref18_total.f k a0).bind fun m3 => (if m3 > 40 then (some 3) else (scarfjointref18_Valid.l1 k 0 a7 a9 a0 a1)))
def scarfjointref18_Valid.j1 : Nat → Int → Bool → List (S96) → List (S101) → List (S75) → List (S75) → Int → Int → Int → Int → Option (Int)
 | 0, _, _, _, _, _, _, _, _, _, _ => none
 | k + 1, x7, M4, a7, a9, a0, a1, w9, w8, w7, w6 => if M4 = true then (some 6) else (if x7 > 0 then (if 0 ≤ (wrap64 (x7 - 1)) then (if (wrap64 (x7 - 1)) < (a0.length : Int) then ((scarfjointref18_compare.f ((rd_T75 a0 (wrap64 (x7 - 1))).f0) ((rd_T75 a0 (wrap64 (x7 - 1))).f1) ((rd_T75 a0 (wrap64 (x7 - 1))).f2) ((rd_T75 a0 (wrap64 (x7 - 1))).f3) w9 w8 w7 w6).bind fun g3 => (if g3 ≥ 0 then (some 12) else (scarfjointref18_Valid.l0 k (wrap64 (x7 + 1)) a7 a9 a0 a1))) else (none)) else (none)) else (scarfjointref18_Valid.l0 k (wrap64 (x7 + 1)) a7 a9 a0 a1))
def scarfjointref18_Valid.l1 : Nat → Int → List (S96) → List (S101) → List (S75) → List (S75) → Option (Int)
 | 0, _, _, _, _, _ => none
 | k + 1, x9, a7, a9, a0, a1 => if x9 < (a1.length : Int) then (if 0 ≤ x9 then ((scarfjointref18_is.f ((rd_T75 a1 x9).f0) (a9.length : Int)).bind fun q4 => (if q4 = true then ((scarfjointref18_is.f ((rd_T75 a1 x9).f1) (a7.length : Int)).bind fun q3 => (if q3 = true then ((scarfjointref18_is.f ((rd_T75 a1 x9).f2) (a7.length : Int)).bind fun q2 => (if q2 = true then (if ((rd_T75 a1 x9).f3) < 1 then (scarfjointref18_Valid.j3 k x9 true a7 a9 a0 a1 ((rd_T75 a1 x9).f0) ((rd_T75 a1 x9).f1) ((rd_T75 a1 x9).f2) ((rd_T75 a1 x9).f3)) else (scarfjointref18_Valid.j3 k x9 (decide (((rd_T75 a1 x9).f3) > 80)) a7 a9 a0 a1 ((rd_T75 a1 x9).f0) ((rd_T75 a1 x9).f1) ((rd_T75 a1 x9).f2) ((rd_T75 a1 x9).f3))) else (scarfjointref18_Valid.j3 k x9 true a7 a9 a0 a1 ((rd_T75 a1 x9).f0) ((rd_T75 a1 x9).f1) ((rd_T75 a1 x9).f2) ((rd_T75 a1 x9).f3)))) else (scarfjointref18_Valid.j3 k x9 true a7 a9 a0 a1 ((rd_T75 a1 x9).f0) ((rd_T75 a1 x9).f1) ((rd_T75 a1 x9).f2) ((rd_T75 a1 x9).f3)))) else (scarfjointref18_Valid.j3 k x9 true a7 a9 a0 a1 ((rd_T75 a1 x9).f0) ((rd_T75 a1 x9).f1) ((rd_T75 a1 x9).f2) ((rd_T75 a1 x9).f3)))) else (none)) else ((scarfjointref18_total.f k a1).bind fun m2 => (if m2 > 80 then (some 3) else (some 0)))
def scarfjointref18_Valid.j3 : Nat → Int → Bool → List (S96) → List (S101) → List (S75) → List (S75) → Int → Int → Int → Int → Option (Int)
 | 0, _, _, _, _, _, _, _, _, _, _ => none
 | k + 1, x9, E9, a7, a9, a0, a1, d5, c3, c2, e1 => if E9 = true then (some 6) else ((q4_Fits.f k a7 a9 d5 c3 c2).bind fun q1 => (if q1 = true then ((scarfjointref18_number.f k a0 c3 0 0 0).bind fun q0 => (if q0 = 0 then (scarfjointref18_Valid.j4 k x9 true a7 a9 a0 a1 d5 c3 c2 e1) else ((scarfjointref18_number.f k a0 c2 0 0 0).bind fun C3 => (scarfjointref18_Valid.j4 k x9 (C3 == 0) a7 a9 a0 a1 d5 c3 c2 e1)))) else (some 13)))
def scarfjointref18_Valid.j4 : Nat → Int → Bool → List (S96) → List (S101) → List (S75) → List (S75) → Int → Int → Int → Int → Option (Int)
 | 0, _, _, _, _, _, _, _, _, _, _ => none
 | k + 1, x9, E8, a7, a9, a0, a1, d5, c3, c2, e1 => if E8 = true then (some 10) else (if x9 > 0 then (if 0 ≤ (wrap64 (x9 - 1)) then (if (wrap64 (x9 - 1)) < (a1.length : Int) then ((scarfjointref18_compare.f ((rd_T75 a1 (wrap64 (x9 - 1))).f0) ((rd_T75 a1 (wrap64 (x9 - 1))).f1) ((rd_T75 a1 (wrap64 (x9 - 1))).f2) ((rd_T75 a1 (wrap64 (x9 - 1))).f3) d5 c3 c2 e1).bind fun g2 => (if g2 ≥ 0 then (some 12) else (scarfjointref18_Valid.l1 k (wrap64 (x9 + 1)) a7 a9 a0 a1))) else (none)) else (none)) else (scarfjointref18_Valid.l1 k (wrap64 (x9 + 1)) a7 a9 a0 a1))
end
def scarfjointref18_Valid.f (k : Nat) (b3 : List (S96)) (b2 : List (S101)) (a5 : List (S75)) (a3 : List (S75)) : Option (Int) := (q4_Valid.f k b3 b2).bind fun h1 => (if h1.2 = 0 then (scarfjointref18_Valid.l0 k 0 b3 b2 a5 a3) else (some h1.2))
def scarfjointref18_Valid.T10 : Bool × List (List Nat × List Nat) := (true, [([], []), ([0], [0]), ([1], [1]), ([2], [2]), ([3, 2], [2, 3]), ([2], [2]), ([5, 2], [2, 5]), ([4, 6, 2], [2, 4, 6]), ([7, 2], [2, 7]), ([2], [2]), ([8, 9, 2, 2], [2, 8, 9]), ([10, 2], [2, 10]), ([2, 11], [2, 11])])
def scarfjointref18_Valid.B10 : List Nat := [0, 1, 3, 7, 15, 7, 39, 127, 255, 7, 1023, 2047, 4095]
theorem scarfjointref18_Valid.tab10 : rtab .any (opsOf Tryz.f30 10) = scarfjointref18_Valid.T10 := by kernel_rfl
theorem scarfjointref18_Valid.bits10 : waitsOk scarfjointref18_Valid.T10.2 scarfjointref18_Valid.B10 = true := by kernel_rfl
def scarfjointref18_Valid.T24 : Bool × List (List Nat × List Nat) := (true, [([], []), ([0], [0]), ([1], [1]), ([2], [2]), ([3, 2], [2, 3]), ([2], [2]), ([5, 2], [2, 5]), ([4, 6, 2], [2, 4, 6]), ([7, 2], [2, 7]), ([2], [2]), ([8, 9, 2, 2], [2, 8, 9]), ([10, 2], [2, 10]), ([2, 11], [2, 11])])
def scarfjointref18_Valid.B24 : List Nat := [0, 1, 3, 7, 15, 7, 39, 127, 255, 7, 1023, 2047, 4095]
theorem scarfjointref18_Valid.tab24 : rtab .any (opsOf Tryz.f30 24) = scarfjointref18_Valid.T24 := by kernel_rfl
theorem scarfjointref18_Valid.bits24 : waitsOk scarfjointref18_Valid.T24.2 scarfjointref18_Valid.B24 = true := by kernel_rfl
theorem scarfjointref18_Valid.calls (k : Nat) (c9 : Option Addr) (c7 : Nat) (b3 : List (S96)) (c8 : Option Addr) (c6 : Nat) (b2 : List (S101)) (d4 : Option Addr) (c0 : Nat) (a5 : List (S75)) (e0 : Option Addr) (c5 : Nat) (a3 : List (S75)) (r : Int) (w : World) (v2 : Kd.C k96 w c9 b3.length b3) (v6 : b3.length ≤ c7) (v1 : Kd.C k101 w c8 b2.length b2) (v5 : b2.length ≤ c6) (v0 : Kd.C k75 w d4 a5.length a5) (v4 : a5.length ≤ c0) (t9 : Kd.C k75 w e0 a3.length a3) (v3 : a3.length ≤ c5) (h : scarfjointref18_Valid.f k b3 b2 a5 a3 = some r) :
  Calls Tryz.prog 30 #[.agg #[.slice c9 b3.length c7, .slice c8 b2.length c6], .agg #[.slice d4 a5.length c0, .slice e0 a3.length c5]] w fun e w' => e = .returned (.int .i64 r) ∧ Below w.heap.size w w' := by
 have hu31 := Tryz.underlying31
 have hu46 := Tryz.underlying46
 have hu75 := Tryz.underlying75
 have p4 := Aside0.mk v2
 have p9 := Aside0.mk v6
 clear v2 v6
 have p3 := Aside0.mk v1
 have p8 := Aside0.mk v5
 clear v1 v5
 have h2 := Aside0.mk v0
 have p6 := Aside0.mk v4
 clear v0 v4
 have p2 := Aside0.mk t9
 have E3 := Aside0.mk v3
 clear t9 v3
 have HB := Aside0.mk (Below.refl w.heap.size w)
 have H : ((q4_Valid.f k b3 b2).bind fun h1 => (if h1.2 = 0 then (scarfjointref18_Valid.l0 k 0 b3 b2 a5 a3) else (some h1.2))) = some r := h
 clear h
 obtain ⟨⟨V2, F2⟩, A3, H⟩ := obA H
 try dsimp only at H
 by_cases c4 : F2 = 0
 rw [if_pos c4] at H
 have C5 := beq_iff_eq.mpr c4
 have C4 := bne_eq_false_iff_eq.mpr c4
 clear c4
 have H' := Aside0.mk H
 clear H
 rotate_left
 rw [if_neg c4] at H
 have C5 := beq_eq_false_iff_ne.mpr c4
 have C4 := bne_iff_ne.mpr c4
 obtain rfl := Option.some.inj H
 all_goals
  go_enter Tryz.func30, Tryz.ntmps30
  go_wp2_with (first | ((with_reducible refine gate_dst (N := 2) rfl ?_); (try (refine gate_guard (by rfl) ?_; dsimp only)); refine be 2 #[.slice c9 b3.length c7, .slice c8 b2.length c6] 31 ?_; intro g8 hg U4 hbox hb; have a4 := Aside0.mk (hbox); have U1 := bsz HB hg; replace HB := bstep HB hb; clear hb hbox hg) | ((with_reducible refine gate_dst (N := 3) rfl ?_); (try (refine gate_guard (by rfl) ?_; dsimp only)); refine be 3 #[.slice d4 a5.length c0, .slice e0 a3.length c5] 46 ?_; intro c1 hg U3 hbox hb; have a2 := Aside0.mk (hbox); have U0 := bsz HB hg; replace HB := bstep HB hb; have b7 := blt a4 hg; have b6 := bgt a4 hg; replace a4 := bkb a4 hb; clear hb hbox hg; have N7 := b7.out; have M6 := b6.out; obtain ⟨t0, r9, r2, r1⟩ := cz2 a4) | ((with_reducible refine gate_callee (f := 62) rfl ?_); refine gl 13 Tryz.func62 #[.agg #[.slice c9 b3.length c7, .slice c8 b2.length c6]] (h := ?_); (with_reducible refine (q4_Valid.calls _ _ _ _ _ _ _ _ _ _ (cb p4 HB) p9.out (cb p3 HB) p8.out A3.out).mono ?_); rintro e U2 ⟨rfl, hb⟩; refine ⟨_, rfl, ?_⟩; replace a4 := bkb a4 hb; replace a2 := bkb a2 hb; replace HB := bstep HB hb; clear hb))
 ·go_ret
  exact ⟨erf, bb HB⟩
 ·go_loopg [7] k (fun kq v7 w' => ∃ (b0 : Int), v7 = .int .i64 b0 ∧ Aside0 (scarfjointref18_Valid.l0 kq b0 b3 b2 a5 a3 = some r) ∧ Aside0 (kq ≤ k) ∧ Aside0 (w'.heap[g8]? = some (.cells #[(.slice c9 b3.length c7), (.slice c8 b2.length c6)] 31 (0, 0))) ∧ Aside0 (w'.heap[c1]? = some (.cells #[(.slice d4 a5.length c0), (.slice e0 a3.length c5)] 46 (0, 0))) ∧ Aside0 (Below w.heap.size w w'))
  case atStart => exact ⟨(0), eqs, H', ⟨Nat.le_refl _⟩, ⟨bk a4⟩, ⟨bk a2⟩, ⟨bb HB⟩⟩
  case round =>
   clear H'
   try clear C5 C4 t0 r9 r2 r1
   obtain ⟨b0, rfl, HA, d9, a4, a2, HB⟩ := hrel
   cases gk with
   | zero => exact absurd HA.out (by simp [scarfjointref18_Valid.l0])
   | succ k1 =>
    have H := HA.out
    clear HA
    simp only [scarfjointref18_Valid.l0] at H
    by_cases o3 : b0 < (a5.length : Int)
    ·rw [if_pos o3] at H
     have p1 := decide_eq_true o3
     clear o3
     obtain ⟨E7, H⟩ := itn H
     have E0 := decide_eq_true E7
     clear E7
     have t8 := Aside0.mk H
     clear H
     have R5 := b6.out
     have Q5 := b7.out
     obtain ⟨C2, C1, y7, y6⟩ := cz2 a2
     have o8 : 0 ≤ b0 := odt
     have o6 : b0 < (a5.length : Int) := odt
     obtain ⟨b9, J7, j0, h9, h8, h7⟩ := at_T75 h2.out b0 o8 o6
     cases J7
     replace j0 := hxc HB j0
     replace h9 := hxc HB h9
     replace h8 := hxc HB h8
     replace h7 := hxc HB h7
     replace o8 := eq_true o8
     replace o6 := eq_true o6
     go_upto_region 8 with (first | ((with_reducible refine gate_dst (N := 8) rfl ?_); (try (refine gate_guard (by rfl) ?_; dsimp only)); refine be 8 #[.int .i64 0, .int .i64 0, .int .i64 0, .int .i64 0] 75 ?_; intro g7 hg V7 hbox hb; have b4 := Aside0.mk (hbox); have R9 := bsz HB hg; replace HB := bstep HB hb; have m0 := blt a4 hg; have j8 := bgt a4 hg; replace a4 := bkb a4 hb; have j9 := blt a2 hg; have j7 := bgt a2 hg; replace a2 := bkb a2 hb; clear hb hbox hg; have R4 := j8.out; have Q4 := m0.out; have R3 := j7.out; have Q3 := j9.out; obtain ⟨C0, A9, A8, A7, y5, y4, y3, y2⟩ := cz4 b4))
     (try simp only [Act.put, List.setIfInBounds_toArray, List.set_cons_zero, List.set_cons_succ])
     go_cut [57] (fun M5 wc => ∃ (kq : Nat) (g5 : Bool), M5 = .bool g5 ∧ Aside0 (scarfjointref18_Valid.j1 kq b0 g5 b3 b2 a5 a3 ((rd_T75 a5 b0).f0) ((rd_T75 a5 b0).f1) ((rd_T75 a5 b0).f2) ((rd_T75 a5 b0).f3) = some r) ∧ Aside0 (kq ≤ k1) ∧ Aside0 (wc.heap[g8]? = some (.cells #[(.slice c9 b3.length c7), (.slice c8 b2.length c6)] 31 (0, 0))) ∧ Aside0 (wc.heap[c1]? = some (.cells #[(.slice (some b9) a5.length c0), (.slice e0 a3.length c5)] 46 (0, 0))) ∧ Aside0 (wc.heap[g7]? = some (.cells #[.int .i64 ((rd_T75 a5 b0).f0), .int .i64 ((rd_T75 a5 b0).f1), .int .i64 ((rd_T75 a5 b0).f2), .int .i64 ((rd_T75 a5 b0).f3)] 75 (0, 0))) ∧ Aside0 (Below w.heap.size w wc))
     case first =>
      have H := t8.out
      clear t8
      obtain ⟨q5, P5, H⟩ := obA H
      by_cases w5 : q5 = true
      subst w5
      replace H := ift H
      by_cases m5 : ((rd_T75 a5 b0).f1) = 0
      rw [if_pos m5] at H
      have h0 := beq_iff_eq.mpr m5
      have D9 := bne_eq_false_iff_eq.mpr m5
      clear m5
      (first | rw [h0] | (simp only [i64_w, i32_w]; rw [h0]) | skip)
      by_cases m4 : ((rd_T75 a5 b0).f2) = 0
      rw [if_pos m4] at H
      have D8 := beq_iff_eq.mpr m4
      have D7 := bne_eq_false_iff_eq.mpr m4
      clear m4
      by_cases o2 : ((rd_T75 a5 b0).f3) < 1
      rw [if_pos o2] at H
      have D6 := decide_eq_true o2
      clear o2
      have H' := Aside0.mk H
      clear H
      rotate_left
      rw [if_neg o2] at H
      have D6 := decide_eq_false o2
      clear o2
      have H' := Aside0.mk H
      clear H
      rotate_left
      rw [if_neg m4] at H
      have D8 := beq_eq_false_iff_ne.mpr m4
      have D7 := bne_iff_ne.mpr m4
      have H' := Aside0.mk H
      clear H
      rotate_left
      rw [if_neg m5] at H
      have h0 := beq_eq_false_iff_ne.mpr m5
      have D9 := bne_iff_ne.mpr m5
      (first | rw [h0] | (simp only [i64_w, i32_w]; rw [h0]) | skip)
      have H' := Aside0.mk H
      clear H
      rotate_left
      replace w5 := Bool.eq_false_iff.mpr w5
      subst w5
      replace H := iff_ H
      have H' := Aside0.mk H
      clear H
      all_goals
       have R2 := j8.out
       have Q2 := m0.out
       have R1 := j7.out
       have Q1 := j9.out
       obtain ⟨M3, M2, M1, M0, L7, L6, L5, L4⟩ := cz4 b4
       have R0 := b7.out
       have Q0 := b6.out
       obtain ⟨L9, L8, L3, L2⟩ := cz2 a4
       go_wp2_with (first | ((with_reducible refine gate_callee (f := 60) rfl ?_); refine gl 36 Tryz.func60 #[.int .i64 ((rd_T75 a5 b0).f0), .int .i64 (b3.length : Int)] (h := ?_); (with_reducible refine (scarfjointref18_is.calls _ _ _ _ P5.out).mono ?_); rintro e w' ⟨rfl, ⟨nd, rfl⟩⟩; refine ⟨_, rfl, ?_⟩))
       go_meet
       case rel => exact ⟨_, _, eqs, H', ⟨by have := d9.out; first | omega | exact Nat.le_refl _⟩, ⟨bkF a4⟩, ⟨bkF a2⟩, ⟨bkP b4⟩, ⟨bb HB⟩⟩
     case rest =>
      clear t8
      try clear p1 E0 C2 C1 C0 A9 A8 A7 y7 y6 y5 y4 y3 y2 j0 h9 h8 h7 o8 o6
      obtain ⟨kq, g5, rfl, HA, p5, a4, a2, b4, HB⟩ := hcut
      cases kq with
      | zero => exact absurd HA.out (by simp [scarfjointref18_Valid.j1])
      | succ r0 =>
       have H := HA.out
       clear HA
       simp only [scarfjointref18_Valid.j1] at H
       by_cases w4 : g5 = true
       ·subst w4
        replace H := ift H
        obtain rfl := Option.some.inj H
        go_wp2
        go_ret
        exact ⟨erf, bb HB⟩
       replace w4 := Bool.eq_false_iff.mpr w4
       subst w4
       replace H := iff_ H
       by_cases o1 : b0 > 0
       rotate_left
       ·rw [if_neg o1] at H
        have D5 : decide (0 < b0) = false := decide_eq_false o1
        clear o1
        have H' := Aside0.mk H
        clear H
        try go_wp2
        replace a4 := Aside0.mk (blk_drew a4.out)
        replace a2 := Aside0.mk (blk_drew a2.out)
        replace b4 := Aside0.mk (blk_drew b4.out)
        replace HB := Aside0.mk (below_drew1 HB.out)
        refine start_ (n := 13) (S := fun w' => True) (ds := []) #[false, false, false, false, false, false, false, false, false, false, false, false, false] (by kernel_rfl) rfl rfl trivial (fun hHeld => ?_); refine with_tabW scarfjointref18_Valid.tab10 scarfjointref18_Valid.bits10 (fun HT_ HW_ => ?_)
        generalize wc.drew = V4 at a4 a2 b4 HB hHeld ⊢
        refine pu 0 58 (bits 13 0x1) HT_ (h := ?_)
        refine pu 1 59 (bits 13 0x3) HT_ (h := ?_)
        refine pu 2 60 (bits 13 0x7) HT_ (h := ?_)
        refine pn 3 61 (bits 13 0xf) HT_ (h := ?_)
        refine pn 4 62 (bits 13 0x1f) HT_ (h := ?_)
        refine pn 5 63 (bits 13 0x3f) HT_ (h := ?_)
        refine pn 6 64 (bits 13 0x7f) HT_ (h := ?_)
        refine pn 7 65 (bits 13 0xff) HT_ (h := ?_)
        refine pn 8 66 (bits 13 0x1ff) HT_ (h := ?_)
        refine pn 9 67 (bits 13 0x3ff) HT_ (h := ?_)
        refine pn 10 68 (bits 13 0x7ff) HT_ (h := ?_)
        refine pn 11 69 (bits 13 0xfff) HT_ (h := ?_)
        refine pu 12 70 (bits 13 0x1fff) HT_ (h := ?_)
        refine done_ (done_of HT_.out (by kernel_rfl)) ?_
        try go_wp2
        go_roundg r0
        case measure => have := d9.out; have := p5.out; omega
        case rel => exact ⟨(wrap64 (b0 + 1)), eqs, H', ⟨by have := d9.out; have := p5.out; omega⟩, ⟨bk a4⟩, ⟨bk a2⟩, ⟨bb HB⟩⟩
       rw [if_pos o1] at H
       have D5 : decide (0 < b0) = true := decide_eq_true o1
       clear o1
       obtain ⟨b5, g6⟩ : ∃ j_ : Int, (wrap64 (b0 - 1)) = j_ := ⟨_, rfl⟩
       replace H : (if 0 ≤ (b5) then (if (b5) < (a5.length : Int) then ((scarfjointref18_compare.f ((rd_T75 a5 (b5)).f0) ((rd_T75 a5 (b5)).f1) ((rd_T75 a5 (b5)).f2) ((rd_T75 a5 (b5)).f3) ((rd_T75 a5 b0).f0) ((rd_T75 a5 b0).f1) ((rd_T75 a5 b0).f2) ((rd_T75 a5 b0).f3)).bind fun g3 => (if g3 ≥ 0 then (some 12) else (scarfjointref18_Valid.l0 r0 (wrap64 (b0 + 1)) b3 b2 a5 a3))) else (none)) else (none)) = some r := by first | (rw [g6] at H; exact H) | (simp only [g6] at H ⊢; exact H)
       have hji51w : (IntKind.i64.wrap (b0 - 1)) = b5 := (i64_w _).trans g6
       obtain ⟨E6, H⟩ := itn H
       have R7 := decide_eq_true E6
       clear E6
       obtain ⟨E5, H⟩ := itn H
       have R6 := decide_eq_true E5
       clear E5
       obtain ⟨g3, P4, H⟩ := obA H
       by_cases o0 : g3 ≥ 0
       rw [if_pos o0] at H
       have D4 : decide (0 ≤ g3) = true := decide_eq_true o0
       clear o0
       obtain rfl := Option.some.inj H
       rotate_left
       rw [if_neg o0] at H
       have D4 : decide (0 ≤ g3) = false := decide_eq_false o0
       clear o0
       have H' := Aside0.mk H
       clear H
       all_goals
        try go_wp2
        replace a4 := Aside0.mk (blk_drew a4.out)
        replace a2 := Aside0.mk (blk_drew a2.out)
        replace b4 := Aside0.mk (blk_drew b4.out)
        replace HB := Aside0.mk (below_drew1 HB.out)
        have q9 : 0 ≤ ((b5) : Int) := odt
        have q7 : (b5) < (a5.length : Int) := odt
        obtain ⟨E2, J6, g0, e9, e8, e7⟩ := at_T75 h2.out (b5) q9 q7
        have n3 := e7
        have n4 := e8
        have n5 := e9
        have n6 := g0
        obtain rfl : b9 = E2 := (by injection J6)
        replace g0 := hxc HB g0
        replace e9 := hxc HB e9
        replace e8 := hxc HB e8
        replace e7 := hxc HB e7
        replace q9 := eq_true q9
        replace q7 := eq_true q7
        refine start_ (n := 13) (S := fun w' => w'.cell? ⟨c1, 0, none⟩ = some (.slice (some b9) a5.length c0) ∧ w'.cell? ⟨c1, 1, none⟩ = some (.slice e0 a3.length c5) ∧ w'.cell? ⟨g7, 0, none⟩ = some (.int .i64 ((rd_T75 a5 b0).f0)) ∧ w'.cell? ⟨g7, 1, none⟩ = some (.int .i64 ((rd_T75 a5 b0).f1)) ∧ w'.cell? ⟨g7, 2, none⟩ = some (.int .i64 ((rd_T75 a5 b0).f2)) ∧ w'.cell? ⟨g7, 3, none⟩ = some (.int .i64 ((rd_T75 a5 b0).f3)) ∧ w'.cell? (b9.add (((b5)).toNat * 4)) = some (.int .i64 ((rd_T75 a5 (b5)).f0)) ∧ w'.cell? ⟨(b9.add (((b5)).toNat * 4)).block, (b9.add (((b5)).toNat * 4)).off + 1, none⟩ = some (.int .i64 ((rd_T75 a5 (b5)).f1)) ∧ w'.cell? ⟨(b9.add (((b5)).toNat * 4)).block, (b9.add (((b5)).toNat * 4)).off + 2, none⟩ = some (.int .i64 ((rd_T75 a5 (b5)).f2)) ∧ w'.cell? ⟨(b9.add (((b5)).toNat * 4)).block, (b9.add (((b5)).toNat * 4)).off + 3, none⟩ = some (.int .i64 ((rd_T75 a5 (b5)).f3))) (ds := []) #[false, false, false, false, false, false, false, false, false, false, false, false, false] (by kernel_rfl) rfl rfl ⟨bc a2 0, bc a2 1, bc b4 0, bc b4 1, bc b4 2, bc b4 3, (hxc HB n6), (hxc HB n5), (hxc HB n4), (hxc HB n3)⟩ (fun hHeld => ?_); refine with_tabW scarfjointref18_Valid.tab10 scarfjointref18_Valid.bits10 (fun HT_ HW_ => ?_)
        generalize wc.drew = V6 at a4 a2 b4 HB g0 e9 e8 e7 hHeld ⊢
        refine pu 0 58 (bits 13 0x1) HT_ (h := ?_)
        refine pu 1 59 (bits 13 0x3) HT_ (h := ?_)
        refine pu 2 60 (bits 13 0x7) HT_ (h := ?_)
        refine pu 3 61 (bits 13 0xf) HT_ (h := ?_)
        refine pu 5 63 (bits 13 0x2f) HT_ (h := ?_)
        refine pu 6 64 (bits 13 0x6f) HT_ (h := ?_)
        refine tk 4 62 (bits 13 0x7f) HT_ HW_ hHeld (hy := by rintro w' ⟨s0, s1, s2, s3, s4, s5, s6, s7, s8, s9⟩; go_simp; with_reducible rfl) (h := ?_)
        refine pu 7 65 (bits 13 0xff) HT_ (h := ?_)
        refine tk 8 66 (bits 13 0x1ff) HT_ HW_ hHeld (hy := by rintro w' ⟨s0, s1, s2, s3, s4, s5, s6, s7, s8, s9⟩; go_simp; with_reducible rfl) (h := ?_)
        refine tk 9 67 (bits 13 0x3ff) HT_ HW_ hHeld (hy := by rintro w' ⟨s0, s1, s2, s3, s4, s5, s6, s7, s8, s9⟩; go_simp; with_reducible rfl) (h := ?_)
        refine one_ (i := 10) (N := some 68) #[true, true, true, true, true, true, true, true, true, true, true, false, false] rfl rfl (one_of HT_.out (by kernel_rfl)) (by decide) (fun K hK => ?_)
        refine goes_ Tryz.func63 (by kernel_rfl) rfl #[.agg #[.int .i64 ((rd_T75 a5 (b5)).f0), .int .i64 ((rd_T75 a5 (b5)).f1), .int .i64 ((rd_T75 a5 (b5)).f2), .int .i64 ((rd_T75 a5 (b5)).f3)], .agg #[.int .i64 ((rd_T75 a5 b0).f0), .int .i64 ((rd_T75 a5 b0).f1), .int .i64 ((rd_T75 a5 b0).f2), .int .i64 ((rd_T75 a5 b0).f3)]] (by rfl) rfl rfl (by (try simp only [List.map_toArray, List.map_cons, List.map_nil]); first | done | (simp only [g6]; rfl) | rfl | (simp only [List.length_drop, List.length_take]; rfl)) ?_
        with_reducible refine (scarfjointref18_compare.calls _ _ _ _ _ _ _ _ _ _ P4.out).mono ?_
        rintro e V5 ⟨rfl, hb⟩
        refine ⟨_, rfl, ?_⟩
        replace a4 := bkb a4 hb
        replace a2 := bkb a2 hb
        replace b4 := bkb b4 hb
        replace HB := bstep HB hb
        (try clear hb)
        (try clear hb2)
        (try clear hk)
        (try clear hi)
        refine hK.out _ _ ⟨bc a2 0, bc a2 1, bc b4 0, bc b4 1, bc b4 2, bc b4 3, (hxc HB n6), (hxc HB n5), (hxc HB n4), (hxc HB n3)⟩ (fun hHeld => ?_)
        clear hK K
        refine norm_ (a' := ?_) ?_ ?_
        rotate_left
        ·show Act.put _ (some 68) _ = _
         simp only [Act.put, List.setIfInBounds_toArray, List.set_cons_zero, List.set_cons_succ, i64_w, i32_w]
         rfl
        refine pu 11 69 (bits 13 0xfff) HT_ (h := ?_)
        refine pu 12 70 (bits 13 0x1fff) HT_ (h := ?_)
        refine done_ (done_of HT_.out (by kernel_rfl)) ?_
        try go_wp2
       ·go_roundg r0
        case measure => have := d9.out; have := p5.out; omega
        case rel => exact ⟨(wrap64 (b0 + 1)), eqs, H', ⟨by have := d9.out; have := p5.out; omega⟩, ⟨bk a4⟩, ⟨bk a2⟩, ⟨bb HB⟩⟩
       ·go_ret
        exact ⟨by first | rfl | (simp [errW_none, errW_some] <;> rfl) | (simp only [← g6]; first | rfl | (simp [errW_none, errW_some] <;> rfl)) | (simp [*, errW_none, errW_some] <;> rfl), bb HB⟩
    rw [if_neg o3] at H
    have p1 := decide_eq_false o3
    clear o3
    obtain ⟨m3, P3, H⟩ := obA H
    by_cases n9 : m3 > 40
    rw [if_pos n9] at H
    have w3 : decide (40 < m3) = true := decide_eq_true n9
    clear n9
    obtain rfl := Option.some.inj H
    rotate_left
    rw [if_neg n9] at H
    have w3 : decide (40 < m3) = false := decide_eq_false n9
    clear n9
    have H' := Aside0.mk H
    clear H
    all_goals
     have Q9 := b6.out
     have P9 := b7.out
     obtain ⟨A6, A5, y1, y0⟩ := cz2 a2
     go_wp2_with (first | ((with_reducible refine gate_callee (f := 64) rfl ?_); refine gl 73 Tryz.func64 #[.slice d4 a5.length c0] (h := ?_); (with_reducible refine (scarfjointref18_total.calls _ _ _ _ _ _ (cb h2 HB) p6.out P3.out).mono ?_); rintro e w' ⟨rfl, ⟨nd, rfl⟩⟩; refine ⟨_, rfl, ?_⟩))
    ·go_loopg [9] k1 (fun kq v9 w' => ∃ (a6 : Int), v9 = .int .i64 a6 ∧ Aside0 (scarfjointref18_Valid.l1 kq a6 b3 b2 a5 a3 = some r) ∧ Aside0 (kq ≤ k1) ∧ Aside0 (w'.heap[g8]? = some (.cells #[(.slice c9 b3.length c7), (.slice c8 b2.length c6)] 31 (0, 0))) ∧ Aside0 (w'.heap[c1]? = some (.cells #[(.slice d4 a5.length c0), (.slice e0 a3.length c5)] 46 (0, 0))) ∧ Aside0 (Below w.heap.size w w'))
     case atStart => exact ⟨(0), eqs, H', ⟨Nat.le_refl _⟩, ⟨bk a4⟩, ⟨bk a2⟩, ⟨bb HB⟩⟩
     case round =>
      clear H'
      try clear p1 w3 A6 A5 y1 y0
      obtain ⟨a6, rfl, HA, o4, a4, a2, HB⟩ := hrel
      cases gk with
      | zero => exact absurd HA.out (by simp [scarfjointref18_Valid.l1])
      | succ k2 =>
       have H := HA.out
       clear HA
       simp only [scarfjointref18_Valid.l1] at H
       by_cases n8 : a6 < (a3.length : Int)
       rotate_left
       ·rw [if_neg n8] at H
        have w2 := decide_eq_false n8
        clear n8
        obtain ⟨m2, J8, H⟩ := obA H
        by_cases j2 : m2 > 80
        rw [if_pos j2] at H
        have C6 : decide (80 < m2) = true := decide_eq_true j2
        clear j2
        obtain rfl := Option.some.inj H
        rotate_left
        rw [if_neg j2] at H
        have C6 : decide (80 < m2) = false := decide_eq_false j2
        clear j2
        obtain rfl := Option.some.inj H
        all_goals
         have N8 := b6.out
         have M7 := b7.out
         obtain ⟨H5, H4, F5, F4⟩ := cz2 a2
         go_wp2_with (first | ((with_reducible refine gate_callee (f := 64) rfl ?_); refine gl 162 Tryz.func64 #[.slice e0 a3.length c5] (h := ?_); (with_reducible refine (scarfjointref18_total.calls _ _ _ _ _ _ (cb p2 HB) E3.out J8.out).mono ?_); rintro e w' ⟨rfl, ⟨nd, rfl⟩⟩; refine ⟨_, rfl, ?_⟩))
         go_ret
         exact ⟨erf, bb HB⟩
       rw [if_pos n8] at H
       have w2 := decide_eq_true n8
       clear n8
       obtain ⟨E4, H⟩ := itn H
       have D3 := decide_eq_true E4
       clear E4
       have t7 := Aside0.mk H
       clear H
       have Q8 := b6.out
       have P8 := b7.out
       obtain ⟨A4, A2, x8, x6⟩ := cz2 a2
       have o7 : 0 ≤ a6 := odt
       have o5 : a6 < (a3.length : Int) := odt
       obtain ⟨b8, J5, h6, h5, h4, h3⟩ := at_T75 p2.out a6 o7 o5
       cases J5
       replace h6 := hxc HB h6
       replace h5 := hxc HB h5
       replace h4 := hxc HB h4
       replace h3 := hxc HB h3
       replace o7 := eq_true o7
       replace o5 := eq_true o5
       go_upto_region 18 with (first | ((with_reducible refine gate_dst (N := 10) rfl ?_); (try (refine gate_guard (by rfl) ?_; dsimp only)); refine be 10 #[.int .i64 0, .int .i64 0, .int .i64 0, .int .i64 0] 75 ?_; intro g1 hg V3 hbox hb; have a8 := Aside0.mk (hbox); have R8 := bsz HB hg; replace HB := bstep HB hb; have d3 := blt a4 hg; have d1 := bgt a4 hg; replace a4 := bkb a4 hb; have d2 := blt a2 hg; have d0 := bgt a2 hg; replace a2 := bkb a2 hb; clear hb hbox hg; have Q7 := d1.out; have P7 := d3.out; have Q6 := d0.out; have P6 := d2.out; obtain ⟨A1, A0, y9, y8, x5, x4, x2, x0⟩ := cz4 a8))
       (try simp only [Act.put, List.setIfInBounds_toArray, List.set_cons_zero, List.set_cons_succ])
       go_cut [121] (fun F1 wc => ∃ (kq : Nat) (e2 : Bool), F1 = .bool e2 ∧ Aside0 (scarfjointref18_Valid.j3 kq a6 e2 b3 b2 a5 a3 ((rd_T75 a3 a6).f0) ((rd_T75 a3 a6).f1) ((rd_T75 a3 a6).f2) ((rd_T75 a3 a6).f3) = some r) ∧ Aside0 (kq ≤ k2) ∧ Aside0 (wc.heap[g8]? = some (.cells #[(.slice c9 b3.length c7), (.slice c8 b2.length c6)] 31 (0, 0))) ∧ Aside0 (wc.heap[c1]? = some (.cells #[(.slice d4 a5.length c0), (.slice (some b8) a3.length c5)] 46 (0, 0))) ∧ Aside0 (wc.heap[g1]? = some (.cells #[.int .i64 ((rd_T75 a3 a6).f0), .int .i64 ((rd_T75 a3 a6).f1), .int .i64 ((rd_T75 a3 a6).f2), .int .i64 ((rd_T75 a3 a6).f3)] 75 (0, 0))) ∧ Aside0 (Below w.heap.size w wc))
       case first =>
        have H := t7.out
        clear t7
        obtain ⟨q4, P2, H⟩ := obA H
        by_cases w1 : q4 = true
        subst w1
        replace H := ift H
        obtain ⟨q3, P1, H⟩ := obA H
        by_cases w0 : q3 = true
        subst w0
        replace H := ift H
        obtain ⟨q2, P0, H⟩ := obA H
        by_cases v8 : q2 = true
        subst v8
        replace H := ift H
        by_cases n7 : ((rd_T75 a3 a6).f3) < 1
        rw [if_pos n7] at H
        have g9 := decide_eq_true n7
        clear n7
        (first | rw [g9] | (simp only [i64_w, i32_w]; rw [g9]) | skip)
        have H' := Aside0.mk H
        clear H
        rotate_left
        rw [if_neg n7] at H
        have g9 := decide_eq_false n7
        clear n7
        (first | rw [g9] | (simp only [i64_w, i32_w]; rw [g9]) | skip)
        have H' := Aside0.mk H
        clear H
        rotate_left
        replace v8 := Bool.eq_false_iff.mpr v8
        subst v8
        replace H := iff_ H
        have H' := Aside0.mk H
        clear H
        rotate_left
        replace w0 := Bool.eq_false_iff.mpr w0
        subst w0
        replace H := iff_ H
        have H' := Aside0.mk H
        clear H
        rotate_left
        replace w1 := Bool.eq_false_iff.mpr w1
        subst w1
        replace H := iff_ H
        have H' := Aside0.mk H
        clear H
        all_goals
         have O7 := d1.out
         have N6 := d3.out
         have O6 := d0.out
         have N5 := d2.out
         obtain ⟨J3, J2, J1, J0, H3, H2, H1, H0⟩ := cz4 a8
         have O5 := b7.out
         have N4 := b6.out
         obtain ⟨I9, I8, G9, G8⟩ := cz2 a4
         go_wp2_with (first | ((with_reducible refine gate_callee (f := 60) rfl ?_); refine gl 92 Tryz.func60 #[.int .i64 ((rd_T75 a3 a6).f0), .int .i64 (b2.length : Int)] (h := ?_); (with_reducible refine (scarfjointref18_is.calls _ _ _ _ P2.out).mono ?_); rintro e w' ⟨rfl, ⟨nd, rfl⟩⟩; refine ⟨_, rfl, ?_⟩) | (go_at_call 60; (with_reducible refine (scarfjointref18_is.calls _ _ _ _ P1.out).mono ?_); rintro e w' ⟨rfl, ⟨nd, rfl⟩⟩) | (go_at_call 60; (with_reducible refine (scarfjointref18_is.calls _ _ _ _ P0.out).mono ?_); rintro e w' ⟨rfl, ⟨nd, rfl⟩⟩))
         go_meet
         case rel => exact ⟨_, _, eqs, H', ⟨by have := d9.out; have := o4.out; first | omega | exact Nat.le_refl _⟩, ⟨bkF a4⟩, ⟨bkF a2⟩, ⟨bkP a8⟩, ⟨bb HB⟩⟩
       case rest =>
        clear t7
        try clear w2 D3 A4 A2 A1 A0 y9 y8 x8 x6 x5 x4 x2 x0 h6 h5 h4 h3 o7 o5
        obtain ⟨kq, e2, rfl, HA, m8, a4, a2, a8, HB⟩ := hcut
        cases kq with
        | zero => exact absurd HA.out (by simp [scarfjointref18_Valid.j3])
        | succ F3 =>
         have H := HA.out
         clear HA
         simp only [scarfjointref18_Valid.j3] at H
         by_cases m7 : e2 = true
         ·subst m7
          replace H := ift H
          obtain rfl := Option.some.inj H
          go_wp2
          go_ret
          exact ⟨erf, bb HB⟩
         replace m7 := Bool.eq_false_iff.mpr m7
         subst m7
         replace H := iff_ H
         obtain ⟨q1, D2, H⟩ := obA H
         by_cases m6 : q1 = true
         subst m6
         replace H := ift H
         have p7 := Aside0.mk H
         clear H
         rotate_left
         replace m6 := Bool.eq_false_iff.mpr m6
         subst m6
         replace H := iff_ H
         obtain rfl := Option.some.inj H
         all_goals
          have O4 := b7.out
          have N3 := b6.out
          have O3 := d3.out
          have N2 := d1.out
          obtain ⟨t6, t5, r8, r7⟩ := cz2 a4
          have O2 := d0.out
          have N1 := d2.out
          obtain ⟨t4, t3, t2, t1, r6, r5, r4, r3⟩ := cz4 a8
         ·go_wp2_with (first | ((with_reducible refine gate_callee (f := 65) rfl ?_); refine gl 129 Tryz.func65 #[.agg #[.slice c9 b3.length c7, .slice c8 b2.length c6], .int .i64 ((rd_T75 a3 a6).f0), .int .i64 ((rd_T75 a3 a6).f1), .int .i64 ((rd_T75 a3 a6).f2)] (h := ?_); (with_reducible refine (q4_Fits.calls _ _ _ _ _ _ _ _ _ _ _ _ (cb p4 HB) p9.out (cb p3 HB) p8.out D2.out).mono ?_); rintro e U5 ⟨rfl, hb⟩; refine ⟨_, rfl, ?_⟩; replace a4 := bkb a4 hb; replace a2 := bkb a2 hb; replace a8 := bkb a8 hb; replace HB := bstep HB hb; clear hb))
          go_ret
          exact ⟨erf, bb HB⟩
         ·go_upto_region 22 with (first | ((with_reducible refine gate_callee (f := 65) rfl ?_); refine gl 129 Tryz.func65 #[.agg #[.slice c9 b3.length c7, .slice c8 b2.length c6], .int .i64 ((rd_T75 a3 a6).f0), .int .i64 ((rd_T75 a3 a6).f1), .int .i64 ((rd_T75 a3 a6).f2)] (h := ?_); (with_reducible refine (q4_Fits.calls _ _ _ _ _ _ _ _ _ _ _ _ (cb p4 HB) p9.out (cb p3 HB) p8.out D2.out).mono ?_); rintro e V1 ⟨rfl, hb⟩; refine ⟨_, rfl, ?_⟩; replace a4 := bkb a4 hb; replace a2 := bkb a2 hb; replace a8 := bkb a8 hb; replace HB := bstep HB hb; clear hb))
          (try simp only [Act.put, List.setIfInBounds_toArray, List.set_cons_zero, List.set_cons_succ])
          go_cut [146] (fun F0 wc => ∃ (kq : Nat) (d6 : Bool), F0 = .bool d6 ∧ Aside0 (scarfjointref18_Valid.j4 kq a6 d6 b3 b2 a5 a3 ((rd_T75 a3 a6).f0) ((rd_T75 a3 a6).f1) ((rd_T75 a3 a6).f2) ((rd_T75 a3 a6).f3) = some r) ∧ Aside0 (kq ≤ F3) ∧ Aside0 (wc.heap[g8]? = some (.cells #[(.slice c9 b3.length c7), (.slice c8 b2.length c6)] 31 (0, 0))) ∧ Aside0 (wc.heap[c1]? = some (.cells #[(.slice d4 a5.length c0), (.slice (some b8) a3.length c5)] 46 (0, 0))) ∧ Aside0 (wc.heap[g1]? = some (.cells #[.int .i64 ((rd_T75 a3 a6).f0), .int .i64 ((rd_T75 a3 a6).f1), .int .i64 ((rd_T75 a3 a6).f2), .int .i64 ((rd_T75 a3 a6).f3)] 75 (0, 0))) ∧ Aside0 (Below w.heap.size w wc))
          case first =>
           have H := p7.out
           clear p7
           obtain ⟨q0, L1, H⟩ := obA H
           by_cases g4 : q0 = 0
           rw [if_pos g4] at H
           have d8 := beq_iff_eq.mpr g4
           have D1 := bne_eq_false_iff_eq.mpr g4
           clear g4
           (first | rw [d8] | (simp only [i64_w, i32_w]; rw [d8]) | skip)
           have H' := Aside0.mk H
           clear H
           rotate_left
           rw [if_neg g4] at H
           have d8 := beq_eq_false_iff_ne.mpr g4
           have D1 := bne_iff_ne.mpr g4
           (first | rw [d8] | (simp only [i64_w, i32_w]; rw [d8]) | skip)
           obtain ⟨C3, L0, H⟩ := obA H
           have H' := Aside0.mk H
           clear H
           all_goals
            have O1 := b6.out
            have N0 := b7.out
            have O0 := d2.out
            have M9 := d0.out
            obtain ⟨I7, I6, G7, G6⟩ := cz2 a2
            have N9 := d1.out
            have M8 := d3.out
            obtain ⟨I5, I4, I3, I2, G5, G4, G3, G2⟩ := cz4 a8
            go_wp2_with (first | ((with_reducible refine gate_callee (f := 66) rfl ?_); refine gl 136 Tryz.func66 #[.slice d4 a5.length c0, .agg #[.int .i64 ((rd_T75 a3 a6).f1), .int .i64 0, .int .i64 0, .int .i64 0]] (h := ?_); (with_reducible refine (scarfjointref18_number.calls _ _ _ _ _ _ _ _ _ _ (cb h2 HB) p6.out L1.out).mono ?_); rintro e V0 ⟨rfl, hb⟩; refine ⟨_, rfl, ?_⟩; replace a4 := bkb a4 hb; replace a2 := bkb a2 hb; replace a8 := bkb a8 hb; replace HB := bstep HB hb; clear hb; obtain ⟨I1, I0, G1, G0⟩ := cz2 a2; obtain ⟨H9, H8, H7, H6, F9, F8, F7, F6⟩ := cz4 a8) | (go_at_call 66; (with_reducible refine (scarfjointref18_number.calls _ _ _ _ _ _ _ _ _ _ (cb h2 HB) p6.out L0.out).mono ?_); rintro e U9 ⟨rfl, hb⟩; replace a4 := bkb a4 hb; replace a2 := bkb a2 hb; replace a8 := bkb a8 hb; replace HB := bstep HB hb; clear hb))
            go_meet
            case rel => exact ⟨_, _, eqs, H', ⟨by have := d9.out; have := o4.out; have := m8.out; first | omega | exact Nat.le_refl _⟩, ⟨bk a4⟩, ⟨bk a2⟩, ⟨bk a8⟩, ⟨bb HB⟩⟩
          case rest =>
           clear p7
           try clear m7 m6 t6 t5 t4 t3 t2 t1 r8 r7 r6 r5 r4 r3
           obtain ⟨kq, d6, rfl, HA, m1, a4, a2, a8, HB⟩ := hcut
           cases kq with
           | zero => exact absurd HA.out (by simp [scarfjointref18_Valid.j4])
           | succ o9 =>
            have H := HA.out
            clear HA
            simp only [scarfjointref18_Valid.j4] at H
            by_cases p0 : d6 = true
            ·subst p0
             replace H := ift H
             obtain rfl := Option.some.inj H
             go_wp2
             go_ret
             exact ⟨erf, bb HB⟩
            replace p0 := Bool.eq_false_iff.mpr p0
            subst p0
            replace H := iff_ H
            by_cases j6 : a6 > 0
            rotate_left
            ·rw [if_neg j6] at H
             have D0 : decide (0 < a6) = false := decide_eq_false j6
             clear j6
             have H' := Aside0.mk H
             clear H
             try go_wp2
             replace a4 := Aside0.mk (blk_drew a4.out)
             replace a2 := Aside0.mk (blk_drew a2.out)
             replace a8 := Aside0.mk (blk_drew a8.out)
             replace HB := Aside0.mk (below_drew1 HB.out)
             refine start_ (n := 13) (S := fun w' => True) (ds := []) #[false, false, false, false, false, false, false, false, false, false, false, false, false] (by kernel_rfl) rfl rfl trivial (fun hHeld => ?_); refine with_tabW scarfjointref18_Valid.tab24 scarfjointref18_Valid.bits24 (fun HT_ HW_ => ?_)
             generalize wc.drew = U6 at a4 a2 a8 HB hHeld ⊢
             refine pu 0 147 (bits 13 0x1) HT_ (h := ?_)
             refine pu 1 148 (bits 13 0x3) HT_ (h := ?_)
             refine pu 2 149 (bits 13 0x7) HT_ (h := ?_)
             refine pn 3 150 (bits 13 0xf) HT_ (h := ?_)
             refine pn 4 151 (bits 13 0x1f) HT_ (h := ?_)
             refine pn 5 152 (bits 13 0x3f) HT_ (h := ?_)
             refine pn 6 153 (bits 13 0x7f) HT_ (h := ?_)
             refine pn 7 154 (bits 13 0xff) HT_ (h := ?_)
             refine pn 8 155 (bits 13 0x1ff) HT_ (h := ?_)
             refine pn 9 156 (bits 13 0x3ff) HT_ (h := ?_)
             refine pn 10 157 (bits 13 0x7ff) HT_ (h := ?_)
             refine pn 11 158 (bits 13 0xfff) HT_ (h := ?_)
             refine pu 12 159 (bits 13 0x1fff) HT_ (h := ?_)
             refine done_ (done_of HT_.out (by kernel_rfl)) ?_
             try go_wp2
             go_roundg o9
             case measure => have := d9.out; have := o4.out; have := m8.out; have := m1.out; omega
             case rel => exact ⟨(wrap64 (a6 + 1)), eqs, H', ⟨by have := d9.out; have := o4.out; have := m8.out; have := m1.out; omega⟩, ⟨bk a4⟩, ⟨bk a2⟩, ⟨bb HB⟩⟩
            rw [if_pos j6] at H
            have D0 : decide (0 < a6) = true := decide_eq_true j6
            clear j6
            obtain ⟨b1, d7⟩ : ∃ j_ : Int, (wrap64 (a6 - 1)) = j_ := ⟨_, rfl⟩
            replace H : (if 0 ≤ (b1) then (if (b1) < (a3.length : Int) then ((scarfjointref18_compare.f ((rd_T75 a3 (b1)).f0) ((rd_T75 a3 (b1)).f1) ((rd_T75 a3 (b1)).f2) ((rd_T75 a3 (b1)).f3) ((rd_T75 a3 a6).f0) ((rd_T75 a3 a6).f1) ((rd_T75 a3 a6).f2) ((rd_T75 a3 a6).f3)).bind fun g2 => (if g2 ≥ 0 then (some 12) else (scarfjointref18_Valid.l1 o9 (wrap64 (a6 + 1)) b3 b2 a5 a3))) else (none)) else (none)) = some r := by first | (rw [d7] at H; exact H) | (simp only [d7] at H ⊢; exact H)
            have hji138w : (IntKind.i64.wrap (a6 - 1)) = b1 := (i64_w _).trans d7
            obtain ⟨C9, H⟩ := itn H
            have O9 := decide_eq_true C9
            clear C9
            obtain ⟨C8, H⟩ := itn H
            have O8 := decide_eq_true C8
            clear C8
            obtain ⟨g2, J9, H⟩ := obA H
            by_cases j5 : g2 ≥ 0
            rw [if_pos j5] at H
            have C7 : decide (0 ≤ g2) = true := decide_eq_true j5
            clear j5
            obtain rfl := Option.some.inj H
            rotate_left
            rw [if_neg j5] at H
            have C7 : decide (0 ≤ g2) = false := decide_eq_false j5
            clear j5
            have H' := Aside0.mk H
            clear H
            all_goals
             try go_wp2
             replace a4 := Aside0.mk (blk_drew a4.out)
             replace a2 := Aside0.mk (blk_drew a2.out)
             replace a8 := Aside0.mk (blk_drew a8.out)
             replace HB := Aside0.mk (below_drew1 HB.out)
             have q8 : 0 ≤ ((b1) : Int) := odt
             have q6 : (b1) < (a3.length : Int) := odt
             obtain ⟨E1, J4, e6, e5, e4, e3⟩ := at_T75 p2.out (b1) q8 q6
             have m9 := e3
             have n0 := e4
             have n1 := e5
             have n2 := e6
             obtain rfl : b8 = E1 := (by injection J4)
             replace e6 := hxc HB e6
             replace e5 := hxc HB e5
             replace e4 := hxc HB e4
             replace e3 := hxc HB e3
             replace q8 := eq_true q8
             replace q6 := eq_true q6
             refine start_ (n := 13) (S := fun w' => w'.cell? ⟨c1, 0, none⟩ = some (.slice d4 a5.length c0) ∧ w'.cell? ⟨c1, 1, none⟩ = some (.slice (some b8) a3.length c5) ∧ w'.cell? ⟨g1, 0, none⟩ = some (.int .i64 ((rd_T75 a3 a6).f0)) ∧ w'.cell? ⟨g1, 1, none⟩ = some (.int .i64 ((rd_T75 a3 a6).f1)) ∧ w'.cell? ⟨g1, 2, none⟩ = some (.int .i64 ((rd_T75 a3 a6).f2)) ∧ w'.cell? ⟨g1, 3, none⟩ = some (.int .i64 ((rd_T75 a3 a6).f3)) ∧ w'.cell? (b8.add (((b1)).toNat * 4)) = some (.int .i64 ((rd_T75 a3 (b1)).f0)) ∧ w'.cell? ⟨(b8.add (((b1)).toNat * 4)).block, (b8.add (((b1)).toNat * 4)).off + 1, none⟩ = some (.int .i64 ((rd_T75 a3 (b1)).f1)) ∧ w'.cell? ⟨(b8.add (((b1)).toNat * 4)).block, (b8.add (((b1)).toNat * 4)).off + 2, none⟩ = some (.int .i64 ((rd_T75 a3 (b1)).f2)) ∧ w'.cell? ⟨(b8.add (((b1)).toNat * 4)).block, (b8.add (((b1)).toNat * 4)).off + 3, none⟩ = some (.int .i64 ((rd_T75 a3 (b1)).f3))) (ds := []) #[false, false, false, false, false, false, false, false, false, false, false, false, false] (by kernel_rfl) rfl rfl ⟨bc a2 0, bc a2 1, bc a8 0, bc a8 1, bc a8 2, bc a8 3, (hxc HB n2), (hxc HB n1), (hxc HB n0), (hxc HB m9)⟩ (fun hHeld => ?_); refine with_tabW scarfjointref18_Valid.tab24 scarfjointref18_Valid.bits24 (fun HT_ HW_ => ?_)
             generalize wc.drew = U8 at a4 a2 a8 HB e6 e5 e4 e3 hHeld ⊢
             refine pu 0 147 (bits 13 0x1) HT_ (h := ?_)
             refine pu 1 148 (bits 13 0x3) HT_ (h := ?_)
             refine pu 2 149 (bits 13 0x7) HT_ (h := ?_)
             refine pu 3 150 (bits 13 0xf) HT_ (h := ?_)
             refine pu 5 152 (bits 13 0x2f) HT_ (h := ?_)
             refine pu 6 153 (bits 13 0x6f) HT_ (h := ?_)
             refine tk 4 151 (bits 13 0x7f) HT_ HW_ hHeld (hy := by rintro w' ⟨s0, s1, s2, s3, s4, s5, s6, s7, s8, s9⟩; go_simp; with_reducible rfl) (h := ?_)
             refine pu 7 154 (bits 13 0xff) HT_ (h := ?_)
             refine tk 8 155 (bits 13 0x1ff) HT_ HW_ hHeld (hy := by rintro w' ⟨s0, s1, s2, s3, s4, s5, s6, s7, s8, s9⟩; go_simp; with_reducible rfl) (h := ?_)
             refine tk 9 156 (bits 13 0x3ff) HT_ HW_ hHeld (hy := by rintro w' ⟨s0, s1, s2, s3, s4, s5, s6, s7, s8, s9⟩; go_simp; with_reducible rfl) (h := ?_)
             refine one_ (i := 10) (N := some 157) #[true, true, true, true, true, true, true, true, true, true, true, false, false] rfl rfl (one_of HT_.out (by kernel_rfl)) (by decide) (fun K hK => ?_)
             refine goes_ Tryz.func63 (by kernel_rfl) rfl #[.agg #[.int .i64 ((rd_T75 a3 (b1)).f0), .int .i64 ((rd_T75 a3 (b1)).f1), .int .i64 ((rd_T75 a3 (b1)).f2), .int .i64 ((rd_T75 a3 (b1)).f3)], .agg #[.int .i64 ((rd_T75 a3 a6).f0), .int .i64 ((rd_T75 a3 a6).f1), .int .i64 ((rd_T75 a3 a6).f2), .int .i64 ((rd_T75 a3 a6).f3)]] (by rfl) rfl rfl (by (try simp only [List.map_toArray, List.map_cons, List.map_nil]); first | done | (simp only [d7]; rfl) | rfl | (simp only [List.length_drop, List.length_take]; rfl)) ?_
             with_reducible refine (scarfjointref18_compare.calls _ _ _ _ _ _ _ _ _ _ J9.out).mono ?_
             rintro e U7 ⟨rfl, hb⟩
             refine ⟨_, rfl, ?_⟩
             replace a4 := bkb a4 hb
             replace a2 := bkb a2 hb
             replace a8 := bkb a8 hb
             replace HB := bstep HB hb
             (try clear hb)
             (try clear hb2)
             (try clear hk)
             (try clear hi)
             refine hK.out _ _ ⟨bc a2 0, bc a2 1, bc a8 0, bc a8 1, bc a8 2, bc a8 3, (hxc HB n2), (hxc HB n1), (hxc HB n0), (hxc HB m9)⟩ (fun hHeld => ?_)
             clear hK K
             refine norm_ (a' := ?_) ?_ ?_
             rotate_left
             ·show Act.put _ (some 157) _ = _
              simp only [Act.put, List.setIfInBounds_toArray, List.set_cons_zero, List.set_cons_succ, i64_w, i32_w]
              rfl
             refine pu 11 158 (bits 13 0xfff) HT_ (h := ?_)
             refine pu 12 159 (bits 13 0x1fff) HT_ (h := ?_)
             refine done_ (done_of HT_.out (by kernel_rfl)) ?_
             try go_wp2
            ·go_roundg o9
             case measure => have := d9.out; have := o4.out; have := m8.out; have := m1.out; omega
             case rel => exact ⟨(wrap64 (a6 + 1)), eqs, H', ⟨by have := d9.out; have := o4.out; have := m8.out; have := m1.out; omega⟩, ⟨bk a4⟩, ⟨bk a2⟩, ⟨bb HB⟩⟩
            ·go_ret
             exact ⟨by first | rfl | (simp [errW_none, errW_some] <;> rfl) | (simp only [← d7]; first | rfl | (simp [errW_none, errW_some] <;> rfl)) | (simp [*, errW_none, errW_some] <;> rfl), bb HB⟩
    ·go_ret
     exact ⟨erf, bb HB⟩
end Go.Proofs.YtfpianecohobjaaGreat.P
