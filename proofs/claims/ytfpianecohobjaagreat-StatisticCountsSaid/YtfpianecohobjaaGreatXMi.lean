/- StatisticOf: a part of its proof. No condition. -/
import Derived.Test.YtfpianecohobjaaGreatXPx0
import Derived.Test.YtfpianecohobjaaGreatXPx46
import Derived.Test.YtfpianecohobjaaGreatXMf
import Derived.Test.YtfpianecohobjaaGreatXMe
namespace Go.Proofs.YtfpianecohobjaaGreat.P
open Go.RowKit Go.Proofs.YtfpianecohobjaaGreatW.PrintWords Go.Proofs.YtfpianecohobjaaGreatW.PrintLast Go.Proofs.YtfpianecohobjaaGreatW.PrintMore
set_option maxHeartbeats 8000000
set_option maxRecDepth 100000
set_option linter.unusedVariables false
set_option linter.unusedSimpArgs false
def scarfjointref18_Copied.f (a5 : List (S75)) (a4 : List (S75)) : Option ((List (S75)) × (List (S75))) := (some (([] : List (S75)) : List (S75))).bind fun b4 => (if b4.length + a5.length < 4398046511104 then ((some (([] : List (S75)) : List (S75))).bind fun a9 => (if a9.length + a4.length < 4398046511104 then (some ((b4 ++ a5), (a9 ++ a4))) else (none))) else (none))
def scarfjointref18_Copied.T1 : Bool × List (List Nat × List Nat) := (true, [([], []), ([], []), ([1], [1]), ([0, 2], [0, 2]), ([], []), ([], []), ([5], [5]), ([4, 6, 3], [4, 6]), ([3, 7], [3, 7]), ([8, 7, 0, 1, 2, 3, 4, 5, 6, 7, 8], [8])])
def scarfjointref18_Copied.B1 : List Nat := [0, 0, 2, 7, 0, 0, 32, 127, 255, 511]
theorem scarfjointref18_Copied.tab1 : rtab .any (opsOf Tryz.f26 1) = scarfjointref18_Copied.T1 := by kernel_rfl
theorem scarfjointref18_Copied.bits1 : waitsOk scarfjointref18_Copied.T1.2 scarfjointref18_Copied.B1 = true := by kernel_rfl
theorem scarfjointref18_Copied.calls (b8 : Option Addr) (b6 : Nat) (a5 : List (S75)) (b7 : Option Addr) (b5 : Nat) (a4 : List (S75)) (r1 : List (S75)) (r2 : List (S75)) (w : World) (e9 : Kd.C k75 w b8 a5.length a5) (g1 : a5.length ≤ b6) (e8 : Kd.C k75 w b7 a4.length a4) (g0 : a4.length ≤ b5) (h : scarfjointref18_Copied.f a5 a4 = some (r1, r2)) :
  Calls Tryz.prog 26 #[.agg #[.slice b8 a5.length b6, .slice b7 a4.length b5]] w fun e w' => ∃ g4 g3 : Value, e = .returned (.agg #[g4, g3]) ∧ Kd.R k75 75 w' w.heap.size (fun k_ => some k_ ≠ (g3 : Value).ownBlock) g4 r1 ∧ Kd.R k75 75 w' w.heap.size (fun k_ => some k_ ≠ (g4 : Value).ownBlock) g3 r2 ∧ Below w.heap.size w w' := by
 have hu46 := Tryz.underlying46
 have e1 := am e9
 have j9 := am g1
 clear e9 g1
 have g7 := am e8
 have j8 := am g0
 clear e8 g0
 have HB := am (Below.refl w.heap.size w)
 have H : ((some (([] : List (S75)) : List (S75))).bind fun b4 => (if b4.length + a5.length < 4398046511104 then ((some (([] : List (S75)) : List (S75))).bind fun a9 => (if a9.length + a4.length < 4398046511104 then (some ((b4 ++ a5), (a9 ++ a4))) else (none))) else (none))) = some (r1, r2) := h
 clear h
 obtain ⟨b4, d5, H⟩ := lebi H
 obtain ⟨e6, H⟩ := ita H
 obtain ⟨c1, e0⟩ := leq (α := List (S75)) (b4 ++ a5)
 rw [← e0.out] at H
 obtain ⟨a9, c8, H⟩ := lebi H
 obtain ⟨h4, H⟩ := ita H
 obtain ⟨d7, g6⟩ := leq (α := List (S75)) (a9 ++ a4)
 rw [← g6.out] at H
 simp only [Option.some.injEq, Prod.mk.injEq] at H
 obtain ⟨rfl, rfl⟩ := H
 go_enter Tryz.func26, Tryz.ntmps26
 try go_wp2_with (first | ((with_reducible refine gate_dst (N := 1) rfl ?_); refine be 1 #[.slice b8 a5.length b6, .slice b7 a4.length b5] 46 ?_; intro b1 hg w4 hbox hb; have a2 := am (hbox); have m2 := bsz HB hg; replace HB := bstep HB hb; clear hb hbox hg) | ((with_reducible refine gate_dst (N := 2) rfl ?_); refine be 2 #[.slice none 0 0, .slice none 0 0] 46 ?_; intro a7 hg w5 hbox hb; have a3 := am (hbox); have m0 := bsz HB hg; replace HB := bstep HB hb; have b2 := blt a2 hg; have d4 := bgt a2 hg; replace a2 := bkb a2 hb; clear hb hbox hg))
 replace a2 := am (blk_drew a2.out)
 replace a3 := am (blk_drew a3.out)
 replace HB := am (below_drew1 HB.out)
 refine start_ (n := 10) (S := fun w' => w'.cell? ⟨b1, 0, none⟩ = some (.slice b8 a5.length b6) ∧ w'.cell? ⟨b1, 1, none⟩ = some (.slice b7 a4.length b5)) (ds := []) #[false, false, false, false, false, false, false, false, false, false] (by kernel_rfl) rfl rfl ⟨bc a2 0, bc a2 1⟩ (fun hHeld => ?_); refine with_tabW scarfjointref18_Copied.tab1 scarfjointref18_Copied.bits1 (fun HT_ HW_ => ?_)
 generalize w5.drew = w6 at a2 a3 HB hHeld ⊢
 refine pu 1 4 (bits 10 0x2) HT_ (h := ?_)
 refine pu 5 8 (bits 10 0x22) HT_ (h := ?_)
 refine tk 2 5 (bits 10 0x26) HT_ HW_ hHeld (hy := by rintro w' ⟨s0, s1⟩; go_simp; with_reducible rfl) (h := ?_)
 refine tk 6 9 (bits 10 0x66) HT_ HW_ hHeld (hy := by rintro w' ⟨s0, s1⟩; go_simp; with_reducible rfl) (h := ?_)
 refine join_ (σ := Value × Value × Value) 3 #[true, true, true, true, true, true, true, false, false, false] (fun s_ => [(3, s_.1), (6, s_.2.1), (7, s_.2.2)]) (fun s_ w' => (w'.cell? ⟨b1, 0, none⟩ = some (.slice b8 a5.length b6) ∧ w'.cell? ⟨b1, 1, none⟩ = some (.slice b7 a4.length b5)) ∧ (Kd.R k75 75 w' w.heap.size (fun k_ => some k_ ≠ (s_.2.2 : Value).ownBlock) s_.2.1 c1) ∧ (Kd.R k75 75 w' w.heap.size (fun k_ => some k_ ≠ (s_.2.1 : Value).ownBlock) s_.2.2 a9) ∧ (w'.heap[b1]? = some (.cells #[.slice b8 a5.length b6, .slice b7 a4.length b5] 46 (0, 0))) ∧ (w'.heap[a7]? = some (.cells #[.slice none 0 0, .slice none 0 0] 46 (0, 0))) ∧ (Below w.heap.size w w')) ?_ ?_
 rotate_left
 ·intro hCont
  refine two_ (i := 0) (j := 4) (Ni := some 3) (Nj := some 7) #[true, true, true, false, false, true, true, false, false, false] #[false, true, true, false, true, true, true, false, false, false] rfl rfl rfl rfl (two_of HT_.out (by kernel_rfl)) (by decide) (by decide) (fun K hK => ?_) (fun K hK => ?_)
  ·skip
   refine Kd.R_lit_step k75 _ 75 ?hg (N := 3) ?hd (xs := ([] : List (S75))) (inner := []) (ok := fun _ => True) (okp := fun _ => True) ?hr ?hp (fun _ hk => hk) trivial (Below.refl _ _) (Nat.le_refl _) (by simp) ?_; (case hd => rfl); (case hg => rfl); (case hr => first | (go_simp; done) | (go_simp; rfl)); (case hp => exact (Reps.none _ _))
   intro c6 w7 c7 hb hg_ hnew_
   clear hg_ hnew_
   (first | rw [← d5.out] at c7 | (simp only [Int.reduceToNat] at c7; rw [← d5.out] at c7))
   have a8 := am (Kd.R_lower c7 (below_size (bb HB)))
   replace a2 := bkb a2 hb
   replace a3 := bkb a3 hb
   replace HB := bstep HB hb
   clear hb c7
   refine hK.out _ _ ⟨bc a2 0, bc a2 1⟩ (fun hHeld => ?_)
   clear hK K
   refine norm_ (a' := ?_) ?_ ?_
   rotate_left
   ·show Act.put _ (some 3) _ = _
    simp only [Act.put, List.setIfInBounds_toArray, List.set_cons_zero, List.set_cons_succ, i64_w, i32_w]
    rfl
   refine two_ (i := 3) (j := 4) (Ni := some 6) (Nj := some 7) #[true, true, true, true, false, true, true, false, false, false] #[true, true, true, false, true, true, true, false, false, false] rfl rfl rfl rfl (two_of HT_.out (by kernel_rfl)) (by decide) (by decide) (fun K hK => ?_) (fun K hK => ?_)
   ·skip
    refine Kd.R_append_rows_step k75 (w0 := w) w.heap.size (by rfl) (.tmp 3) (.tmp 5) 44 75 (.agg #[(.int .i64 0), (.int .i64 0), (.int .i64 0), (.int .i64 0)]) 32 rfl Tryz.underlying44 info75 rfl (by decide) (by omega) c6 b4 a5 _ _ _ (fun _ => True) (fun _ => False) rfl rfl ?aO ?aR (fun _ _ h => h) (fun _ h => h.elim) ?aF ?aB ?aS ?aL ?_
    (case aR => exact cb e1 HB)
    (case aB => exact (bb HB))
    (case aF => exact (fun _ _ => trivial))
    (case aO => exact (kR a8))
    (case aS => exact (below_size (bb HB)))
    (case aL => have := e6.out; omega)
    intro c5 w9 ho hb hg hat
    rw [← e0.out] at ho
    replace a2 := am (blk_grown (g := b1) (o := .cells #[.slice b8 a5.length b6, .slice b7 a4.length b5] 46 (0, 0)) (bk a2) hg (Kd.R_ne a8.out a2.out (by decide)))
    replace a3 := am (blk_grown (g := a7) (o := .cells #[.slice none 0 0, .slice none 0 0] 46 (0, 0)) (bk a3) hg (Kd.R_ne a8.out a3.out (by decide)))
    replace HB := am (hb)
    have b0 := am (ho)
    clear a8 ho hb hg hat
    refine hK.out _ _ ⟨bc a2 0, bc a2 1⟩ (fun hHeld => ?_)
    clear hK K
    refine norm_ (a' := ?_) ?_ ?_
    rotate_left
    ·show Act.put _ (some 6) _ = _
     simp only [Act.put, List.setIfInBounds_toArray, List.set_cons_zero, List.set_cons_succ, i64_w, i32_w]
     rfl
    refine one_ (i := 4) (N := some 7) #[true, true, true, true, true, true, true, false, false, false] rfl rfl (one_of HT_.out (by kernel_rfl)) (by decide) (fun K hK => ?_)
    refine Kd.R_lit_step k75 _ 75 ?hg (N := 7) ?hd (xs := ([] : List (S75))) (inner := []) (ok := fun _ => True) (okp := fun _ => True) ?hr ?hp (fun _ hk => hk) trivial (Below.refl _ _) (Nat.le_refl _) (by simp) ?_; (case hd => rfl); (case hg => rfl); (case hr => first | (go_simp; done) | (go_simp; rfl)); (case hp => exact (Reps.none _ _))
    intro b9 m6 d3 hb hg_ hnew_
    clear hg_ hnew_
    (first | rw [← c8.out] at d3 | (simp only [Int.reduceToNat] at d3; rw [← c8.out] at d3))
    have a6 := am (Kd.R_lower (Kd.R_new' d3 (Kd.R_lt (kR b0))) (below_size (bb HB)))
    replace b0 := am (Kd.R_elder' (kR b0) (Kd.R_base d3) hb)
    replace a2 := bkb a2 hb
    replace a3 := bkb a3 hb
    replace HB := bstep HB hb
    clear hb d3
    refine hK.out _ _ ⟨bc a2 0, bc a2 1⟩ (fun hHeld => ?_)
    clear hK K
    refine norm_ (a' := ?_) ?_ ?_
    rotate_left
    ·show Act.put _ (some 7) _ = _
     simp only [Act.put, List.setIfInBounds_toArray, List.set_cons_zero, List.set_cons_succ, i64_w, i32_w]
     rfl
    exact norm_ (by simp only [putAll, Act.put, List.setIfInBounds_toArray, List.set_cons_zero, List.set_cons_succ]) (hCont (c6, c5, b9) _ ⟨hHeld, (by (with_reducible repeat (first | apply Kd.R_alloc | apply Kd.R_drewN | apply Kd.R_drew)); exact Kd.R_mono b0.out (fun _ hk => hk.2)), (by (with_reducible repeat (first | apply Kd.R_alloc | apply Kd.R_drewN | apply Kd.R_drew)); exact Kd.R_mono a6.out (fun _ hk => hk.2)), (bk a2), (bk a3), (bb HB)⟩)
   ·skip
    refine Kd.R_lit_step k75 _ 75 ?hg (N := 7) ?hd (xs := ([] : List (S75))) (inner := []) (ok := fun _ => True) (okp := fun _ => True) ?hr ?hp (fun _ hk => hk) trivial (Below.refl _ _) (Nat.le_refl _) (by simp) ?_; (case hd => rfl); (case hg => rfl); (case hr => first | (go_simp; done) | (go_simp; rfl)); (case hp => exact (Reps.none _ _))
    intro b9 w9 b3 hb hg_ hnew_
    clear hg_ hnew_
    (first | rw [← c8.out] at b3 | (simp only [Int.reduceToNat] at b3; rw [← c8.out] at b3))
    have a6 := am (Kd.R_lower (Kd.R_new' b3 (Kd.R_lt (kR a8))) (below_size (bb HB)))
    replace a8 := am (Kd.R_elder' (kR a8) (Kd.R_base b3) hb)
    replace a2 := bkb a2 hb
    replace a3 := bkb a3 hb
    replace HB := bstep HB hb
    clear hb b3
    refine hK.out _ _ ⟨bc a2 0, bc a2 1⟩ (fun hHeld => ?_)
    clear hK K
    refine norm_ (a' := ?_) ?_ ?_
    rotate_left
    ·show Act.put _ (some 7) _ = _
     simp only [Act.put, List.setIfInBounds_toArray, List.set_cons_zero, List.set_cons_succ, i64_w, i32_w]
     rfl
    refine one_ (i := 3) (N := some 6) #[true, true, true, true, true, true, true, false, false, false] rfl rfl (one_of HT_.out (by kernel_rfl)) (by decide) (fun K hK => ?_)
    refine Kd.R_append_rows_step k75 (w0 := w) w.heap.size (by rfl) (.tmp 3) (.tmp 5) 44 75 (.agg #[(.int .i64 0), (.int .i64 0), (.int .i64 0), (.int .i64 0)]) 32 rfl Tryz.underlying44 info75 rfl (by decide) (by omega) c6 b4 a5 _ _ _ (fun k_ => some k_ ≠ (b9 : Value).ownBlock) (fun _ => False) rfl rfl ?aO ?aR (fun _ _ h => h) (fun _ h => h.elim) ?aF ?aB ?aS ?aL ?_
    (case aR => exact cb e1 HB)
    (case aB => exact (bb HB))
    (case aF => exact (fun k_ hk => Kd.fresh' (Kd.R_lt (kR a6)) k_ hk))
    (case aO => exact (by (with_reducible repeat (first | apply Kd.R_alloc | apply Kd.R_drewN | apply Kd.R_drew)); exact Kd.R_mono a8.out (fun _ hk => hk.2)))
    (case aS => exact (below_size (bb HB)))
    (case aL => have := e6.out; omega)
    intro c5 j3 ho hb hg hat
    rw [← e0.out] at ho
    replace a2 := am (blk_grown (g := b1) (o := .cells #[.slice b8 a5.length b6, .slice b7 a4.length b5] 46 (0, 0)) (bk a2) hg (Kd.R_ne a8.out a2.out (by decide)))
    replace a3 := am (blk_grown (g := a7) (o := .cells #[.slice none 0 0, .slice none 0 0] 46 (0, 0)) (bk a3) hg (Kd.R_ne a8.out a3.out (by decide)))
    replace a6 := am (Kd.R_after (ok := (fun _ => True)) (kR a6) hg hat)
    replace HB := am (hb)
    have b0 := am (ho)
    clear a8 ho hb hg hat
    refine hK.out _ _ ⟨bc a2 0, bc a2 1⟩ (fun hHeld => ?_)
    clear hK K
    refine norm_ (a' := ?_) ?_ ?_
    rotate_left
    ·show Act.put _ (some 6) _ = _
     simp only [Act.put, List.setIfInBounds_toArray, List.set_cons_zero, List.set_cons_succ, i64_w, i32_w]
     rfl
    exact norm_ (by simp only [putAll, Act.put, List.setIfInBounds_toArray, List.set_cons_zero, List.set_cons_succ]) (hCont (c6, c5, b9) _ ⟨hHeld, (kR b0), (by (with_reducible repeat (first | apply Kd.R_alloc | apply Kd.R_drewN | apply Kd.R_drew)); exact Kd.R_mono a6.out (fun _ hk => hk.2)), (bk a2), (bk a3), (bb HB)⟩)
  ·skip
   refine Kd.R_lit_step k75 _ 75 ?hg (N := 7) ?hd (xs := ([] : List (S75))) (inner := []) (ok := fun _ => True) (okp := fun _ => True) ?hr ?hp (fun _ hk => hk) trivial (Below.refl _ _) (Nat.le_refl _) (by simp) ?_; (case hd => rfl); (case hg => rfl); (case hr => first | (go_simp; done) | (go_simp; rfl)); (case hp => exact (Reps.none _ _))
   intro b9 w7 c7 hb hg_ hnew_
   clear hg_ hnew_
   (first | rw [← c8.out] at c7 | (simp only [Int.reduceToNat] at c7; rw [← c8.out] at c7))
   have a6 := am (Kd.R_lower c7 (below_size (bb HB)))
   replace a2 := bkb a2 hb
   replace a3 := bkb a3 hb
   replace HB := bstep HB hb
   clear hb c7
   refine hK.out _ _ ⟨bc a2 0, bc a2 1⟩ (fun hHeld => ?_)
   clear hK K
   refine norm_ (a' := ?_) ?_ ?_
   rotate_left
   ·show Act.put _ (some 7) _ = _
    simp only [Act.put, List.setIfInBounds_toArray, List.set_cons_zero, List.set_cons_succ, i64_w, i32_w]
    rfl
   refine one_ (i := 0) (N := some 3) #[true, true, true, false, true, true, true, false, false, false] rfl rfl (one_of HT_.out (by kernel_rfl)) (by decide) (fun K hK => ?_)
   refine Kd.R_lit_step k75 _ 75 ?hg (N := 3) ?hd (xs := ([] : List (S75))) (inner := []) (ok := fun _ => True) (okp := fun _ => True) ?hr ?hp (fun _ hk => hk) trivial (Below.refl _ _) (Nat.le_refl _) (by simp) ?_; (case hd => rfl); (case hg => rfl); (case hr => first | (go_simp; done) | (go_simp; rfl)); (case hp => exact (Reps.none _ _))
   intro c6 w9 b3 hb hg_ hnew_
   clear hg_ hnew_
   (first | rw [← d5.out] at b3 | (simp only [Int.reduceToNat] at b3; rw [← d5.out] at b3))
   have a8 := am (Kd.R_lower (Kd.R_new' b3 (Kd.R_lt (kR a6))) (below_size (bb HB)))
   replace a6 := am (Kd.R_elder' (kR a6) (Kd.R_base b3) hb)
   replace a2 := bkb a2 hb
   replace a3 := bkb a3 hb
   replace HB := bstep HB hb
   clear hb b3
   refine hK.out _ _ ⟨bc a2 0, bc a2 1⟩ (fun hHeld => ?_)
   clear hK K
   refine norm_ (a' := ?_) ?_ ?_
   rotate_left
   ·show Act.put _ (some 3) _ = _
    simp only [Act.put, List.setIfInBounds_toArray, List.set_cons_zero, List.set_cons_succ, i64_w, i32_w]
    rfl
   refine one_ (i := 3) (N := some 6) #[true, true, true, true, true, true, true, false, false, false] rfl rfl (one_of HT_.out (by kernel_rfl)) (by decide) (fun K hK => ?_)
   refine Kd.R_append_rows_step k75 (w0 := w) w.heap.size (by rfl) (.tmp 3) (.tmp 5) 44 75 (.agg #[(.int .i64 0), (.int .i64 0), (.int .i64 0), (.int .i64 0)]) 32 rfl Tryz.underlying44 info75 rfl (by decide) (by omega) c6 b4 a5 _ _ _ (fun k_ => some k_ ≠ (b9 : Value).ownBlock) (fun _ => False) rfl rfl ?aO ?aR (fun _ _ h => h) (fun _ h => h.elim) ?aF ?aB ?aS ?aL ?_
   (case aR => exact cb e1 HB)
   (case aB => exact (bb HB))
   (case aF => exact (fun k_ hk => Kd.fresh' (Kd.R_lt (kR a6)) k_ hk))
   (case aO => exact (by (with_reducible repeat (first | apply Kd.R_alloc | apply Kd.R_drewN | apply Kd.R_drew)); exact Kd.R_mono a8.out (fun _ hk => hk.2)))
   (case aS => exact (below_size (bb HB)))
   (case aL => have := e6.out; omega)
   intro c5 j3 ho hb hg hat
   rw [← e0.out] at ho
   replace a2 := am (blk_grown (g := b1) (o := .cells #[.slice b8 a5.length b6, .slice b7 a4.length b5] 46 (0, 0)) (bk a2) hg (Kd.R_ne a8.out a2.out (by decide)))
   replace a3 := am (blk_grown (g := a7) (o := .cells #[.slice none 0 0, .slice none 0 0] 46 (0, 0)) (bk a3) hg (Kd.R_ne a8.out a3.out (by decide)))
   replace a6 := am (Kd.R_after (ok := (fun _ => True)) (kR a6) hg hat)
   replace HB := am (hb)
   have b0 := am (ho)
   clear a8 ho hb hg hat
   refine hK.out _ _ ⟨bc a2 0, bc a2 1⟩ (fun hHeld => ?_)
   clear hK K
   refine norm_ (a' := ?_) ?_ ?_
   rotate_left
   ·show Act.put _ (some 6) _ = _
    simp only [Act.put, List.setIfInBounds_toArray, List.set_cons_zero, List.set_cons_succ, i64_w, i32_w]
    rfl
   exact norm_ (by simp only [putAll, Act.put, List.setIfInBounds_toArray, List.set_cons_zero, List.set_cons_succ]) (hCont (c6, c5, b9) _ ⟨hHeld, (kR b0), (by (with_reducible repeat (first | apply Kd.R_alloc | apply Kd.R_drewN | apply Kd.R_drew)); exact Kd.R_mono a6.out (fun _ hk => hk.2)), (bk a2), (bk a3), (bb HB)⟩)
 rintro ⟨c6, c5, b9⟩ d6 ⟨hS_, h0_, h1_, h2_, h3_, h4_⟩
 have b0 : Aside0 (Kd.R k75 75 d6 w.heap.size (fun k_ => some k_ ≠ (b9 : Value).ownBlock) c5 c1) := ⟨h0_⟩
 have a6 : Aside0 (Kd.R k75 75 d6 w.heap.size (fun k_ => some k_ ≠ (c5 : Value).ownBlock) b9 a9) := ⟨h1_⟩
 replace a2 : Aside0 (d6.heap[b1]? = some (.cells #[.slice b8 a5.length b6, .slice b7 a4.length b5] 46 (0, 0))) := ⟨h2_⟩
 replace a3 : Aside0 (d6.heap[a7]? = some (.cells #[.slice none 0 0, .slice none 0 0] 46 (0, 0))) := ⟨h3_⟩
 replace HB : Aside0 (Below w.heap.size w d6) := ⟨h4_⟩
 clear h0_ h1_ h2_ h3_ h4_
 have hHeld : d6.cell? ⟨b1, 0, none⟩ = some (.slice b8 a5.length b6) ∧ d6.cell? ⟨b1, 1, none⟩ = some (.slice b7 a4.length b5) := hS_
 refine norm_ (a' := ?_) ?_ ?_
 rotate_left
 ·simp only [putAll, Act.put, List.setIfInBounds_toArray, List.set_cons_zero, List.set_cons_succ]
  rfl
 refine one_ (i := 7) (N := some 10) #[true, true, true, true, true, true, true, true, false, false] rfl rfl (one_of HT_.out (by kernel_rfl)) (by decide) (fun K hK => ?_)
 refine Kd.R_append_rows_step k75 (w0 := w) w.heap.size (by rfl) (.tmp 7) (.tmp 9) 44 75 (.agg #[(.int .i64 0), (.int .i64 0), (.int .i64 0), (.int .i64 0)]) 32 rfl Tryz.underlying44 info75 rfl (by decide) (by omega) b9 a9 a4 _ _ _ (fun k_ => some k_ ≠ (c5 : Value).ownBlock) (fun _ => False) rfl rfl ?aO ?aR (fun _ _ h => h) (fun _ h => h.elim) ?aF ?aB ?aS ?aL ?_
 (case aR => exact cb g7 HB)
 (case aB => exact (bb HB))
 (case aF => exact (fun k_ hk => Kd.fresh' (Kd.R_lt (kR b0)) k_ hk))
 (case aO => exact (kR a6))
 (case aS => exact (below_size (bb HB)))
 (case aL => have := h4.out; omega)
 intro m3 g8 ho hb hg hat
 rw [← g6.out] at ho
 replace a2 := am (blk_grown (g := b1) (o := .cells #[.slice b8 a5.length b6, .slice b7 a4.length b5] 46 (0, 0)) (bk a2) hg (Kd.R_ne a6.out a2.out (by decide)))
 replace a3 := am (blk_grown (g := a7) (o := .cells #[.slice none 0 0, .slice none 0 0] 46 (0, 0)) (bk a3) hg (Kd.R_ne a6.out a3.out (by decide)))
 replace b0 := am (Kd.R_after (ok := (fun _ => True)) (by (with_reducible repeat (first | apply Kd.R_alloc | apply Kd.R_drewN | apply Kd.R_drew)); exact Kd.R_mono b0.out (fun _ hk => ⟨trivial, hk⟩)) hg hat)
 replace HB := am (hb)
 have g2 := am (ho)
 clear a6 ho hb hg hat
 obtain ⟨e7, e5, eo14⟩ := Kd.R_slice g2.out
 (first | subst eo14 | (injection eo14 with f1_ f2_ f3_; have f4_ := f1_.symm; have f5_ := f3_.symm; clear f1_ f2_ f3_; subst f4_; subst f5_))
 obtain ⟨e2, d9, eo15⟩ := Kd.R_slice b0.out
 (first | subst eo15 | (injection eo15 with f1_ f2_ f3_; have f4_ := f1_.symm; have f5_ := f3_.symm; clear f1_ f2_ f3_; subst f4_; subst f5_))
 refine hK.out _ _ ⟨bc a2 0, bc a2 1⟩ (fun hHeld => ?_)
 clear hK K
 refine norm_ (a' := ?_) ?_ ?_
 rotate_left
 ·show Act.put _ (some 10) _ = _
  simp only [Act.put, List.setIfInBounds_toArray, List.set_cons_zero, List.set_cons_succ, i64_w, i32_w]
  rfl
 refine pu 8 11 (bits 10 0x1ff) HT_ (h := ?_)
 refine one_ (i := 9) (N := none) #[true, true, true, true, true, true, true, true, true, true] rfl rfl (one_of HT_.out (by kernel_rfl)) (by decide) (fun K hK => ?_)
 have m5 : g8.cell? ⟨a7, 0, none⟩ = some (.slice none 0 0) := bc a3 0
 have j6 := blk_frozen a3.out 0
 have j0 := b2.out
 have j2 := d4.out
 have m4 : g8.cell? ⟨a7, 1, none⟩ = some (.slice none 0 0) := bc a3 1
 have j5 := blk_frozen a3.out 1
 have h9 := b2.out
 have j1 := d4.out
 refine skip_ (w1 := ?_) (by rfl) rfl ?_ ?_
 rotate_left
 ·go_simp
  rfl
 refine hK.out _ _ ⟨((cell_far (p := ⟨a7, _, none⟩) b2.out _).trans (((cell_far (p := ⟨a7, _, none⟩) b2.out _).trans (hHeld.1)))), ((cell_far (p := ⟨a7, _, none⟩) b2.out _).trans (((cell_far (p := ⟨a7, _, none⟩) b2.out _).trans (hHeld.2))))⟩ (fun hHeld => ?_)
 clear hK K
 refine done_ (done_of HT_.out (by kernel_rfl)) ?_
 try go_wp2
 refine bodyPost_ret (results_cell_row rfl _ _ a7 46 #[.slice e2 c1.length d9, .slice e7 d7.length e5] (0, 0) _ rfl (by (with_reducible repeat (first | refine dN ?_ _ | refine dR ?_ | refine dA ?_ _)); refine blk_put (cs := #[.slice e2 c1.length d9, .slice none 0 0]) ?_ 1 _ rfl; refine blk_put (cs := #[.slice none 0 0, .slice none 0 0]) ?_ 0 _ rfl; (with_reducible repeat (first | refine dN ?_ _ | refine dR ?_ | refine dA ?_ _)); exact a3.out) Tryz.underlying46 rfl (by kernel_rfl)) rfl ?_
 exact ⟨_, _, erf, by (with_reducible repeat (first | apply Kd.R_alloc | apply Kd.R_drewN | apply Kd.R_drew)); exact Kd.R_mono (Kd.R_far (p := ⟨a7, 1, none⟩) (Kd.R_far (p := ⟨a7, 0, none⟩) (Kd.R_types b0.out a3.out (by decide)) (fun _ hk => hk.2) (.slice e2 c1.length d9)) (fun _ hk => hk.2) (.slice e7 d7.length e5)) (fun _ hk => hk.1.2), by (with_reducible repeat (first | apply Kd.R_alloc | apply Kd.R_drewN | apply Kd.R_drew)); exact Kd.R_mono (Kd.R_far (p := ⟨a7, 1, none⟩) (Kd.R_far (p := ⟨a7, 0, none⟩) (Kd.R_types g2.out a3.out (by decide)) (fun _ hk => hk.2) (.slice e2 c1.length d9)) (fun _ hk => hk.2) (.slice e7 d7.length e5)) (fun _ hk => hk.1), bb HB⟩
def scarfjointref18_is.f (a0 : Int) (a1 : Int) : Option (Bool) := if a0 ≥ 0 then (some (decide (a0 < a1))) else (some false)
theorem scarfjointref18_is.calls (a0 : Int) (a1 : Int) (r : Bool) (w : World) (h : scarfjointref18_is.f a0 a1 = some r) :
  Calls Tryz.prog 60 #[.int .i64 a0, .int .i64 a1] w fun e w' => e = .returned (.bool r) ∧ Drawn0 w w' := by
 have H : (if a0 ≥ 0 then (some (decide (a0 < a1))) else (some false)) = some r := h
 clear h
 by_cases c3 : a0 ≥ 0
 ·rw [if_pos c3] at H
  have g5 : decide (0 ≤ a0) = true := decide_eq_true c3
  clear c3
  obtain rfl := Option.some.inj H
  go_enter Tryz.func60, Tryz.ntmps60
  go_wp2
  go_ret
  exact ⟨by first | rfl | (simp; done) | (simp [*]; done), drw⟩
 rw [if_neg c3] at H
 have g5 : decide (0 ≤ a0) = false := decide_eq_false c3
 clear c3
 obtain rfl := Option.some.inj H
 go_enter Tryz.func60, Tryz.ntmps60
 go_wp2
 go_ret
 exact ⟨by first | rfl | (simp; done) | (simp [*]; done), drw⟩
def scarfjointref18_total.l0 : Nat → List (S75) → Int → Int → Option (Int)
 | 0, _, _, _ => none
 | k + 1, x0, x3, x4 => if x4 < (x0.length : Int) then (if 0 ≤ x4 then (scarfjointref18_total.l0 k x0 (wrap64 (x3 + ((rd_T75 x0 x4).f3))) (wrap64 (x4 + 1))) else (none)) else (some x3)
def scarfjointref18_total.f (k : Nat) (l0 : List (S75)) : Option (Int) := scarfjointref18_total.l0 k l0 0 0
theorem scarfjointref18_total.calls (k : Nat) (A0 : Option Addr) (c0 : Nat) (l0 : List (S75)) (r : Int) (w : World) (g9 : Kd.C k75 w A0 l0.length l0) (h0 : l0.length ≤ c0) (h : scarfjointref18_total.f k l0 = some r) :
  Calls Tryz.prog 64 #[.slice A0 l0.length c0] w fun e w' => e = .returned (.int .i64 r) ∧ Drawn0 w w' := by
 have j4 := am g9
 have m7 := am h0
 clear g9 h0
 have H : (scarfjointref18_total.l0 k l0 0 0) = some r := h
 clear h
 have H' := am H
 clear H
 go_enter Tryz.func64, Tryz.ntmps64
 go_wp2
 go_loopg [3, 4] k (fun kq v3 v4 w' => ∃ (d8 : Int) (c4 : Int), v3 = .int .i64 d8 ∧ v4 = .int .i64 c4 ∧ Aside0 (scarfjointref18_total.l0 kq l0 d8 c4 = some r) ∧ Aside0 (kq ≤ k) ∧ Drawn0 w w')
 case atStart => exact ⟨(0), (0), eqs, eqs, H', ⟨Nat.le_refl _⟩, drw⟩
 case round =>
  clear H'
  obtain ⟨d8, c4, rfl, rfl, HA, h1, ⟨m1, rfl⟩⟩ := hrel
  cases gk with
  | zero => exact absurd HA.out (by simp [scarfjointref18_total.l0])
  | succ k1 =>
   have H := HA.out
   clear HA
   simp only [scarfjointref18_total.l0] at H
   by_cases c2 : c4 < (l0.length : Int)
   rotate_left
   ·rw [if_neg c2] at H
    have h3 := decide_eq_false c2
    clear c2
    obtain rfl := Option.some.inj H
    go_wp2
    go_ret
    exact ⟨by first | rfl | (simp; done) | (simp [*]; done), drw⟩
   rw [if_pos c2] at H
   have h3 := decide_eq_true c2
   clear c2
   obtain ⟨c3, H⟩ := itn H
   have g5 := decide_eq_true c3
   clear c3
   have H' := am H
   clear H
   have e4 : 0 ≤ c4 := odt
   have e3 : c4 < (l0.length : Int) := odt
   obtain ⟨j7, h2, h8, h7, h6, h5⟩ := at_T75 j4.out c4 e4 e3
   cases h2
   replace e4 := eq_true e4
   replace e3 := eq_true e3
   go_wp2
   go_roundg k1
   case measure => have := h1.out; omega
   case rel => exact ⟨(wrap64 (d8 + ((rd_T75 l0 c4).f3))), (wrap64 (c4 + 1)), eqs, eqs, H', ⟨by have := h1.out; omega⟩, drw⟩
def scarfjointref18_number.l0 : Nat → List (S75) → Int → Int → Int → Int → Int → Option (Int)
 | 0, _, _, _, _, _, _ => none
 | k + 1, x0, x5, c3, c2, c1, b9 => if x5 < (x0.length : Int) then (if 0 ≤ x5 then ((scarfjointref18_compare.f ((rd_T75 x0 x5).f0) ((rd_T75 x0 x5).f1) ((rd_T75 x0 x5).f2) ((rd_T75 x0 x5).f3) c3 c2 c1 b9).bind fun b8 => (if b8 = 0 then (some ((rd_T75 x0 x5).f3)) else (scarfjointref18_number.l0 k x0 (wrap64 (x5 + 1)) c3 c2 c1 b9))) else (none)) else (some 0)
def scarfjointref18_number.f (k : Nat) (l0 : List (S75)) (b0 : Int) (a9 : Int) (a8 : Int) (a7 : Int) : Option (Int) := scarfjointref18_number.l0 k l0 0 b0 a9 a8 a7
theorem scarfjointref18_number.calls (k : Nat) (A0 : Option Addr) (c0 : Nat) (l0 : List (S75)) (b0 : Int) (a9 : Int) (a8 : Int) (a7 : Int) (r : Int) (w : World) (d6 : Kd.C k75 w A0 l0.length l0) (d7 : l0.length ≤ c0) (h : scarfjointref18_number.f k l0 b0 a9 a8 a7 = some r) :
  Calls Tryz.prog 66 #[.slice A0 l0.length c0, .agg #[.int .i64 b0, .int .i64 a9, .int .i64 a8, .int .i64 a7]] w fun e w' => e = .returned (.int .i64 r) ∧ Below w.heap.size w w' := by
 have hu75 := Tryz.underlying75
 have d4 := am d6
 have e7 := am d7
 clear d6 d7
 have HB := am (Below.refl w.heap.size w)
 have H : (scarfjointref18_number.l0 k l0 0 b0 a9 a8 a7) = some r := h
 clear h
 have H' := am H
 clear H
 go_enter Tryz.func66, Tryz.ntmps66
 go_wp2_with (first | ((with_reducible refine gate_dst (N := 3) rfl ?_); refine be 3 #[.int .i64 b0, .int .i64 a9, .int .i64 a8, .int .i64 a7] 75 ?_; intro b1 hg w3 hbox hb; have a1 := am (hbox); have e3 := bsz HB hg; replace HB := bstep HB hb; clear hb hbox hg))
 go_loopg [5] k (fun kq v5 w' => ∃ (a0 : Int), v5 = .int .i64 a0 ∧ Aside0 (scarfjointref18_number.l0 kq l0 a0 b0 a9 a8 a7 = some r) ∧ Aside0 (kq ≤ k) ∧ Aside0 (w'.heap[b1]? = some (.cells #[.int .i64 b0, .int .i64 a9, .int .i64 a8, .int .i64 a7] 75 (0, 0))) ∧ Aside0 (Below w.heap.size w w'))
 case atStart => exact ⟨(0), eqs, H', ⟨Nat.le_refl _⟩, ⟨bk a1⟩, ⟨bb HB⟩⟩
 case round =>
  clear H'
  try clear p2
  obtain ⟨a0, rfl, HA, d8, a1, HB⟩ := hrel
  cases gk with
  | zero => exact absurd HA.out (by simp [scarfjointref18_number.l0])
  | succ k1 =>
   have H := HA.out
   clear HA
   simp only [scarfjointref18_number.l0] at H
   by_cases c4 : a0 < (l0.length : Int)
   rotate_left
   ·rw [if_neg c4] at H
    have e2 := decide_eq_false c4
    clear c4
    obtain rfl := Option.some.inj H
    go_wp2
    go_ret
    exact ⟨erf, bb HB⟩
   rw [if_pos c4] at H
   have e2 := decide_eq_true c4
   clear c4
   obtain ⟨c5, H⟩ := itn H
   have e4 := decide_eq_true c5
   clear c5
   obtain ⟨b8, A6, H⟩ := obA H
   by_cases c7 : b8 = 0
   rotate_left
   ·rw [if_neg c7] at H
    have e1 := beq_eq_false_iff_ne.mpr c7
    have e0 := bne_iff_ne.mpr c7
    have H' := am H
    clear H
    try go_wp2
    replace a1 := am (blk_drew a1.out)
    replace HB := am (below_drew1 HB.out)
    have b7 : 0 ≤ a0 := odt
    have b6 : a0 < (l0.length : Int) := odt
    obtain ⟨a2, d3, a6, a5, a4, a3⟩ := at_T75 d4.out a0 b7 b6
    have b2 := a3
    have b3 := a4
    have b4 := a5
    have b5 := a6
    cases d3
    replace a6 := hxc HB a6
    replace a5 := hxc HB a5
    replace a4 := hxc HB a4
    replace a3 := hxc HB a3
    replace b7 := eq_true b7
    replace b6 := eq_true b6
    refine start_ (n := 7) (S := fun w' => w'.cell? ⟨b1, 0, none⟩ = some (.int .i64 b0) ∧ w'.cell? ⟨b1, 1, none⟩ = some (.int .i64 a9) ∧ w'.cell? ⟨b1, 2, none⟩ = some (.int .i64 a8) ∧ w'.cell? ⟨b1, 3, none⟩ = some (.int .i64 a7) ∧ w'.cell? (a2.add ((a0).toNat * 4)) = some (.int .i64 ((rd_T75 l0 a0).f0)) ∧ w'.cell? ⟨(a2.add ((a0).toNat * 4)).block, (a2.add ((a0).toNat * 4)).off + 1, none⟩ = some (.int .i64 ((rd_T75 l0 a0).f1)) ∧ w'.cell? ⟨(a2.add ((a0).toNat * 4)).block, (a2.add ((a0).toNat * 4)).off + 2, none⟩ = some (.int .i64 ((rd_T75 l0 a0).f2)) ∧ w'.cell? ⟨(a2.add ((a0).toNat * 4)).block, (a2.add ((a0).toNat * 4)).off + 3, none⟩ = some (.int .i64 ((rd_T75 l0 a0).f3))) (ds := []) #[false, false, false, false, false, false, false] (by kernel_rfl) rfl rfl ⟨bc a1 0, bc a1 1, bc a1 2, bc a1 3, (hxc HB b5), (hxc HB b4), (hxc HB b3), (hxc HB b2)⟩ (fun hHeld => ?_)
    generalize wr.drew = e6 at a1 HB a6 a5 a4 a3 hHeld ⊢
    refine pure_ (i := 0) (N := some 12) (v := ?_) (a' := ?_) #[true, false, false, false, false, false, false] rfl rfl (by kernel_rfl) (fun _ _ _ h => h) (Or.inl ⟨by rfl, ?_⟩) ?_ ?_
    rotate_left
    ·intro w'
     go_simp
     with_reducible rfl
    rotate_left
    ·simp only [Act.put, List.setIfInBounds_toArray, List.set_cons_zero, List.set_cons_succ, i64_w, i32_w]
     rfl
    refine pure_ (i := 1) (N := some 13) (v := ?_) (a' := ?_) #[true, true, false, false, false, false, false] rfl rfl (by kernel_rfl) (fun _ _ _ h => h) (Or.inl ⟨by rfl, ?_⟩) ?_ ?_
    rotate_left
    ·intro w'
     go_simp
     with_reducible rfl
    rotate_left
    ·simp only [Act.put, List.setIfInBounds_toArray, List.set_cons_zero, List.set_cons_succ, i64_w, i32_w]
     rfl
    refine pure_ (i := 2) (N := some 14) (v := ?_) (a' := ?_) #[true, true, true, false, false, false, false] rfl rfl (by kernel_rfl) (fun _ _ _ h => h) (Or.inl ⟨by rfl, ?_⟩) ?_ ?_
    rotate_left
    ·intro w'
     go_simp
     with_reducible rfl
    rotate_left
    ·simp only [Act.put, List.setIfInBounds_toArray, List.set_cons_zero, List.set_cons_succ, i64_w, i32_w]
     rfl
    refine take_ (i := 3) (N := some 15) (v := ?_) (a' := ?_) #[true, true, true, true, false, false, false] rfl rfl (by kernel_rfl) (fun _ _ _ h => h) (Or.inl ⟨by rfl, ?_⟩) hHeld ?_ ?_
    rotate_left
    ·rintro w' ⟨s0, s1, s2, s3, s4, s5, s6, s7⟩
     go_simp
     with_reducible rfl
    rotate_left
    ·simp only [Act.put, List.setIfInBounds_toArray, List.set_cons_zero, List.set_cons_succ, i64_w, i32_w]
     rfl
    refine take_ (i := 4) (N := some 16) (v := ?_) (a' := ?_) #[true, true, true, true, true, false, false] rfl rfl (by kernel_rfl) (fun _ _ _ h => h) (Or.inl ⟨by rfl, ?_⟩) hHeld ?_ ?_
    rotate_left
    ·rintro w' ⟨s0, s1, s2, s3, s4, s5, s6, s7⟩
     go_simp
     with_reducible rfl
    rotate_left
    ·simp only [Act.put, List.setIfInBounds_toArray, List.set_cons_zero, List.set_cons_succ, i64_w, i32_w]
     rfl
    refine one_ (i := 5) (N := some 17) #[true, true, true, true, true, true, false] rfl rfl (by kernel_rfl) (by decide) (fun K hK => ?_)
    refine goes_ Tryz.func63 (by kernel_rfl) rfl #[.agg #[.int .i64 ((rd_T75 l0 a0).f0), .int .i64 ((rd_T75 l0 a0).f1), .int .i64 ((rd_T75 l0 a0).f2), .int .i64 ((rd_T75 l0 a0).f3)], .agg #[.int .i64 b0, .int .i64 a9, .int .i64 a8, .int .i64 a7]] (by rfl) rfl rfl (by (try simp only [List.map_toArray, List.map_cons, List.map_nil]); first | done | rfl | (simp only [List.length_drop, List.length_take]; rfl)) ?_
    with_reducible refine (scarfjointref18_compare.calls ((rd_T75 l0 a0).f0) ((rd_T75 l0 a0).f1) ((rd_T75 l0 a0).f2) ((rd_T75 l0 a0).f3) b0 a9 a8 a7 b8 _ A6.out).mono ?_
    rintro e e5 ⟨rfl, hb⟩
    refine ⟨_, rfl, ?_⟩
    replace a1 := bkb a1 hb
    replace HB := bstep HB hb
    (try clear hb)
    (try clear hb2)
    (try clear hk)
    (try clear hi)
    refine hK.out _ _ ⟨bc a1 0, bc a1 1, bc a1 2, bc a1 3, (hxc HB b5), (hxc HB b4), (hxc HB b3), (hxc HB b2)⟩ (fun hHeld => ?_)
    clear hK K
    refine norm_ (a' := ?_) ?_ ?_
    rotate_left
    ·show Act.put _ (some 17) _ = _
     simp only [Act.put, List.setIfInBounds_toArray, List.set_cons_zero, List.set_cons_succ, i64_w, i32_w]
     rfl
    refine pure_ (i := 6) (N := some 18) (v := ?_) (a' := ?_) #[true, true, true, true, true, true, true] rfl rfl (by kernel_rfl) (fun _ _ _ h => h) (Or.inl ⟨by rfl, ?_⟩) ?_ ?_
    rotate_left
    ·intro w'
     go_simp
     with_reducible rfl
    rotate_left
    ·simp only [Act.put, List.setIfInBounds_toArray, List.set_cons_zero, List.set_cons_succ, i64_w, i32_w]
     rfl
    refine done_ (by kernel_rfl) ?_
    try go_wp2
    go_roundg k1
    case measure => have := d8.out; omega
    case rel => exact ⟨(wrap64 (a0 + 1)), eqs, H', ⟨by have := d8.out; omega⟩, ⟨bk a1⟩, ⟨bb HB⟩⟩
   rw [if_pos c7] at H
   have e1 := beq_iff_eq.mpr c7
   have e0 := bne_eq_false_iff_eq.mpr c7
   clear c7
   obtain rfl := Option.some.inj H
   try go_wp2
   replace a1 := am (blk_drew a1.out)
   replace HB := am (below_drew1 HB.out)
   have b7 : 0 ≤ a0 := odt
   have b6 : a0 < (l0.length : Int) := odt
   obtain ⟨a2, d3, a6, a5, a4, a3⟩ := at_T75 d4.out a0 b7 b6
   have b2 := a3
   have b3 := a4
   have b4 := a5
   have b5 := a6
   cases d3
   replace a6 := hxc HB a6
   replace a5 := hxc HB a5
   replace a4 := hxc HB a4
   replace a3 := hxc HB a3
   replace b7 := eq_true b7
   replace b6 := eq_true b6
   refine start_ (n := 7) (S := fun w' => w'.cell? ⟨b1, 0, none⟩ = some (.int .i64 b0) ∧ w'.cell? ⟨b1, 1, none⟩ = some (.int .i64 a9) ∧ w'.cell? ⟨b1, 2, none⟩ = some (.int .i64 a8) ∧ w'.cell? ⟨b1, 3, none⟩ = some (.int .i64 a7) ∧ w'.cell? (a2.add ((a0).toNat * 4)) = some (.int .i64 ((rd_T75 l0 a0).f0)) ∧ w'.cell? ⟨(a2.add ((a0).toNat * 4)).block, (a2.add ((a0).toNat * 4)).off + 1, none⟩ = some (.int .i64 ((rd_T75 l0 a0).f1)) ∧ w'.cell? ⟨(a2.add ((a0).toNat * 4)).block, (a2.add ((a0).toNat * 4)).off + 2, none⟩ = some (.int .i64 ((rd_T75 l0 a0).f2)) ∧ w'.cell? ⟨(a2.add ((a0).toNat * 4)).block, (a2.add ((a0).toNat * 4)).off + 3, none⟩ = some (.int .i64 ((rd_T75 l0 a0).f3))) (ds := []) #[false, false, false, false, false, false, false] (by kernel_rfl) rfl rfl ⟨bc a1 0, bc a1 1, bc a1 2, bc a1 3, (hxc HB b5), (hxc HB b4), (hxc HB b3), (hxc HB b2)⟩ (fun hHeld => ?_)
   generalize wr.drew = w8 at a1 HB a6 a5 a4 a3 hHeld ⊢
   refine pure_ (i := 0) (N := some 12) (v := ?_) (a' := ?_) #[true, false, false, false, false, false, false] rfl rfl (by kernel_rfl) (fun _ _ _ h => h) (Or.inl ⟨by rfl, ?_⟩) ?_ ?_
   rotate_left
   ·intro w'
    go_simp
    with_reducible rfl
   rotate_left
   ·simp only [Act.put, List.setIfInBounds_toArray, List.set_cons_zero, List.set_cons_succ, i64_w, i32_w]
    rfl
   refine pure_ (i := 1) (N := some 13) (v := ?_) (a' := ?_) #[true, true, false, false, false, false, false] rfl rfl (by kernel_rfl) (fun _ _ _ h => h) (Or.inl ⟨by rfl, ?_⟩) ?_ ?_
   rotate_left
   ·intro w'
    go_simp
    with_reducible rfl
   rotate_left
   ·simp only [Act.put, List.setIfInBounds_toArray, List.set_cons_zero, List.set_cons_succ, i64_w, i32_w]
    rfl
   refine pure_ (i := 2) (N := some 14) (v := ?_) (a' := ?_) #[true, true, true, false, false, false, false] rfl rfl (by kernel_rfl) (fun _ _ _ h => h) (Or.inl ⟨by rfl, ?_⟩) ?_ ?_
   rotate_left
   ·intro w'
    go_simp
    with_reducible rfl
   rotate_left
   ·simp only [Act.put, List.setIfInBounds_toArray, List.set_cons_zero, List.set_cons_succ, i64_w, i32_w]
    rfl
   refine take_ (i := 3) (N := some 15) (v := ?_) (a' := ?_) #[true, true, true, true, false, false, false] rfl rfl (by kernel_rfl) (fun _ _ _ h => h) (Or.inl ⟨by rfl, ?_⟩) hHeld ?_ ?_
   rotate_left
   ·rintro w' ⟨s0, s1, s2, s3, s4, s5, s6, s7⟩
    go_simp
    with_reducible rfl
   rotate_left
   ·simp only [Act.put, List.setIfInBounds_toArray, List.set_cons_zero, List.set_cons_succ, i64_w, i32_w]
    rfl
   refine take_ (i := 4) (N := some 16) (v := ?_) (a' := ?_) #[true, true, true, true, true, false, false] rfl rfl (by kernel_rfl) (fun _ _ _ h => h) (Or.inl ⟨by rfl, ?_⟩) hHeld ?_ ?_
   rotate_left
   ·rintro w' ⟨s0, s1, s2, s3, s4, s5, s6, s7⟩
    go_simp
    with_reducible rfl
   rotate_left
   ·simp only [Act.put, List.setIfInBounds_toArray, List.set_cons_zero, List.set_cons_succ, i64_w, i32_w]
    rfl
   refine one_ (i := 5) (N := some 17) #[true, true, true, true, true, true, false] rfl rfl (by kernel_rfl) (by decide) (fun K hK => ?_)
   refine goes_ Tryz.func63 (by kernel_rfl) rfl #[.agg #[.int .i64 ((rd_T75 l0 a0).f0), .int .i64 ((rd_T75 l0 a0).f1), .int .i64 ((rd_T75 l0 a0).f2), .int .i64 ((rd_T75 l0 a0).f3)], .agg #[.int .i64 b0, .int .i64 a9, .int .i64 a8, .int .i64 a7]] (by rfl) rfl rfl (by (try simp only [List.map_toArray, List.map_cons, List.map_nil]); first | done | rfl | (simp only [List.length_drop, List.length_take]; rfl)) ?_
   with_reducible refine (scarfjointref18_compare.calls ((rd_T75 l0 a0).f0) ((rd_T75 l0 a0).f1) ((rd_T75 l0 a0).f2) ((rd_T75 l0 a0).f3) b0 a9 a8 a7 b8 _ A6.out).mono ?_
   rintro e w9 ⟨rfl, hb⟩
   refine ⟨_, rfl, ?_⟩
   replace a1 := bkb a1 hb
   replace HB := bstep HB hb
   (try clear hb)
   (try clear hb2)
   (try clear hk)
   (try clear hi)
   refine hK.out _ _ ⟨bc a1 0, bc a1 1, bc a1 2, bc a1 3, (hxc HB b5), (hxc HB b4), (hxc HB b3), (hxc HB b2)⟩ (fun hHeld => ?_)
   clear hK K
   refine norm_ (a' := ?_) ?_ ?_
   rotate_left
   ·show Act.put _ (some 17) _ = _
    simp only [Act.put, List.setIfInBounds_toArray, List.set_cons_zero, List.set_cons_succ, i64_w, i32_w]
    rfl
   refine pure_ (i := 6) (N := some 18) (v := ?_) (a' := ?_) #[true, true, true, true, true, true, true] rfl rfl (by kernel_rfl) (fun _ _ _ h => h) (Or.inl ⟨by rfl, ?_⟩) ?_ ?_
   rotate_left
   ·intro w'
    go_simp
    with_reducible rfl
   rotate_left
   ·simp only [Act.put, List.setIfInBounds_toArray, List.set_cons_zero, List.set_cons_succ, i64_w, i32_w]
    rfl
   refine done_ (by kernel_rfl) ?_
   have d2 : 0 ≤ a0 := odt
   have d1 : a0 < (l0.length : Int) := odt
   obtain ⟨d5, d9, d0, c9, c8, c6⟩ := at_T75 d4.out a0 d2 d1
   obtain rfl : a2 = d5 := (by injection d9)
   replace d0 := hxc HB d0
   replace c9 := hxc HB c9
   replace c8 := hxc HB c8
   replace c6 := hxc HB c6
   replace d2 := eq_true d2
   replace d1 := eq_true d1
   try go_wp2
   go_ret
   exact ⟨erf, bb HB⟩
mutual
def scarfjointref18_Valid.l0 : Nat → Int → List (S96) → List (S101) → List (S75) → List (S75) → Option (Int)
 | 0, _, _, _, _, _ => none
 | k + 1, x7, b5, b7, a5, a7 => if x7 < (a5.length : Int) then (if 0 ≤ x7 then ((scarfjointref18_is.f ((rd_T75 a5 x7).f0) (b5.length : Int)).bind fun Q3 => (if Q3 = true then (if ((rd_T75 a5 x7).f1) = 0 then (if ((rd_T75 a5 x7).f2) = 0 then (if ((rd_T75 a5 x7).f3) < 1 then (scarfjointref18_Valid.j1 k x7 true b5 b7 a5 a7 ((rd_T75 a5 x7).f0) ((rd_T75 a5 x7).f1) ((rd_T75 a5 x7).f2) ((rd_T75 a5 x7).f3)) else (scarfjointref18_Valid.j1 k x7 (decide (((rd_T75 a5 x7).f3) > 40)) b5 b7 a5 a7 ((rd_T75 a5 x7).f0) ((rd_T75 a5 x7).f1) ((rd_T75 a5 x7).f2) ((rd_T75 a5 x7).f3))) else (scarfjointref18_Valid.j1 k x7 true b5 b7 a5 a7 ((rd_T75 a5 x7).f0) ((rd_T75 a5 x7).f1) ((rd_T75 a5 x7).f2) ((rd_T75 a5 x7).f3))) else (scarfjointref18_Valid.j1 k x7 true b5 b7 a5 a7 ((rd_T75 a5 x7).f0) ((rd_T75 a5 x7).f1) ((rd_T75 a5 x7).f2) ((rd_T75 a5 x7).f3))) else (scarfjointref18_Valid.j1 k x7 true b5 b7 a5 a7 ((rd_T75 a5 x7).f0) ((rd_T75 a5 x7).f1) ((rd_T75 a5 x7).f2) ((rd_T75 a5 x7).f3)))) else (none)) else ((scarfjointref18_total.f k a5).bind fun A0 => (if A0 > 40 then (some 3) else (scarfjointref18_Valid.l1 k 0 b5 b7 a5 a7)))
def scarfjointref18_Valid.j1 : Nat → Int → Bool → List (S96) → List (S101) → List (S75) → List (S75) → Int → Int → Int → Int → Option (Int)
 | 0, _, _, _, _, _, _, _, _, _, _ => none
 | k + 1, x7, x57, b5, b7, a5, a7, Z9, Z8, Z7, Z6 => if x57 = true then (some 6) else (if x7 > 0 then (if 0 ≤ (wrap64 (x7 - 1)) then (if (wrap64 (x7 - 1)) < (a5.length : Int) then ((scarfjointref18_compare.f ((rd_T75 a5 (wrap64 (x7 - 1))).f0) ((rd_T75 a5 (wrap64 (x7 - 1))).f1) ((rd_T75 a5 (wrap64 (x7 - 1))).f2) ((rd_T75 a5 (wrap64 (x7 - 1))).f3) Z9 Z8 Z7 Z6).bind fun m4 => (if m4 ≥ 0 then (some 12) else (scarfjointref18_Valid.l0 k (wrap64 (x7 + 1)) b5 b7 a5 a7))) else (none)) else (none)) else (scarfjointref18_Valid.l0 k (wrap64 (x7 + 1)) b5 b7 a5 a7))
def scarfjointref18_Valid.l1 : Nat → Int → List (S96) → List (S101) → List (S75) → List (S75) → Option (Int)
 | 0, _, _, _, _, _ => none
 | k + 1, x9, b5, b7, a5, a7 => if x9 < (a7.length : Int) then (if 0 ≤ x9 then ((scarfjointref18_is.f ((rd_T75 a7 x9).f0) (b7.length : Int)).bind fun Q2 => (if Q2 = true then ((scarfjointref18_is.f ((rd_T75 a7 x9).f1) (b5.length : Int)).bind fun Q1 => (if Q1 = true then ((scarfjointref18_is.f ((rd_T75 a7 x9).f2) (b5.length : Int)).bind fun Q0 => (if Q0 = true then (if ((rd_T75 a7 x9).f3) < 1 then (scarfjointref18_Valid.j3 k x9 true b5 b7 a5 a7 ((rd_T75 a7 x9).f0) ((rd_T75 a7 x9).f1) ((rd_T75 a7 x9).f2) ((rd_T75 a7 x9).f3)) else (scarfjointref18_Valid.j3 k x9 (decide (((rd_T75 a7 x9).f3) > 80)) b5 b7 a5 a7 ((rd_T75 a7 x9).f0) ((rd_T75 a7 x9).f1) ((rd_T75 a7 x9).f2) ((rd_T75 a7 x9).f3))) else (scarfjointref18_Valid.j3 k x9 true b5 b7 a5 a7 ((rd_T75 a7 x9).f0) ((rd_T75 a7 x9).f1) ((rd_T75 a7 x9).f2) ((rd_T75 a7 x9).f3)))) else (scarfjointref18_Valid.j3 k x9 true b5 b7 a5 a7 ((rd_T75 a7 x9).f0) ((rd_T75 a7 x9).f1) ((rd_T75 a7 x9).f2) ((rd_T75 a7 x9).f3)))) else (scarfjointref18_Valid.j3 k x9 true b5 b7 a5 a7 ((rd_T75 a7 x9).f0) ((rd_T75 a7 x9).f1) ((rd_T75 a7 x9).f2) ((rd_T75 a7 x9).f3)))) else (none)) else ((scarfjointref18_total.f k a7).bind fun y9 => (if y9 > 80 then (some 3) else (some 0)))
def scarfjointref18_Valid.j3 : Nat → Int → Bool → List (S96) → List (S101) → List (S75) → List (S75) → Int → Int → Int → Int → Option (Int)
 | 0, _, _, _, _, _, _, _, _, _, _ => none
 | k + 1, x9, a1e, b5, b7, a5, a7, h8, g9, g8, n4 => if a1e = true then (some 6) else ((q4_Fits.f k b5 b7 h8 g9 g8).bind fun P9 => (if P9 = true then ((scarfjointref18_number.f k a5 g9 0 0 0).bind fun E9 => (if E9 = 0 then (scarfjointref18_Valid.j4 k x9 true b5 b7 a5 a7 h8 g9 g8 n4) else ((scarfjointref18_number.f k a5 g8 0 0 0).bind fun O3 => (scarfjointref18_Valid.j4 k x9 (O3 == 0) b5 b7 a5 a7 h8 g9 g8 n4)))) else (some 13)))
def scarfjointref18_Valid.j4 : Nat → Int → Bool → List (S96) → List (S101) → List (S75) → List (S75) → Int → Int → Int → Int → Option (Int)
 | 0, _, _, _, _, _, _, _, _, _, _ => none
 | k + 1, x9, a1d, b5, b7, a5, a7, h8, g9, g8, n4 => if a1d = true then (some 10) else (if x9 > 0 then (if 0 ≤ (wrap64 (x9 - 1)) then (if (wrap64 (x9 - 1)) < (a7.length : Int) then ((scarfjointref18_compare.f ((rd_T75 a7 (wrap64 (x9 - 1))).f0) ((rd_T75 a7 (wrap64 (x9 - 1))).f1) ((rd_T75 a7 (wrap64 (x9 - 1))).f2) ((rd_T75 a7 (wrap64 (x9 - 1))).f3) h8 g9 g8 n4).bind fun m3 => (if m3 ≥ 0 then (some 12) else (scarfjointref18_Valid.l1 k (wrap64 (x9 + 1)) b5 b7 a5 a7))) else (none)) else (none)) else (scarfjointref18_Valid.l1 k (wrap64 (x9 + 1)) b5 b7 a5 a7))
end
def scarfjointref18_Valid.f (k : Nat) (b4 : List (S96)) (b6 : List (S101)) (a1 : List (S75)) (a0 : List (S75)) : Option (Int) := (q4_Valid.f k b4 b6).bind fun C1 => (if C1.2 = 0 then (scarfjointref18_Valid.l0 k 0 b4 b6 a1 a0) else (some C1.2))
def scarfjointref18_Valid.T10 : Bool × List (List Nat × List Nat) := (true, [([], []), ([0], [0]), ([1], [1]), ([2], [2]), ([3, 2], [2, 3]), ([2], [2]), ([5, 2], [2, 5]), ([4, 6, 2], [2, 4, 6]), ([7, 2], [2, 7]), ([2], [2]), ([8, 9, 2, 2], [2, 8, 9]), ([10, 2], [2, 10]), ([2, 11], [2, 11])])
def scarfjointref18_Valid.B10 : List Nat := [0, 1, 3, 7, 15, 7, 39, 127, 255, 7, 1023, 2047, 4095]
theorem scarfjointref18_Valid.tab10 : rtab .any (opsOf Tryz.f30 10) = scarfjointref18_Valid.T10 := by kernel_rfl
theorem scarfjointref18_Valid.bits10 : waitsOk scarfjointref18_Valid.T10.2 scarfjointref18_Valid.B10 = true := by kernel_rfl
def scarfjointref18_Valid.T24 : Bool × List (List Nat × List Nat) := (true, [([], []), ([0], [0]), ([1], [1]), ([2], [2]), ([3, 2], [2, 3]), ([2], [2]), ([5, 2], [2, 5]), ([4, 6, 2], [2, 4, 6]), ([7, 2], [2, 7]), ([2], [2]), ([8, 9, 2, 2], [2, 8, 9]), ([10, 2], [2, 10]), ([2, 11], [2, 11])])
def scarfjointref18_Valid.B24 : List Nat := [0, 1, 3, 7, 15, 7, 39, 127, 255, 7, 1023, 2047, 4095]
theorem scarfjointref18_Valid.tab24 : rtab .any (opsOf Tryz.f30 24) = scarfjointref18_Valid.T24 := by kernel_rfl
theorem scarfjointref18_Valid.bits24 : waitsOk scarfjointref18_Valid.T24.2 scarfjointref18_Valid.B24 = true := by kernel_rfl
theorem scarfjointref18_Valid.calls (k : Nat) (g5 : Option Addr) (g3 : Nat) (b4 : List (S96)) (g4 : Option Addr) (g2 : Nat) (b6 : List (S101)) (g1 : Option Addr) (e0 : Nat) (a1 : List (S75)) (h4 : Option Addr) (e5 : Nat) (a0 : List (S75)) (r : Int) (w : World) (Y3 : Kd.C k96 w g5 b4.length b4) (Y7 : b4.length ≤ g3) (Y2 : Kd.C k101 w g4 b6.length b6) (Y6 : b6.length ≤ g2) (Y1 : Kd.C k75 w g1 a1.length a1) (Y5 : a1.length ≤ e0) (Y0 : Kd.C k75 w h4 a0.length a0) (Y4 : a0.length ≤ e5) (h : scarfjointref18_Valid.f k b4 b6 a1 a0 = some r) :
  Calls Tryz.prog 30 #[.agg #[.slice g5 b4.length g3, .slice g4 b6.length g2], .agg #[.slice g1 a1.length e0, .slice h4 a0.length e5]] w fun e w' => e = .returned (.int .i64 r) ∧ Below w.heap.size w w' := by
 have hu31 := Tryz.underlying31
 have hu46 := Tryz.underlying46
 have hu75 := Tryz.underlying75
 have E5 := am Y3
 have E8 := am Y7
 clear Y3 Y7
 have E4 := am Y2
 have E7 := am Y6
 clear Y2 Y6
 have h5 := am Y1
 have C3 := am Y5
 clear Y1 Y5
 have C2 := am Y0
 have Z4 := am Y4
 clear Y0 Y4
 have HB := am (Below.refl w.heap.size w)
 have H : ((q4_Valid.f k b4 b6).bind fun C1 => (if C1.2 = 0 then (scarfjointref18_Valid.l0 k 0 b4 b6 a1 a0) else (some C1.2))) = some r := h
 clear h
 obtain ⟨⟨a0a, F0⟩, A3, H⟩ := obA H
 replace H : (if F0 = 0 then (scarfjointref18_Valid.l0 k 0 b4 b6 a1 a0) else (some F0)) = some r := H
 by_cases c4 : F0 = 0
 rotate_left
 ·rw [if_neg c4] at H
  have X6 := beq_eq_false_iff_ne.mpr c4
  have X5 := bne_iff_ne.mpr c4
  obtain rfl := Option.some.inj H
  go_enter Tryz.func30, Tryz.ntmps30
  go_wp2_with (first | ((with_reducible refine gate_dst (N := 2) rfl ?_); (try (refine gate_guard (by rfl) ?_; dsimp only)); refine be 2 #[.slice g5 b4.length g3, .slice g4 b6.length g2] 31 ?_; intro y6 hg b6c hbox hb; have a4 := am (hbox); have a1c := bsz HB hg; replace HB := bstep HB hb; clear hb hbox hg) | ((with_reducible refine gate_dst (N := 3) rfl ?_); (try (refine gate_guard (by rfl) ?_; dsimp only)); refine be 3 #[.slice g1 a1.length e0, .slice h4 a0.length e5] 46 ?_; intro d9 hg b6b hbox hb; have a3 := am (hbox); have a1b := bsz HB hg; replace HB := bstep HB hb; have b1 := blt a4 hg; have b0 := bgt a4 hg; replace a4 := bkb a4 hb; clear hb hbox hg; have a6j := b1.out; have a5a := b0.out; obtain ⟨a3c, a3b, a2a, a1j⟩ := cz2 a4) | ((with_reducible refine gate_callee (f := 62) rfl ?_); refine gl 13 Tryz.func62 #[.agg #[.slice g5 b4.length g3, .slice g4 b6.length g2]] (h := ?_); (with_reducible refine (q4_Valid.calls k _ _ b4 _ _ b6 a0a F0 _ ?b9 ?b8 ?m6 ?m5 A3.out).mono ?_); (case b9 => exact cb E5 HB); (case b8 => exact E8.out); (case m6 => exact cb E4 HB); (case m5 => exact E7.out); rintro e b6a ⟨rfl, hb⟩; refine ⟨_, rfl, ?_⟩; replace a4 := bkb a4 hb; replace a3 := bkb a3 hb; replace HB := bstep HB hb; (try clear hb); (try clear hb2); (try clear hk); (try clear hi)))
  go_ret
  exact ⟨erf, bb HB⟩
 rw [if_pos c4] at H
 have X6 := beq_iff_eq.mpr c4
 have X5 := bne_eq_false_iff_eq.mpr c4
 clear c4
 have H' := am H
 clear H
 go_enter Tryz.func30, Tryz.ntmps30
 go_wp2_with (first | ((with_reducible refine gate_dst (N := 2) rfl ?_); (try (refine gate_guard (by rfl) ?_; dsimp only)); refine be 2 #[.slice g5 b4.length g3, .slice g4 b6.length g2] 31 ?_; intro y6 hg w5 hbox hb; have a4 := am (hbox); have a1c := bsz HB hg; replace HB := bstep HB hb; clear hb hbox hg) | ((with_reducible refine gate_dst (N := 3) rfl ?_); (try (refine gate_guard (by rfl) ?_; dsimp only)); refine be 3 #[.slice g1 a1.length e0, .slice h4 a0.length e5] 46 ?_; intro d9 hg w6 hbox hb; have a3 := am (hbox); have a1b := bsz HB hg; replace HB := bstep HB hb; have b1 := blt a4 hg; have b0 := bgt a4 hg; replace a4 := bkb a4 hb; clear hb hbox hg; have b7e := b1.out; have b7d := b0.out; obtain ⟨n1, n0, m9, m8⟩ := cz2 a4) | ((with_reducible refine gate_callee (f := 62) rfl ?_); refine gl 13 Tryz.func62 #[.agg #[.slice g5 b4.length g3, .slice g4 b6.length g2]] (h := ?_); (with_reducible refine (q4_Valid.calls k _ _ b4 _ _ b6 a0a F0 _ ?b9 ?b8 ?m6 ?m5 A3.out).mono ?_); (case b9 => exact cb E5 HB); (case b8 => exact E8.out); (case m6 => exact cb E4 HB); (case m5 => exact E7.out); rintro e w9 ⟨rfl, hb⟩; refine ⟨_, rfl, ?_⟩; replace a4 := bkb a4 hb; replace a3 := bkb a3 hb; replace HB := bstep HB hb; (try clear hb); (try clear hb2); (try clear hk); (try clear hi)))
 go_loopg [7] k (fun kq v7 w' => ∃ (a6 : Int), v7 = .int .i64 a6 ∧ Aside0 (scarfjointref18_Valid.l0 kq a6 b4 b6 a1 a0 = some r) ∧ Aside0 (kq ≤ k) ∧ Aside0 (w'.heap[y6]? = some (.cells #[(.slice g5 b4.length g3), (.slice g4 b6.length g2)] 31 (0, 0))) ∧ Aside0 (w'.heap[d9]? = some (.cells #[(.slice g1 a1.length e0), (.slice h4 a0.length e5)] 46 (0, 0))) ∧ Aside0 (Below w.heap.size w w'))
 case atStart => exact ⟨(0), eqs, H', ⟨Nat.le_refl _⟩, ⟨bk a4⟩, ⟨bk a3⟩, ⟨bb HB⟩⟩
 case round =>
  clear H'
  try clear c1
  try clear p2
  try clear c3
  try clear c4
  try clear X6
  try clear X5
  try clear c6
  try clear c7
  try clear n1
  try clear n0
  try clear m9
  try clear m8
  obtain ⟨a6, rfl, HA, g0, a4, a3, HB⟩ := hrel
  cases gk with
  | zero => exact absurd HA.out (by simp [scarfjointref18_Valid.l0])
  | succ k1 =>
   have H := HA.out
   clear HA
   simp only [scarfjointref18_Valid.l0] at H
   by_cases y8 : a6 < (a1.length : Int)
   ·rw [if_pos y8] at H
    have C0 := decide_eq_true y8
    clear y8
    obtain ⟨O2, H⟩ := itn H
    have a1a := decide_eq_true O2
    clear O2
    have X8 := am H
    clear H
    have b5h := b0.out
    have b2d := b1.out
    obtain ⟨y5, y4, t0, r9⟩ := cz2 a3
    have A5 : 0 ≤ a6 := odt
    have A2 : a6 < (a1.length : Int) := odt
    obtain ⟨d0, a4e, h3, h2, h1, h0⟩ := at_T75 h5.out a6 A5 A2
    cases a4e
    replace h3 := hxc HB h3
    replace h2 := hxc HB h2
    replace h1 := hxc HB h1
    replace h0 := hxc HB h0
    replace A5 := eq_true A5
    replace A2 := eq_true A2
    go_upto_region 8 with (first | ((with_reducible refine gate_dst (N := 8) rfl ?_); (try (refine gate_guard (by rfl) ?_; dsimp only)); refine be 8 #[.int .i64 0, .int .i64 0, .int .i64 0, .int .i64 0] 75 ?_; intro g7 hg w15 hbox hb; have b2 := am (hbox); have b5j := bsz HB hg; replace HB := bstep HB hb; have e9 := blt a4 hg; have e7 := bgt a4 hg; replace a4 := bkb a4 hb; have e8 := blt a3 hg; have e6 := bgt a3 hg; replace a3 := bkb a3 hb; clear hb hbox hg; have b5g := e7.out; have b2c := e9.out; have b5f := e6.out; have b2b := e8.out; obtain ⟨y3, y2, y1, y0, r8, r7, r6, r5⟩ := cz4 b2))
    (try simp only [Act.put, List.setIfInBounds_toArray, List.set_cons_zero, List.set_cons_succ])
    go_cut [57] (fun v57 wc => ∃ (kq : Nat) (A6 : Bool), v57 = .bool A6 ∧ Aside0 (scarfjointref18_Valid.j1 kq a6 A6 b4 b6 a1 a0 ((rd_T75 a1 a6).f0) ((rd_T75 a1 a6).f1) ((rd_T75 a1 a6).f2) ((rd_T75 a1 a6).f3) = some r) ∧ Aside0 (kq ≤ k1) ∧ Aside0 (wc.heap[y6]? = some (.cells #[(.slice g5 b4.length g3), (.slice g4 b6.length g2)] 31 (0, 0))) ∧ Aside0 (wc.heap[d9]? = some (.cells #[(.slice (some d0) a1.length e0), (.slice h4 a0.length e5)] 46 (0, 0))) ∧ Aside0 (wc.heap[g7]? = some (.cells #[.int .i64 ((rd_T75 a1 a6).f0), .int .i64 ((rd_T75 a1 a6).f1), .int .i64 ((rd_T75 a1 a6).f2), .int .i64 ((rd_T75 a1 a6).f3)] 75 (0, 0))) ∧ Aside0 (Below w.heap.size w wc))
    case first =>
     have H := X8.out
     clear X8
     obtain ⟨Q3, P8, H⟩ := obA H
     by_cases P5 : Q3 = true
     rotate_left
     ·replace P5 := Bool.eq_false_iff.mpr P5
      subst P5
      replace H := iff_ H
      have H' := am H
      clear H
      have b4c := e7.out
      have b0i := e9.out
      have b4b := e6.out
      have b0h := e8.out
      obtain ⟨t6, t5, t4, t3, o6, o5, o4, o3⟩ := cz4 b2
      have b4a := b1.out
      have b0g := b0.out
      obtain ⟨t2, t1, o2, o1⟩ := cz2 a4
      go_wp2_with (first | ((with_reducible refine gate_callee (f := 60) rfl ?_); refine gl 36 Tryz.func60 #[.int .i64 ((rd_T75 a1 a6).f0), .int .i64 (b4.length : Int)] (h := ?_); (with_reducible refine (scarfjointref18_is.calls ((rd_T75 a1 a6).f0) (b4.length : Int) false _ P8.out).mono ?_); rintro e w' ⟨rfl, ⟨nd, rfl⟩⟩; refine ⟨_, rfl, ?_⟩))
      go_meet
      case rel => exact ⟨_, (true), eqs, H', ⟨by have := g0.out; first | omega | exact Nat.le_refl _⟩, ⟨bkF a4⟩, ⟨bkF a3⟩, ⟨by (with_reducible repeat (first | refine dN ?_ _ | refine dR ?_ | refine dA ?_ _)); refine blk_put (cs := #[.int .i64 ((rd_T75 a1 a6).f0), .int .i64 ((rd_T75 a1 a6).f1), .int .i64 ((rd_T75 a1 a6).f2), .int .i64 0]) ?_ 3 _ rfl; refine blk_put (cs := #[.int .i64 ((rd_T75 a1 a6).f0), .int .i64 ((rd_T75 a1 a6).f1), .int .i64 0, .int .i64 0]) ?_ 2 _ rfl; refine blk_put (cs := #[.int .i64 ((rd_T75 a1 a6).f0), .int .i64 0, .int .i64 0, .int .i64 0]) ?_ 1 _ rfl; refine blk_put (cs := #[.int .i64 0, .int .i64 0, .int .i64 0, .int .i64 0]) ?_ 0 _ rfl; (with_reducible repeat (first | refine dN ?_ _ | refine dR ?_ | refine dA ?_ _)); exact b2.out⟩, ⟨bb HB⟩⟩
     subst P5
     replace H := ift H
     by_cases E0 : ((rd_T75 a1 a6).f1) = 0
     rotate_left
     ·rw [if_neg E0] at H
      have y7 := beq_eq_false_iff_ne.mpr E0
      have Z3 := bne_iff_ne.mpr E0
      (first | rw [y7] | (simp only [i64_w, i32_w]; rw [y7]) | skip)
      have H' := am H
      clear H
      have b4f := e7.out
      have b1b := e9.out
      have b4e := e6.out
      have b1a := e8.out
      obtain ⟨v2, v1, v0, t9, p3, p1, p0, o9⟩ := cz4 b2
      have b4d := b1.out
      have b0j := b0.out
      obtain ⟨t8, t7, o8, o7⟩ := cz2 a4
      go_wp2_with (first | ((with_reducible refine gate_callee (f := 60) rfl ?_); refine gl 36 Tryz.func60 #[.int .i64 ((rd_T75 a1 a6).f0), .int .i64 (b4.length : Int)] (h := ?_); (with_reducible refine (scarfjointref18_is.calls ((rd_T75 a1 a6).f0) (b4.length : Int) true _ P8.out).mono ?_); rintro e w' ⟨rfl, ⟨nd, rfl⟩⟩; refine ⟨_, rfl, ?_⟩))
      go_meet
      case rel => exact ⟨_, (true), eqs, H', ⟨by have := g0.out; first | omega | exact Nat.le_refl _⟩, ⟨bkF a4⟩, ⟨bkF a3⟩, ⟨by (with_reducible repeat (first | refine dN ?_ _ | refine dR ?_ | refine dA ?_ _)); refine blk_put (cs := #[.int .i64 ((rd_T75 a1 a6).f0), .int .i64 ((rd_T75 a1 a6).f1), .int .i64 ((rd_T75 a1 a6).f2), .int .i64 0]) ?_ 3 _ rfl; refine blk_put (cs := #[.int .i64 ((rd_T75 a1 a6).f0), .int .i64 ((rd_T75 a1 a6).f1), .int .i64 0, .int .i64 0]) ?_ 2 _ rfl; refine blk_put (cs := #[.int .i64 ((rd_T75 a1 a6).f0), .int .i64 0, .int .i64 0, .int .i64 0]) ?_ 1 _ rfl; refine blk_put (cs := #[.int .i64 0, .int .i64 0, .int .i64 0, .int .i64 0]) ?_ 0 _ rfl; (with_reducible repeat (first | refine dN ?_ _ | refine dR ?_ | refine dA ?_ _)); exact b2.out⟩, ⟨bb HB⟩⟩
     rw [if_pos E0] at H
     have y7 := beq_iff_eq.mpr E0
     have Z3 := bne_eq_false_iff_eq.mpr E0
     clear E0
     (first | rw [y7] | (simp only [i64_w, i32_w]; rw [y7]) | skip)
     by_cases D9 : ((rd_T75 a1 a6).f2) = 0
     rotate_left
     ·rw [if_neg D9] at H
      have Z2 := beq_eq_false_iff_ne.mpr D9
      have Z1 := bne_iff_ne.mpr D9
      have H' := am H
      clear H
      have b4i := e7.out
      have b1e := e9.out
      have b4h := e6.out
      have b1d := e8.out
      obtain ⟨w0, v8, v6, v5, q1, q0, p8, p7⟩ := cz4 b2
      have b4g := b1.out
      have b1c := b0.out
      obtain ⟨v4, v3, p5, p4⟩ := cz2 a4
      go_wp2_with (first | ((with_reducible refine gate_callee (f := 60) rfl ?_); refine gl 36 Tryz.func60 #[.int .i64 ((rd_T75 a1 a6).f0), .int .i64 (b4.length : Int)] (h := ?_); (with_reducible refine (scarfjointref18_is.calls ((rd_T75 a1 a6).f0) (b4.length : Int) true _ P8.out).mono ?_); rintro e w' ⟨rfl, ⟨nd, rfl⟩⟩; refine ⟨_, rfl, ?_⟩))
      go_meet
      case rel => exact ⟨_, (true), eqs, H', ⟨by have := g0.out; first | omega | exact Nat.le_refl _⟩, ⟨bkF a4⟩, ⟨bkF a3⟩, ⟨by (with_reducible repeat (first | refine dN ?_ _ | refine dR ?_ | refine dA ?_ _)); refine blk_put (cs := #[.int .i64 ((rd_T75 a1 a6).f0), .int .i64 ((rd_T75 a1 a6).f1), .int .i64 ((rd_T75 a1 a6).f2), .int .i64 0]) ?_ 3 _ rfl; refine blk_put (cs := #[.int .i64 ((rd_T75 a1 a6).f0), .int .i64 ((rd_T75 a1 a6).f1), .int .i64 0, .int .i64 0]) ?_ 2 _ rfl; refine blk_put (cs := #[.int .i64 ((rd_T75 a1 a6).f0), .int .i64 0, .int .i64 0, .int .i64 0]) ?_ 1 _ rfl; refine blk_put (cs := #[.int .i64 0, .int .i64 0, .int .i64 0, .int .i64 0]) ?_ 0 _ rfl; (with_reducible repeat (first | refine dN ?_ _ | refine dR ?_ | refine dA ?_ _)); exact b2.out⟩, ⟨bb HB⟩⟩
     rw [if_pos D9] at H
     have Z2 := beq_iff_eq.mpr D9
     have Z1 := bne_eq_false_iff_eq.mpr D9
     clear D9
     by_cases H8 : ((rd_T75 a1 a6).f3) < 1
     rotate_left
     ·rw [if_neg H8] at H
      have Z0 := decide_eq_false H8
      clear H8
      have H' := am H
      clear H
      have b5b := e7.out
      have b1h := e9.out
      have b5a := e6.out
      have b1g := e8.out
      obtain ⟨w8, w7, w4, w3, q7, q6, q5, q4⟩ := cz4 b2
      have b4j := b1.out
      have b1f := b0.out
      obtain ⟨w2, w1, q3, q2⟩ := cz2 a4
      go_wp2_with (first | ((with_reducible refine gate_callee (f := 60) rfl ?_); refine gl 36 Tryz.func60 #[.int .i64 ((rd_T75 a1 a6).f0), .int .i64 (b4.length : Int)] (h := ?_); (with_reducible refine (scarfjointref18_is.calls ((rd_T75 a1 a6).f0) (b4.length : Int) true _ P8.out).mono ?_); rintro e w' ⟨rfl, ⟨nd, rfl⟩⟩; refine ⟨_, rfl, ?_⟩))
      go_meet
      case rel => exact ⟨_, (decide (((rd_T75 a1 a6).f3) > 40)), eqs, H', ⟨by have := g0.out; first | omega | exact Nat.le_refl _⟩, ⟨bkF a4⟩, ⟨bkF a3⟩, ⟨by (with_reducible repeat (first | refine dN ?_ _ | refine dR ?_ | refine dA ?_ _)); refine blk_put (cs := #[.int .i64 ((rd_T75 a1 a6).f0), .int .i64 ((rd_T75 a1 a6).f1), .int .i64 ((rd_T75 a1 a6).f2), .int .i64 0]) ?_ 3 _ rfl; refine blk_put (cs := #[.int .i64 ((rd_T75 a1 a6).f0), .int .i64 ((rd_T75 a1 a6).f1), .int .i64 0, .int .i64 0]) ?_ 2 _ rfl; refine blk_put (cs := #[.int .i64 ((rd_T75 a1 a6).f0), .int .i64 0, .int .i64 0, .int .i64 0]) ?_ 1 _ rfl; refine blk_put (cs := #[.int .i64 0, .int .i64 0, .int .i64 0, .int .i64 0]) ?_ 0 _ rfl; (with_reducible repeat (first | refine dN ?_ _ | refine dR ?_ | refine dA ?_ _)); exact b2.out⟩, ⟨bb HB⟩⟩
     rw [if_pos H8] at H
     have Z0 := decide_eq_true H8
     clear H8
     have H' := am H
     clear H
     have b5e := e7.out
     have b2a := e9.out
     have b5d := e6.out
     have b1j := e8.out
     obtain ⟨x8, x6, x5, x4, r4, r3, r2, r1⟩ := cz4 b2
     have b5c := b1.out
     have b1i := b0.out
     obtain ⟨x2, x0, r0, q8⟩ := cz2 a4
     go_wp2_with (first | ((with_reducible refine gate_callee (f := 60) rfl ?_); refine gl 36 Tryz.func60 #[.int .i64 ((rd_T75 a1 a6).f0), .int .i64 (b4.length : Int)] (h := ?_); (with_reducible refine (scarfjointref18_is.calls ((rd_T75 a1 a6).f0) (b4.length : Int) true _ P8.out).mono ?_); rintro e w' ⟨rfl, ⟨nd, rfl⟩⟩; refine ⟨_, rfl, ?_⟩))
     go_meet
     case rel => exact ⟨_, (true), eqs, H', ⟨by have := g0.out; first | omega | exact Nat.le_refl _⟩, ⟨bkF a4⟩, ⟨bkF a3⟩, ⟨by (with_reducible repeat (first | refine dN ?_ _ | refine dR ?_ | refine dA ?_ _)); refine blk_put (cs := #[.int .i64 ((rd_T75 a1 a6).f0), .int .i64 ((rd_T75 a1 a6).f1), .int .i64 ((rd_T75 a1 a6).f2), .int .i64 0]) ?_ 3 _ rfl; refine blk_put (cs := #[.int .i64 ((rd_T75 a1 a6).f0), .int .i64 ((rd_T75 a1 a6).f1), .int .i64 0, .int .i64 0]) ?_ 2 _ rfl; refine blk_put (cs := #[.int .i64 ((rd_T75 a1 a6).f0), .int .i64 0, .int .i64 0, .int .i64 0]) ?_ 1 _ rfl; refine blk_put (cs := #[.int .i64 0, .int .i64 0, .int .i64 0, .int .i64 0]) ?_ 0 _ rfl; (with_reducible repeat (first | refine dN ?_ _ | refine dR ?_ | refine dA ?_ _)); exact b2.out⟩, ⟨bb HB⟩⟩
    case rest =>
     clear X8
     try clear c1
     try clear c2
     try clear p2
     try clear c3
     try clear c4
     try clear X6
     try clear X5
     try clear c6
     try clear c7
     try clear p9
     try clear q9
     try clear hx9
     try clear y8
     try clear C0
     try clear O2
     try clear a1a
     try clear c13
     try clear c16
     try clear c17
     try clear P5
     try clear E0
     try clear y7
     try clear Z3
     try clear D9
     try clear Z2
     try clear Z1
     try clear H8
     try clear Z0
     try clear c24
     try clear c25
     try clear c27
     try clear c29
     try clear c30
     try clear c32
     try clear c34
     try clear c35
     try clear c37
     try clear c39
     try clear c40
     try clear c42
     try clear c44
     try clear c45
     try clear c47
     try clear y5
     try clear y4
     try clear y3
     try clear y2
     try clear y1
     try clear y0
     try clear x8
     try clear x6
     try clear x5
     try clear x4
     try clear x2
     try clear x0
     try clear w8
     try clear w7
     try clear w4
     try clear w3
     try clear w2
     try clear w1
     try clear w0
     try clear v8
     try clear v6
     try clear v5
     try clear v4
     try clear v3
     try clear v2
     try clear v1
     try clear v0
     try clear t9
     try clear t8
     try clear t7
     try clear t6
     try clear t5
     try clear t4
     try clear t3
     try clear t2
     try clear t1
     try clear n1
     try clear n0
     try clear t0
     try clear r9
     try clear r8
     try clear r7
     try clear r6
     try clear r5
     try clear r4
     try clear r3
     try clear r2
     try clear r1
     try clear r0
     try clear q8
     try clear q7
     try clear q6
     try clear q5
     try clear q4
     try clear q3
     try clear q2
     try clear q1
     try clear q0
     try clear p8
     try clear p7
     try clear p5
     try clear p4
     try clear p3
     try clear p1
     try clear p0
     try clear o9
     try clear o8
     try clear o7
     try clear o6
     try clear o5
     try clear o4
     try clear o3
     try clear o2
     try clear o1
     try clear m9
     try clear m8
     try clear h3
     try clear h2
     try clear h1
     try clear h0
     try clear p2
     try clear A5
     try clear A2
     obtain ⟨kq, A6, rfl, HA, P1, a4, a3, b2, HB⟩ := hcut
     cases kq with
     | zero => exact absurd HA.out (by simp [scarfjointref18_Valid.j1])
     | succ Q4 =>
      have H := HA.out
      clear HA
      simp only [scarfjointref18_Valid.j1] at H
      by_cases H7 : A6 = true
      ·subst H7
       replace H := ift H
       obtain rfl := Option.some.inj H
       go_wp2
       go_ret
       exact ⟨erf, bb HB⟩
      replace H7 := Bool.eq_false_iff.mpr H7
      subst H7
      replace H := iff_ H
      by_cases A9 : a6 > 0
      rotate_left
      ·rw [if_neg A9] at H
       have E3 : decide (0 < a6) = false := decide_eq_false A9
       clear A9
       have H' := am H
       clear H
       try go_wp2
       replace a4 := am (blk_drew a4.out)
       replace a3 := am (blk_drew a3.out)
       replace b2 := am (blk_drew b2.out)
       replace HB := am (below_drew1 HB.out)
       refine start_ (n := 13) (S := fun w' => True) (ds := []) #[false, false, false, false, false, false, false, false, false, false, false, false, false] (by kernel_rfl) rfl rfl trivial (fun hHeld => ?_); refine with_tabW scarfjointref18_Valid.tab10 scarfjointref18_Valid.bits10 (fun HT_ HW_ => ?_)
       generalize wc.drew = w60 at a4 a3 b2 HB hHeld ⊢
       refine pu 0 58 (bits 13 0x1) HT_ (h := ?_)
       refine pu 1 59 (bits 13 0x3) HT_ (h := ?_)
       refine pu 2 60 (bits 13 0x7) HT_ (h := ?_)
       refine pn 3 61 (bits 13 0xf) HT_ (h := ?_)
       refine pn 4 62 (bits 13 0x1f) HT_ (h := ?_)
       refine pn 5 63 (bits 13 0x3f) HT_ (h := ?_)
       refine pn 6 64 (bits 13 0x7f) HT_ (h := ?_)
       refine pn 7 65 (bits 13 0xff) HT_ (h := ?_)
       refine pn 8 66 (bits 13 0x1ff) HT_ (h := ?_)
       refine pn 9 67 (bits 13 0x3ff) HT_ (h := ?_)
       refine pn 10 68 (bits 13 0x7ff) HT_ (h := ?_)
       refine pn 11 69 (bits 13 0xfff) HT_ (h := ?_)
       refine pu 12 70 (bits 13 0x1fff) HT_ (h := ?_)
       refine done_ (done_of HT_.out (by kernel_rfl)) ?_
       try go_wp2
       go_roundg Q4
       case measure => have := g0.out; have := P1.out; omega
       case rel => exact ⟨(wrap64 (a6 + 1)), eqs, H', ⟨by have := g0.out; have := P1.out; omega⟩, ⟨bk a4⟩, ⟨bk a3⟩, ⟨bb HB⟩⟩
      rw [if_pos A9] at H
      have E3 : decide (0 < a6) = true := decide_eq_true A9
      clear A9
      obtain ⟨b3, o0⟩ : ∃ j_ : Int, (wrap64 (a6 - 1)) = j_ := ⟨_, rfl⟩
      replace H : (if 0 ≤ (b3) then (if (b3) < (a1.length : Int) then ((scarfjointref18_compare.f ((rd_T75 a1 (b3)).f0) ((rd_T75 a1 (b3)).f1) ((rd_T75 a1 (b3)).f2) ((rd_T75 a1 (b3)).f3) ((rd_T75 a1 a6).f0) ((rd_T75 a1 a6).f1) ((rd_T75 a1 a6).f2) ((rd_T75 a1 a6).f3)).bind fun m4 => (if m4 ≥ 0 then (some 12) else (scarfjointref18_Valid.l0 Q4 (wrap64 (a6 + 1)) b4 b6 a1 a0))) else (none)) else (none)) = some r := by first | (rw [o0] at H; exact H) | (simp only [o0] at H ⊢; exact H)
      have hji51w : (IntKind.i64.wrap (a6 - 1)) = b3 := (i64_w _).trans o0
      obtain ⟨P4, H⟩ := itn H
      have O7 := decide_eq_true P4
      clear P4
      obtain ⟨P3, H⟩ := itn H
      have O6 := decide_eq_true P3
      clear P3
      obtain ⟨m4, A54, H⟩ := obA H
      by_cases A8 : m4 ≥ 0
      ·rw [if_pos A8] at H
       have E2 : decide (0 ≤ m4) = true := decide_eq_true A8
       clear A8
       obtain rfl := Option.some.inj H
       try go_wp2
       replace a4 := am (blk_drew a4.out)
       replace a3 := am (blk_drew a3.out)
       replace b2 := am (blk_drew b2.out)
       replace HB := am (below_drew1 HB.out)
       have h7 : 0 ≤ ((b3) : Int) := odt
       have h6 : (b3) < (a1.length : Int) := odt
       obtain ⟨P0, X4, d8, d7, d6, d5⟩ := at_T75 h5.out (b3) h7 h6
       have j6 := d5
       have j7 := d6
       have j8 := d7
       have j9 := d8
       obtain rfl : d0 = P0 := (by injection X4)
       replace d8 := hxc HB d8
       replace d7 := hxc HB d7
       replace d6 := hxc HB d6
       replace d5 := hxc HB d5
       replace h7 := eq_true h7
       replace h6 := eq_true h6
       refine start_ (n := 13) (S := fun w' => w'.cell? ⟨d9, 0, none⟩ = some (.slice (some d0) a1.length e0) ∧ w'.cell? ⟨d9, 1, none⟩ = some (.slice h4 a0.length e5) ∧ w'.cell? ⟨g7, 0, none⟩ = some (.int .i64 ((rd_T75 a1 a6).f0)) ∧ w'.cell? ⟨g7, 1, none⟩ = some (.int .i64 ((rd_T75 a1 a6).f1)) ∧ w'.cell? ⟨g7, 2, none⟩ = some (.int .i64 ((rd_T75 a1 a6).f2)) ∧ w'.cell? ⟨g7, 3, none⟩ = some (.int .i64 ((rd_T75 a1 a6).f3)) ∧ w'.cell? (d0.add (((b3)).toNat * 4)) = some (.int .i64 ((rd_T75 a1 (b3)).f0)) ∧ w'.cell? ⟨(d0.add (((b3)).toNat * 4)).block, (d0.add (((b3)).toNat * 4)).off + 1, none⟩ = some (.int .i64 ((rd_T75 a1 (b3)).f1)) ∧ w'.cell? ⟨(d0.add (((b3)).toNat * 4)).block, (d0.add (((b3)).toNat * 4)).off + 2, none⟩ = some (.int .i64 ((rd_T75 a1 (b3)).f2)) ∧ w'.cell? ⟨(d0.add (((b3)).toNat * 4)).block, (d0.add (((b3)).toNat * 4)).off + 3, none⟩ = some (.int .i64 ((rd_T75 a1 (b3)).f3))) (ds := []) #[false, false, false, false, false, false, false, false, false, false, false, false, false] (by kernel_rfl) rfl rfl ⟨bc a3 0, bc a3 1, bc b2 0, bc b2 1, bc b2 2, bc b2 3, (hxc HB j9), (hxc HB j8), (hxc HB j7), (hxc HB j6)⟩ (fun hHeld => ?_); refine with_tabW scarfjointref18_Valid.tab10 scarfjointref18_Valid.bits10 (fun HT_ HW_ => ?_)
       generalize wc.drew = w56 at a4 a3 b2 HB d8 d7 d6 d5 hHeld ⊢
       refine pu 0 58 (bits 13 0x1) HT_ (h := ?_)
       refine pu 1 59 (bits 13 0x3) HT_ (h := ?_)
       refine pu 2 60 (bits 13 0x7) HT_ (h := ?_)
       refine pu 3 61 (bits 13 0xf) HT_ (h := ?_)
       refine pu 5 63 (bits 13 0x2f) HT_ (h := ?_)
       refine pu 6 64 (bits 13 0x6f) HT_ (h := ?_)
       refine tk 4 62 (bits 13 0x7f) HT_ HW_ hHeld (hy := by rintro w' ⟨s0, s1, s2, s3, s4, s5, s6, s7, s8, s9⟩; go_simp; with_reducible rfl) (h := ?_)
       refine pu 7 65 (bits 13 0xff) HT_ (h := ?_)
       refine tk 8 66 (bits 13 0x1ff) HT_ HW_ hHeld (hy := by rintro w' ⟨s0, s1, s2, s3, s4, s5, s6, s7, s8, s9⟩; go_simp; with_reducible rfl) (h := ?_)
       refine tk 9 67 (bits 13 0x3ff) HT_ HW_ hHeld (hy := by rintro w' ⟨s0, s1, s2, s3, s4, s5, s6, s7, s8, s9⟩; go_simp; with_reducible rfl) (h := ?_)
       refine one_ (i := 10) (N := some 68) #[true, true, true, true, true, true, true, true, true, true, true, false, false] rfl rfl (one_of HT_.out (by kernel_rfl)) (by decide) (fun K hK => ?_)
       refine goes_ Tryz.func63 (by kernel_rfl) rfl #[.agg #[.int .i64 ((rd_T75 a1 (b3)).f0), .int .i64 ((rd_T75 a1 (b3)).f1), .int .i64 ((rd_T75 a1 (b3)).f2), .int .i64 ((rd_T75 a1 (b3)).f3)], .agg #[.int .i64 ((rd_T75 a1 a6).f0), .int .i64 ((rd_T75 a1 a6).f1), .int .i64 ((rd_T75 a1 a6).f2), .int .i64 ((rd_T75 a1 a6).f3)]] (by rfl) rfl rfl (by (try simp only [List.map_toArray, List.map_cons, List.map_nil]); first | done | (simp only [o0]; rfl) | rfl | (simp only [List.length_drop, List.length_take]; rfl)) ?_
       with_reducible refine (scarfjointref18_compare.calls ((rd_T75 a1 (b3)).f0) ((rd_T75 a1 (b3)).f1) ((rd_T75 a1 (b3)).f2) ((rd_T75 a1 (b3)).f3) ((rd_T75 a1 a6).f0) ((rd_T75 a1 a6).f1) ((rd_T75 a1 a6).f2) ((rd_T75 a1 a6).f3) m4 _ A54.out).mono ?_
       rintro e w57 ⟨rfl, hb⟩
       refine ⟨_, rfl, ?_⟩
       replace a4 := bkb a4 hb
       replace a3 := bkb a3 hb
       replace b2 := bkb b2 hb
       replace HB := bstep HB hb
       (try clear hb)
       (try clear hb2)
       (try clear hk)
       (try clear hi)
       refine hK.out _ _ ⟨bc a3 0, bc a3 1, bc b2 0, bc b2 1, bc b2 2, bc b2 3, (hxc HB j9), (hxc HB j8), (hxc HB j7), (hxc HB j6)⟩ (fun hHeld => ?_)
       clear hK K
       refine norm_ (a' := ?_) ?_ ?_
       rotate_left
       ·show Act.put _ (some 68) _ = _
        simp only [Act.put, List.setIfInBounds_toArray, List.set_cons_zero, List.set_cons_succ, i64_w, i32_w]
        rfl
       refine pu 11 69 (bits 13 0xfff) HT_ (h := ?_)
       refine pu 12 70 (bits 13 0x1fff) HT_ (h := ?_)
       refine done_ (done_of HT_.out (by kernel_rfl)) ?_
       try go_wp2
       go_ret
       exact ⟨by first | rfl | (simp [errW_none, errW_some] <;> rfl) | (simp only [← o0]; first | rfl | (simp [errW_none, errW_some] <;> rfl)) | (simp [*, errW_none, errW_some] <;> rfl), bb HB⟩
      rw [if_neg A8] at H
      have E2 : decide (0 ≤ m4) = false := decide_eq_false A8
      clear A8
      have H' := am H
      clear H
      try go_wp2
      replace a4 := am (blk_drew a4.out)
      replace a3 := am (blk_drew a3.out)
      replace b2 := am (blk_drew b2.out)
      replace HB := am (below_drew1 HB.out)
      have h7 : 0 ≤ ((b3) : Int) := odt
      have h6 : (b3) < (a1.length : Int) := odt
      obtain ⟨P0, X4, d8, d7, d6, d5⟩ := at_T75 h5.out (b3) h7 h6
      have j6 := d5
      have j7 := d6
      have j8 := d7
      have j9 := d8
      obtain rfl : d0 = P0 := (by injection X4)
      replace d8 := hxc HB d8
      replace d7 := hxc HB d7
      replace d6 := hxc HB d6
      replace d5 := hxc HB d5
      replace h7 := eq_true h7
      replace h6 := eq_true h6
      refine start_ (n := 13) (S := fun w' => w'.cell? ⟨d9, 0, none⟩ = some (.slice (some d0) a1.length e0) ∧ w'.cell? ⟨d9, 1, none⟩ = some (.slice h4 a0.length e5) ∧ w'.cell? ⟨g7, 0, none⟩ = some (.int .i64 ((rd_T75 a1 a6).f0)) ∧ w'.cell? ⟨g7, 1, none⟩ = some (.int .i64 ((rd_T75 a1 a6).f1)) ∧ w'.cell? ⟨g7, 2, none⟩ = some (.int .i64 ((rd_T75 a1 a6).f2)) ∧ w'.cell? ⟨g7, 3, none⟩ = some (.int .i64 ((rd_T75 a1 a6).f3)) ∧ w'.cell? (d0.add (((b3)).toNat * 4)) = some (.int .i64 ((rd_T75 a1 (b3)).f0)) ∧ w'.cell? ⟨(d0.add (((b3)).toNat * 4)).block, (d0.add (((b3)).toNat * 4)).off + 1, none⟩ = some (.int .i64 ((rd_T75 a1 (b3)).f1)) ∧ w'.cell? ⟨(d0.add (((b3)).toNat * 4)).block, (d0.add (((b3)).toNat * 4)).off + 2, none⟩ = some (.int .i64 ((rd_T75 a1 (b3)).f2)) ∧ w'.cell? ⟨(d0.add (((b3)).toNat * 4)).block, (d0.add (((b3)).toNat * 4)).off + 3, none⟩ = some (.int .i64 ((rd_T75 a1 (b3)).f3))) (ds := []) #[false, false, false, false, false, false, false, false, false, false, false, false, false] (by kernel_rfl) rfl rfl ⟨bc a3 0, bc a3 1, bc b2 0, bc b2 1, bc b2 2, bc b2 3, (hxc HB j9), (hxc HB j8), (hxc HB j7), (hxc HB j6)⟩ (fun hHeld => ?_); refine with_tabW scarfjointref18_Valid.tab10 scarfjointref18_Valid.bits10 (fun HT_ HW_ => ?_)
      generalize wc.drew = w58 at a4 a3 b2 HB d8 d7 d6 d5 hHeld ⊢
      refine pu 0 58 (bits 13 0x1) HT_ (h := ?_)
      refine pu 1 59 (bits 13 0x3) HT_ (h := ?_)
      refine pu 2 60 (bits 13 0x7) HT_ (h := ?_)
      refine pu 3 61 (bits 13 0xf) HT_ (h := ?_)
      refine pu 5 63 (bits 13 0x2f) HT_ (h := ?_)
      refine pu 6 64 (bits 13 0x6f) HT_ (h := ?_)
      refine tk 4 62 (bits 13 0x7f) HT_ HW_ hHeld (hy := by rintro w' ⟨s0, s1, s2, s3, s4, s5, s6, s7, s8, s9⟩; go_simp; with_reducible rfl) (h := ?_)
      refine pu 7 65 (bits 13 0xff) HT_ (h := ?_)
      refine tk 8 66 (bits 13 0x1ff) HT_ HW_ hHeld (hy := by rintro w' ⟨s0, s1, s2, s3, s4, s5, s6, s7, s8, s9⟩; go_simp; with_reducible rfl) (h := ?_)
      refine tk 9 67 (bits 13 0x3ff) HT_ HW_ hHeld (hy := by rintro w' ⟨s0, s1, s2, s3, s4, s5, s6, s7, s8, s9⟩; go_simp; with_reducible rfl) (h := ?_)
      refine one_ (i := 10) (N := some 68) #[true, true, true, true, true, true, true, true, true, true, true, false, false] rfl rfl (one_of HT_.out (by kernel_rfl)) (by decide) (fun K hK => ?_)
      refine goes_ Tryz.func63 (by kernel_rfl) rfl #[.agg #[.int .i64 ((rd_T75 a1 (b3)).f0), .int .i64 ((rd_T75 a1 (b3)).f1), .int .i64 ((rd_T75 a1 (b3)).f2), .int .i64 ((rd_T75 a1 (b3)).f3)], .agg #[.int .i64 ((rd_T75 a1 a6).f0), .int .i64 ((rd_T75 a1 a6).f1), .int .i64 ((rd_T75 a1 a6).f2), .int .i64 ((rd_T75 a1 a6).f3)]] (by rfl) rfl rfl (by (try simp only [List.map_toArray, List.map_cons, List.map_nil]); first | done | (simp only [o0]; rfl) | rfl | (simp only [List.length_drop, List.length_take]; rfl)) ?_
      with_reducible refine (scarfjointref18_compare.calls ((rd_T75 a1 (b3)).f0) ((rd_T75 a1 (b3)).f1) ((rd_T75 a1 (b3)).f2) ((rd_T75 a1 (b3)).f3) ((rd_T75 a1 a6).f0) ((rd_T75 a1 a6).f1) ((rd_T75 a1 a6).f2) ((rd_T75 a1 a6).f3) m4 _ A54.out).mono ?_
      rintro e w59 ⟨rfl, hb⟩
      refine ⟨_, rfl, ?_⟩
      replace a4 := bkb a4 hb
      replace a3 := bkb a3 hb
      replace b2 := bkb b2 hb
      replace HB := bstep HB hb
      (try clear hb)
      (try clear hb2)
      (try clear hk)
      (try clear hi)
      refine hK.out _ _ ⟨bc a3 0, bc a3 1, bc b2 0, bc b2 1, bc b2 2, bc b2 3, (hxc HB j9), (hxc HB j8), (hxc HB j7), (hxc HB j6)⟩ (fun hHeld => ?_)
      clear hK K
      refine norm_ (a' := ?_) ?_ ?_
      rotate_left
      ·show Act.put _ (some 68) _ = _
       simp only [Act.put, List.setIfInBounds_toArray, List.set_cons_zero, List.set_cons_succ, i64_w, i32_w]
       rfl
      refine pu 11 69 (bits 13 0xfff) HT_ (h := ?_)
      refine pu 12 70 (bits 13 0x1fff) HT_ (h := ?_)
      refine done_ (done_of HT_.out (by kernel_rfl)) ?_
      try go_wp2
      go_roundg Q4
      case measure => have := g0.out; have := P1.out; omega
      case rel => exact ⟨(wrap64 (a6 + 1)), eqs, H', ⟨by have := g0.out; have := P1.out; omega⟩, ⟨bk a4⟩, ⟨bk a3⟩, ⟨bb HB⟩⟩
   rw [if_neg y8] at H
   have C0 := decide_eq_false y8
   clear y8
   obtain ⟨A0, A61, H⟩ := obA H
   by_cases A7 : A0 > 40
   ·rw [if_pos A7] at H
    have E1 : decide (40 < A0) = true := decide_eq_true A7
    clear A7
    obtain rfl := Option.some.inj H
    have b3j := b0.out
    have b0f := b1.out
    obtain ⟨D2, D1, C8, C7⟩ := cz2 a3
    go_wp2_with (first | ((with_reducible refine gate_callee (f := 64) rfl ?_); refine gl 73 Tryz.func64 #[.slice g1 a1.length e0] (h := ?_); (with_reducible refine (scarfjointref18_total.calls k1 _ _ a1 A0 _ ?b9 ?b8 A61.out).mono ?_); (case b9 => exact cb h5 HB); (case b8 => exact C3.out); rintro e w' ⟨rfl, ⟨nd, rfl⟩⟩; refine ⟨_, rfl, ?_⟩))
    go_ret
    exact ⟨erf, bb HB⟩
   rw [if_neg A7] at H
   have E1 : decide (40 < A0) = false := decide_eq_false A7
   clear A7
   have H' := am H
   clear H
   have b3i := b0.out
   have b0e := b1.out
   obtain ⟨D0, C9, C6, C5⟩ := cz2 a3
   go_wp2_with (first | ((with_reducible refine gate_callee (f := 64) rfl ?_); refine gl 73 Tryz.func64 #[.slice g1 a1.length e0] (h := ?_); (with_reducible refine (scarfjointref18_total.calls k1 _ _ a1 A0 _ ?b9 ?b8 A61.out).mono ?_); (case b9 => exact cb h5 HB); (case b8 => exact C3.out); rintro e w' ⟨rfl, ⟨nd, rfl⟩⟩; refine ⟨_, rfl, ?_⟩))
   go_loopg [9] k1 (fun kq v9 w' => ∃ (a2 : Int), v9 = .int .i64 a2 ∧ Aside0 (scarfjointref18_Valid.l1 kq a2 b4 b6 a1 a0 = some r) ∧ Aside0 (kq ≤ k1) ∧ Aside0 (w'.heap[y6]? = some (.cells #[(.slice g5 b4.length g3), (.slice g4 b6.length g2)] 31 (0, 0))) ∧ Aside0 (w'.heap[d9]? = some (.cells #[(.slice g1 a1.length e0), (.slice h4 a0.length e5)] 46 (0, 0))) ∧ Aside0 (Below w.heap.size w w'))
   case atStart => exact ⟨(0), eqs, H', ⟨Nat.le_refl _⟩, ⟨bk a4⟩, ⟨bk a3⟩, ⟨bb HB⟩⟩
   case round =>
    clear H'
    try clear c1
    try clear p2
    try clear c3
    try clear c4
    try clear c5
    try clear c6
    try clear p6
    try clear p9
    try clear q9
    try clear hx9
    try clear y8
    try clear C0
    try clear O2
    try clear c37
    try clear c39
    try clear c40
    try clear c42
    try clear c44
    try clear c45
    try clear c47
    try clear H7
    try clear A9
    try clear E3
    try clear P4
    try clear O7
    try clear P3
    try clear O6
    try clear A8
    try clear E2
    try clear A7
    try clear E1
    try clear c63
    try clear c64
    try clear X9
    try clear c65
    try clear y5
    try clear y4
    try clear y3
    try clear y2
    try clear y1
    try clear y0
    try clear x8
    try clear x6
    try clear x5
    try clear x4
    try clear x2
    try clear x0
    try clear w8
    try clear w7
    try clear w4
    try clear w3
    try clear w2
    try clear w1
    try clear w0
    try clear v8
    try clear v6
    try clear v5
    try clear v4
    try clear v3
    try clear v2
    try clear v1
    try clear v0
    try clear t9
    try clear t8
    try clear t7
    try clear t6
    try clear t5
    try clear t4
    try clear t3
    try clear t2
    try clear t1
    try clear D2
    try clear D1
    try clear D0
    try clear C9
    try clear n1
    try clear n0
    try clear t0
    try clear r9
    try clear r8
    try clear r7
    try clear r6
    try clear r5
    try clear r4
    try clear r3
    try clear r2
    try clear r1
    try clear r0
    try clear q8
    try clear q7
    try clear q6
    try clear q5
    try clear q4
    try clear q3
    try clear q2
    try clear q1
    try clear q0
    try clear p8
    try clear p7
    try clear p5
    try clear p4
    try clear p3
    try clear p1
    try clear p0
    try clear o9
    try clear o8
    try clear o7
    try clear o6
    try clear o5
    try clear o4
    try clear o3
    try clear o2
    try clear o1
    try clear C8
    try clear C7
    try clear C6
    try clear C5
    try clear m9
    try clear m8
    try clear h3
    try clear h2
    try clear h1
    try clear h0
    try clear d8
    try clear d7
    try clear d6
    try clear d5
    try clear p2
    try clear A5
    try clear h7
    try clear A2
    try clear h6
    obtain ⟨a2, rfl, HA, n3, a4, a3, HB⟩ := hrel
    cases gk with
    | zero => exact absurd HA.out (by simp [scarfjointref18_Valid.l1])
    | succ k2 =>
     have H := HA.out
     clear HA
     simp only [scarfjointref18_Valid.l1] at H
     by_cases D8 : a2 < (a0.length : Int)
     rotate_left
     ·rw [if_neg D8] at H
      have O5 := decide_eq_false D8
      clear D8
      obtain ⟨y9, a0g, H⟩ := obA H
      by_cases D3 : y9 > 80
      rotate_left
      ·rw [if_neg D3] at H
       have a0b : decide (80 < y9) = false := decide_eq_false D3
       clear D3
       obtain rfl := Option.some.inj H
       have a7a := b0.out
       have a5b := b1.out
       obtain ⟨a3e, a3d, a2c, a2b⟩ := cz2 a3
       go_wp2_with (first | ((with_reducible refine gate_callee (f := 64) rfl ?_); refine gl 162 Tryz.func64 #[.slice h4 a0.length e5] (h := ?_); (with_reducible refine (scarfjointref18_total.calls k2 _ _ a0 y9 _ ?b9 ?b8 a0g.out).mono ?_); (case b9 => exact cb C2 HB); (case b8 => exact Z4.out); rintro e w' ⟨rfl, ⟨nd, rfl⟩⟩; refine ⟨_, rfl, ?_⟩))
       go_ret
       exact ⟨erf, bb HB⟩
      rw [if_pos D3] at H
      have a0b : decide (80 < y9) = true := decide_eq_true D3
      clear D3
      obtain rfl := Option.some.inj H
      have a7b := b0.out
      have a5c := b1.out
      obtain ⟨a3g, a3f, a2e, a2d⟩ := cz2 a3
      go_wp2_with (first | ((with_reducible refine gate_callee (f := 64) rfl ?_); refine gl 162 Tryz.func64 #[.slice h4 a0.length e5] (h := ?_); (with_reducible refine (scarfjointref18_total.calls k2 _ _ a0 y9 _ ?b9 ?b8 a0g.out).mono ?_); (case b9 => exact cb C2 HB); (case b8 => exact Z4.out); rintro e w' ⟨rfl, ⟨nd, rfl⟩⟩; refine ⟨_, rfl, ?_⟩))
      go_ret
      exact ⟨erf, bb HB⟩
     rw [if_pos D8] at H
     have O5 := decide_eq_true D8
     clear D8
     obtain ⟨Y9, H⟩ := itn H
     have Y8 := decide_eq_true Y9
     clear Y9
     have X7 := am H
     clear H
     have b3h := b0.out
     have b0d := b1.out
     obtain ⟨N8, N7, L4, L3⟩ := cz2 a3
     have F2 : 0 ≤ a2 := odt
     have F1 : a2 < (a0.length : Int) := odt
     obtain ⟨c0, a4d, n9, n8, n7, n6⟩ := at_T75 C2.out a2 F2 F1
     cases a4d
     replace n9 := hxc HB n9
     replace n8 := hxc HB n8
     replace n7 := hxc HB n7
     replace n6 := hxc HB n6
     replace F2 := eq_true F2
     replace F1 := eq_true F1
     go_upto_region 18 with (first | ((with_reducible refine gate_dst (N := 10) rfl ?_); (try (refine gate_guard (by rfl) ?_; dsimp only)); refine be 10 #[.int .i64 0, .int .i64 0, .int .i64 0, .int .i64 0] 75 ?_; intro g6 hg w72 hbox hb; have a8 := am (hbox); have b5i := bsz HB hg; replace HB := bstep HB hb; have d4 := blt a4 hg; have d2 := bgt a4 hg; replace a4 := bkb a4 hb; have d3 := blt a3 hg; have d1 := bgt a3 hg; replace a3 := bkb a3 hb; clear hb hbox hg; have b3g := d2.out; have b0c := d4.out; have b3f := d1.out; have b0b := d3.out; obtain ⟨N6, N5, N4, N3, L2, L1, L0, J9⟩ := cz4 a8))
     (try simp only [Act.put, List.setIfInBounds_toArray, List.set_cons_zero, List.set_cons_succ])
     go_cut [121] (fun a1g wc => ∃ (kq : Nat) (n5 : Bool), a1g = .bool n5 ∧ Aside0 (scarfjointref18_Valid.j3 kq a2 n5 b4 b6 a1 a0 ((rd_T75 a0 a2).f0) ((rd_T75 a0 a2).f1) ((rd_T75 a0 a2).f2) ((rd_T75 a0 a2).f3) = some r) ∧ Aside0 (kq ≤ k2) ∧ Aside0 (wc.heap[y6]? = some (.cells #[(.slice g5 b4.length g3), (.slice g4 b6.length g2)] 31 (0, 0))) ∧ Aside0 (wc.heap[d9]? = some (.cells #[(.slice g1 a1.length e0), (.slice (some c0) a0.length e5)] 46 (0, 0))) ∧ Aside0 (wc.heap[g6]? = some (.cells #[.int .i64 ((rd_T75 a0 a2).f0), .int .i64 ((rd_T75 a0 a2).f1), .int .i64 ((rd_T75 a0 a2).f2), .int .i64 ((rd_T75 a0 a2).f3)] 75 (0, 0))) ∧ Aside0 (Below w.heap.size w wc))
     case first =>
      have H := X7.out
      clear X7
      obtain ⟨Q2, P7, H⟩ := obA H
      by_cases O1 : Q2 = true
      rotate_left
      ·replace O1 := Bool.eq_false_iff.mpr O1
       subst O1
       replace H := iff_ H
       have H' := am H
       clear H
       have a8g := d2.out
       have a6h := d4.out
       have a8f := d1.out
       have a6g := d3.out
       obtain ⟨H0, G9, G8, G7, F8, F7, F6, F5⟩ := cz4 a8
       have a8e := b1.out
       have a6f := b0.out
       obtain ⟨G6, G5, F4, F3⟩ := cz2 a4
       go_wp2_with (first | ((with_reducible refine gate_callee (f := 60) rfl ?_); refine gl 92 Tryz.func60 #[.int .i64 ((rd_T75 a0 a2).f0), .int .i64 (b6.length : Int)] (h := ?_); (with_reducible refine (scarfjointref18_is.calls ((rd_T75 a0 a2).f0) (b6.length : Int) false _ P7.out).mono ?_); rintro e w' ⟨rfl, ⟨nd, rfl⟩⟩; refine ⟨_, rfl, ?_⟩))
       go_meet
       case rel => exact ⟨_, (true), eqs, H', ⟨by have := g0.out; have := n3.out; first | omega | exact Nat.le_refl _⟩, ⟨bkF a4⟩, ⟨bkF a3⟩, ⟨by (with_reducible repeat (first | refine dN ?_ _ | refine dR ?_ | refine dA ?_ _)); refine blk_put (cs := #[.int .i64 ((rd_T75 a0 a2).f0), .int .i64 ((rd_T75 a0 a2).f1), .int .i64 ((rd_T75 a0 a2).f2), .int .i64 0]) ?_ 3 _ rfl; refine blk_put (cs := #[.int .i64 ((rd_T75 a0 a2).f0), .int .i64 ((rd_T75 a0 a2).f1), .int .i64 0, .int .i64 0]) ?_ 2 _ rfl; refine blk_put (cs := #[.int .i64 ((rd_T75 a0 a2).f0), .int .i64 0, .int .i64 0, .int .i64 0]) ?_ 1 _ rfl; refine blk_put (cs := #[.int .i64 0, .int .i64 0, .int .i64 0, .int .i64 0]) ?_ 0 _ rfl; (with_reducible repeat (first | refine dN ?_ _ | refine dR ?_ | refine dA ?_ _)); exact a8.out⟩, ⟨bb HB⟩⟩
      subst O1
      replace H := ift H
      obtain ⟨Q1, Z5, H⟩ := obA H
      by_cases O0 : Q1 = true
      rotate_left
      ·replace O0 := Bool.eq_false_iff.mpr O0
       subst O0
       replace H := iff_ H
       have H' := am H
       clear H
       have b2f := d2.out
       have a9b := d4.out
       have b2e := d1.out
       have a9a := d3.out
       obtain ⟨H6, H5, H4, H3, G4, G3, G2, G1⟩ := cz4 a8
       have a8h := b1.out
       have a6i := b0.out
       obtain ⟨H2, H1, G0, F9⟩ := cz2 a4
       go_wp2_with (first | ((with_reducible refine gate_callee (f := 60) rfl ?_); refine gl 92 Tryz.func60 #[.int .i64 ((rd_T75 a0 a2).f0), .int .i64 (b6.length : Int)] (h := ?_); (with_reducible refine (scarfjointref18_is.calls ((rd_T75 a0 a2).f0) (b6.length : Int) true _ P7.out).mono ?_); rintro e w' ⟨rfl, ⟨nd, rfl⟩⟩; refine ⟨_, rfl, ?_⟩) | (go_at_call 60; (with_reducible refine (scarfjointref18_is.calls ((rd_T75 a0 a2).f1) (b4.length : Int) false _ Z5.out).mono ?_); rintro e w' ⟨rfl, ⟨nd, rfl⟩⟩))
       go_meet
       case rel => exact ⟨_, (true), eqs, H', ⟨by have := g0.out; have := n3.out; first | omega | exact Nat.le_refl _⟩, ⟨bkF a4⟩, ⟨bkF a3⟩, ⟨by (with_reducible repeat (first | refine dN ?_ _ | refine dR ?_ | refine dA ?_ _)); refine blk_put (cs := #[.int .i64 ((rd_T75 a0 a2).f0), .int .i64 ((rd_T75 a0 a2).f1), .int .i64 ((rd_T75 a0 a2).f2), .int .i64 0]) ?_ 3 _ rfl; refine blk_put (cs := #[.int .i64 ((rd_T75 a0 a2).f0), .int .i64 ((rd_T75 a0 a2).f1), .int .i64 0, .int .i64 0]) ?_ 2 _ rfl; refine blk_put (cs := #[.int .i64 ((rd_T75 a0 a2).f0), .int .i64 0, .int .i64 0, .int .i64 0]) ?_ 1 _ rfl; refine blk_put (cs := #[.int .i64 0, .int .i64 0, .int .i64 0, .int .i64 0]) ?_ 0 _ rfl; (with_reducible repeat (first | refine dN ?_ _ | refine dR ?_ | refine dA ?_ _)); exact a8.out⟩, ⟨bb HB⟩⟩
      subst O0
      replace H := ift H
      obtain ⟨Q0, A80, H⟩ := obA H
      by_cases N9 : Q0 = true
      rotate_left
      ·replace N9 := Bool.eq_false_iff.mpr N9
       subst N9
       replace H := iff_ H
       have H' := am H
       clear H
       have b2i := d2.out
       have a9e := d4.out
       have b2h := d1.out
       have a9d := d3.out
       obtain ⟨M0, L9, L8, L7, I6, I5, I4, I3⟩ := cz4 a8
       have b2g := b1.out
       have a9c := b0.out
       obtain ⟨L6, L5, I2, I1⟩ := cz2 a4
       go_wp2_with (first | ((with_reducible refine gate_callee (f := 60) rfl ?_); refine gl 92 Tryz.func60 #[.int .i64 ((rd_T75 a0 a2).f0), .int .i64 (b6.length : Int)] (h := ?_); (with_reducible refine (scarfjointref18_is.calls ((rd_T75 a0 a2).f0) (b6.length : Int) true _ P7.out).mono ?_); rintro e w' ⟨rfl, ⟨nd, rfl⟩⟩; refine ⟨_, rfl, ?_⟩) | (go_at_call 60; (with_reducible refine (scarfjointref18_is.calls ((rd_T75 a0 a2).f1) (b4.length : Int) true _ Z5.out).mono ?_); rintro e w' ⟨rfl, ⟨nd, rfl⟩⟩) | (go_at_call 60; (with_reducible refine (scarfjointref18_is.calls ((rd_T75 a0 a2).f2) (b4.length : Int) false _ A80.out).mono ?_); rintro e w' ⟨rfl, ⟨nd, rfl⟩⟩))
       go_meet
       case rel => exact ⟨_, (true), eqs, H', ⟨by have := g0.out; have := n3.out; first | omega | exact Nat.le_refl _⟩, ⟨bkF a4⟩, ⟨bkF a3⟩, ⟨by (with_reducible repeat (first | refine dN ?_ _ | refine dR ?_ | refine dA ?_ _)); refine blk_put (cs := #[.int .i64 ((rd_T75 a0 a2).f0), .int .i64 ((rd_T75 a0 a2).f1), .int .i64 ((rd_T75 a0 a2).f2), .int .i64 0]) ?_ 3 _ rfl; refine blk_put (cs := #[.int .i64 ((rd_T75 a0 a2).f0), .int .i64 ((rd_T75 a0 a2).f1), .int .i64 0, .int .i64 0]) ?_ 2 _ rfl; refine blk_put (cs := #[.int .i64 ((rd_T75 a0 a2).f0), .int .i64 0, .int .i64 0, .int .i64 0]) ?_ 1 _ rfl; refine blk_put (cs := #[.int .i64 0, .int .i64 0, .int .i64 0, .int .i64 0]) ?_ 0 _ rfl; (with_reducible repeat (first | refine dN ?_ _ | refine dR ?_ | refine dA ?_ _)); exact a8.out⟩, ⟨bb HB⟩⟩
      subst N9
      replace H := ift H
      by_cases D7 : ((rd_T75 a0 a2).f3) < 1
      rotate_left
      ·rw [if_neg D7] at H
       have m7 := decide_eq_false D7
       clear D7
       (first | rw [m7] | (simp only [i64_w, i32_w]; rw [m7]) | skip)
       have H' := am H
       clear H
       have b3b := d2.out
       have a9h := d4.out
       have b3a := d1.out
       have a9g := d3.out
       obtain ⟨M6, M5, M4, M3, J2, J1, J0, I9⟩ := cz4 a8
       have b2j := b1.out
       have a9f := b0.out
       obtain ⟨M2, M1, I8, I7⟩ := cz2 a4
       go_wp2_with (first | ((with_reducible refine gate_callee (f := 60) rfl ?_); refine gl 92 Tryz.func60 #[.int .i64 ((rd_T75 a0 a2).f0), .int .i64 (b6.length : Int)] (h := ?_); (with_reducible refine (scarfjointref18_is.calls ((rd_T75 a0 a2).f0) (b6.length : Int) true _ P7.out).mono ?_); rintro e w' ⟨rfl, ⟨nd, rfl⟩⟩; refine ⟨_, rfl, ?_⟩) | (go_at_call 60; (with_reducible refine (scarfjointref18_is.calls ((rd_T75 a0 a2).f1) (b4.length : Int) true _ Z5.out).mono ?_); rintro e w' ⟨rfl, ⟨nd, rfl⟩⟩) | (go_at_call 60; (with_reducible refine (scarfjointref18_is.calls ((rd_T75 a0 a2).f2) (b4.length : Int) true _ A80.out).mono ?_); rintro e w' ⟨rfl, ⟨nd, rfl⟩⟩))
       go_meet
       case rel => exact ⟨_, (decide (((rd_T75 a0 a2).f3) > 80)), eqs, H', ⟨by have := g0.out; have := n3.out; first | omega | exact Nat.le_refl _⟩, ⟨bkF a4⟩, ⟨bkF a3⟩, ⟨by (with_reducible repeat (first | refine dN ?_ _ | refine dR ?_ | refine dA ?_ _)); refine blk_put (cs := #[.int .i64 ((rd_T75 a0 a2).f0), .int .i64 ((rd_T75 a0 a2).f1), .int .i64 ((rd_T75 a0 a2).f2), .int .i64 0]) ?_ 3 _ rfl; refine blk_put (cs := #[.int .i64 ((rd_T75 a0 a2).f0), .int .i64 ((rd_T75 a0 a2).f1), .int .i64 0, .int .i64 0]) ?_ 2 _ rfl; refine blk_put (cs := #[.int .i64 ((rd_T75 a0 a2).f0), .int .i64 0, .int .i64 0, .int .i64 0]) ?_ 1 _ rfl; refine blk_put (cs := #[.int .i64 0, .int .i64 0, .int .i64 0, .int .i64 0]) ?_ 0 _ rfl; (with_reducible repeat (first | refine dN ?_ _ | refine dR ?_ | refine dA ?_ _)); exact a8.out⟩, ⟨bb HB⟩⟩
      rw [if_pos D7] at H
      have m7 := decide_eq_true D7
      clear D7
      (first | rw [m7] | (simp only [i64_w, i32_w]; rw [m7]) | skip)
      have H' := am H
      clear H
      have b3e := d2.out
      have b0a := d4.out
      have b3d := d1.out
      have a9j := d3.out
      obtain ⟨N2, N1, N0, M9, J8, J7, J6, J5⟩ := cz4 a8
      have b3c := b1.out
      have a9i := b0.out
      obtain ⟨M8, M7, J4, J3⟩ := cz2 a4
      go_wp2_with (first | ((with_reducible refine gate_callee (f := 60) rfl ?_); refine gl 92 Tryz.func60 #[.int .i64 ((rd_T75 a0 a2).f0), .int .i64 (b6.length : Int)] (h := ?_); (with_reducible refine (scarfjointref18_is.calls ((rd_T75 a0 a2).f0) (b6.length : Int) true _ P7.out).mono ?_); rintro e w' ⟨rfl, ⟨nd, rfl⟩⟩; refine ⟨_, rfl, ?_⟩) | (go_at_call 60; (with_reducible refine (scarfjointref18_is.calls ((rd_T75 a0 a2).f1) (b4.length : Int) true _ Z5.out).mono ?_); rintro e w' ⟨rfl, ⟨nd, rfl⟩⟩) | (go_at_call 60; (with_reducible refine (scarfjointref18_is.calls ((rd_T75 a0 a2).f2) (b4.length : Int) true _ A80.out).mono ?_); rintro e w' ⟨rfl, ⟨nd, rfl⟩⟩))
      go_meet
      case rel => exact ⟨_, (true), eqs, H', ⟨by have := g0.out; have := n3.out; first | omega | exact Nat.le_refl _⟩, ⟨bkF a4⟩, ⟨bkF a3⟩, ⟨by (with_reducible repeat (first | refine dN ?_ _ | refine dR ?_ | refine dA ?_ _)); refine blk_put (cs := #[.int .i64 ((rd_T75 a0 a2).f0), .int .i64 ((rd_T75 a0 a2).f1), .int .i64 ((rd_T75 a0 a2).f2), .int .i64 0]) ?_ 3 _ rfl; refine blk_put (cs := #[.int .i64 ((rd_T75 a0 a2).f0), .int .i64 ((rd_T75 a0 a2).f1), .int .i64 0, .int .i64 0]) ?_ 2 _ rfl; refine blk_put (cs := #[.int .i64 ((rd_T75 a0 a2).f0), .int .i64 0, .int .i64 0, .int .i64 0]) ?_ 1 _ rfl; refine blk_put (cs := #[.int .i64 0, .int .i64 0, .int .i64 0, .int .i64 0]) ?_ 0 _ rfl; (with_reducible repeat (first | refine dN ?_ _ | refine dR ?_ | refine dA ?_ _)); exact a8.out⟩, ⟨bb HB⟩⟩
     case rest =>
      clear X7
      try clear c1
      try clear p2
      try clear c3
      try clear c4
      try clear c5
      try clear c6
      try clear p6
      try clear c7
      try clear c8
      try clear c9
      try clear p9
      try clear q9
      try clear hx9
      try clear y8
      try clear C0
      try clear O2
      try clear c37
      try clear c39
      try clear c40
      try clear c42
      try clear c44
      try clear c45
      try clear c47
      try clear H7
      try clear A9
      try clear E3
      try clear P4
      try clear O7
      try clear P3
      try clear O6
      try clear A8
      try clear E2
      try clear c60
      try clear A7
      try clear E1
      try clear c63
      try clear c64
      try clear X9
      try clear c65
      try clear D8
      try clear O5
      try clear Y9
      try clear Y8
      try clear c70
      try clear c73
      try clear c74
      try clear O1
      try clear O0
      try clear N9
      try clear D7
      try clear m7
      try clear c83
      try clear c84
      try clear c86
      try clear c88
      try clear c89
      try clear p90
      try clear q90
      try clear a1i
      try clear c91
      try clear p91
      try clear q91
      try clear a1h
      try clear c93
      try clear c94
      try clear c96
      try clear c98
      try clear c99
      try clear a4i
      try clear a4h
      try clear a4g
      try clear a4f
      try clear H6
      try clear H5
      try clear H4
      try clear H3
      try clear H2
      try clear H1
      try clear H0
      try clear G9
      try clear G8
      try clear G7
      try clear G6
      try clear G5
      try clear y5
      try clear y4
      try clear y3
      try clear y2
      try clear y1
      try clear y0
      try clear x8
      try clear x6
      try clear x5
      try clear x4
      try clear x2
      try clear x0
      try clear w8
      try clear w7
      try clear w4
      try clear w3
      try clear w2
      try clear w1
      try clear w0
      try clear v8
      try clear v6
      try clear v5
      try clear v4
      try clear v3
      try clear v2
      try clear v1
      try clear v0
      try clear t9
      try clear t8
      try clear t7
      try clear t6
      try clear t5
      try clear t4
      try clear t3
      try clear t2
      try clear t1
      try clear D2
      try clear D1
      try clear D0
      try clear C9
      try clear N8
      try clear N7
      try clear N6
      try clear N5
      try clear N4
      try clear N3
      try clear N2
      try clear N1
      try clear N0
      try clear M9
      try clear M8
      try clear M7
      try clear n1
      try clear n0
      try clear M6
      try clear M5
      try clear M4
      try clear M3
      try clear M2
      try clear M1
      try clear M0
      try clear L9
      try clear L8
      try clear L7
      try clear L6
      try clear L5
      try clear G4
      try clear G3
      try clear G2
      try clear G1
      try clear G0
      try clear F9
      try clear F8
      try clear F7
      try clear F6
      try clear F5
      try clear F4
      try clear F3
      try clear t0
      try clear r9
      try clear r8
      try clear r7
      try clear r6
      try clear r5
      try clear r4
      try clear r3
      try clear r2
      try clear r1
      try clear r0
      try clear q8
      try clear q7
      try clear q6
      try clear q5
      try clear q4
      try clear q3
      try clear q2
      try clear q1
      try clear q0
      try clear p8
      try clear p7
      try clear p5
      try clear p4
      try clear p3
      try clear p1
      try clear p0
      try clear o9
      try clear o8
      try clear o7
      try clear o6
      try clear o5
      try clear o4
      try clear o3
      try clear o2
      try clear o1
      try clear C8
      try clear C7
      try clear C6
      try clear C5
      try clear L4
      try clear L3
      try clear L2
      try clear L1
      try clear L0
      try clear J9
      try clear J8
      try clear J7
      try clear J6
      try clear J5
      try clear J4
      try clear J3
      try clear m9
      try clear m8
      try clear J2
      try clear J1
      try clear J0
      try clear I9
      try clear I8
      try clear I7
      try clear I6
      try clear I5
      try clear I4
      try clear I3
      try clear I2
      try clear I1
      try clear h3
      try clear h2
      try clear h1
      try clear h0
      try clear d8
      try clear d7
      try clear d6
      try clear d5
      try clear n9
      try clear n8
      try clear n7
      try clear n6
      try clear p2
      try clear p6
      try clear X9
      try clear p9
      try clear A5
      try clear h7
      try clear F2
      try clear q9
      try clear A2
      try clear h6
      try clear F1
      obtain ⟨kq, n5, rfl, HA, D6, a4, a3, a8, HB⟩ := hcut
      cases kq with
      | zero => exact absurd HA.out (by simp [scarfjointref18_Valid.j3])
      | succ C4 =>
       have H := HA.out
       clear HA
       simp only [scarfjointref18_Valid.j3] at H
       by_cases I0 : n5 = true
       ·subst I0
        replace H := ift H
        obtain rfl := Option.some.inj H
        go_wp2
        go_ret
        exact ⟨erf, bb HB⟩
       replace I0 := Bool.eq_false_iff.mpr I0
       subst I0
       replace H := iff_ H
       obtain ⟨P9, a0j, H⟩ := obA H
       by_cases H9 : P9 = true
       rotate_left
       ·replace H9 := Bool.eq_false_iff.mpr H9
        subst H9
        replace H := iff_ H
        obtain rfl := Option.some.inj H
        have a7e := b1.out
        have a5f := b0.out
        have a7d := d4.out
        have a5e := d2.out
        obtain ⟨a4c, a4b, a3a, a2j⟩ := cz2 a4
        have a7c := d1.out
        have a5d := d3.out
        obtain ⟨a4a, a3j, a3i, a3h, a2i, a2h, a2g, a2f⟩ := cz4 a8
        go_wp2_with (first | ((with_reducible refine gate_callee (f := 65) rfl ?_); refine gl 129 Tryz.func65 #[.agg #[.slice g5 b4.length g3, .slice g4 b6.length g2], .int .i64 ((rd_T75 a0 a2).f0), .int .i64 ((rd_T75 a0 a2).f1), .int .i64 ((rd_T75 a0 a2).f2)] (h := ?_); (with_reducible refine (q4_Fits.calls C4 _ _ b4 _ _ b6 ((rd_T75 a0 a2).f0) ((rd_T75 a0 a2).f1) ((rd_T75 a0 a2).f2) false _ ?b9 ?b8 ?m6 ?m5 a0j.out).mono ?_); (case b9 => exact cb E5 HB); (case b8 => exact E8.out); (case m6 => exact cb E4 HB); (case m5 => exact E7.out); rintro e b6d ⟨rfl, hb⟩; refine ⟨_, rfl, ?_⟩; replace a4 := bkb a4 hb; replace a3 := bkb a3 hb; replace a8 := bkb a8 hb; replace HB := bstep HB hb; (try clear hb); (try clear hb2); (try clear hk); (try clear hi)))
        go_ret
        exact ⟨erf, bb HB⟩
       subst H9
       replace H := ift H
       have P2 := am H
       clear H
       have a8d := b1.out
       have a6e := b0.out
       have a8c := d4.out
       have a6d := d2.out
       obtain ⟨X2, X1, U8, U7⟩ := cz2 a4
       have a8b := d1.out
       have a6c := d3.out
       obtain ⟨X0, W9, W8, W7, U6, U5, U4, U3⟩ := cz4 a8
       go_upto_region 22 with (first | ((with_reducible refine gate_callee (f := 65) rfl ?_); refine gl 129 Tryz.func65 #[.agg #[.slice g5 b4.length g3, .slice g4 b6.length g2], .int .i64 ((rd_T75 a0 a2).f0), .int .i64 ((rd_T75 a0 a2).f1), .int .i64 ((rd_T75 a0 a2).f2)] (h := ?_); (with_reducible refine (q4_Fits.calls C4 _ _ b4 _ _ b6 ((rd_T75 a0 a2).f0) ((rd_T75 a0 a2).f1) ((rd_T75 a0 a2).f2) true _ ?b9 ?b8 ?m6 ?m5 a0j.out).mono ?_); (case b9 => exact cb E5 HB); (case b8 => exact E8.out); (case m6 => exact cb E4 HB); (case m5 => exact E7.out); rintro e b7c ⟨rfl, hb⟩; refine ⟨_, rfl, ?_⟩; replace a4 := bkb a4 hb; replace a3 := bkb a3 hb; replace a8 := bkb a8 hb; replace HB := bstep HB hb; (try clear hb); (try clear hb2); (try clear hk); (try clear hi)))
       (try simp only [Act.put, List.setIfInBounds_toArray, List.set_cons_zero, List.set_cons_succ])
       go_cut [146] (fun a1f wc => ∃ (kq : Nat) (m2 : Bool), a1f = .bool m2 ∧ Aside0 (scarfjointref18_Valid.j4 kq a2 m2 b4 b6 a1 a0 ((rd_T75 a0 a2).f0) ((rd_T75 a0 a2).f1) ((rd_T75 a0 a2).f2) ((rd_T75 a0 a2).f3) = some r) ∧ Aside0 (kq ≤ C4) ∧ Aside0 (wc.heap[y6]? = some (.cells #[(.slice g5 b4.length g3), (.slice g4 b6.length g2)] 31 (0, 0))) ∧ Aside0 (wc.heap[d9]? = some (.cells #[(.slice g1 a1.length e0), (.slice (some c0) a0.length e5)] 46 (0, 0))) ∧ Aside0 (wc.heap[g6]? = some (.cells #[.int .i64 ((rd_T75 a0 a2).f0), .int .i64 ((rd_T75 a0 a2).f1), .int .i64 ((rd_T75 a0 a2).f2), .int .i64 ((rd_T75 a0 a2).f3)] 75 (0, 0))) ∧ Aside0 (Below w.heap.size w wc))
       case first =>
        have H := P2.out
        clear P2
        obtain ⟨E9, a0i, H⟩ := obA H
        by_cases n2 : E9 = 0
        ·rw [if_pos n2] at H
         have m1 := beq_iff_eq.mpr n2
         have P6 := bne_eq_false_iff_eq.mpr n2
         clear n2
         (first | rw [m1] | (simp only [i64_w, i32_w]; rw [m1]) | skip)
         have H' := am H
         clear H
         have a8a := b0.out
         have a6b := b1.out
         have a7j := d3.out
         have a6a := d1.out
         obtain ⟨W6, W5, U2, U1⟩ := cz2 a3
         have a7i := d2.out
         have a5j := d4.out
         obtain ⟨W4, W3, W2, W1, U0, R9, R8, R7⟩ := cz4 a8
         go_wp2_with (first | ((with_reducible refine gate_callee (f := 66) rfl ?_); refine gl 136 Tryz.func66 #[.slice g1 a1.length e0, .agg #[.int .i64 ((rd_T75 a0 a2).f1), .int .i64 0, .int .i64 0, .int .i64 0]] (h := ?_); (with_reducible refine (scarfjointref18_number.calls C4 _ _ a1 ((rd_T75 a0 a2).f1) 0 0 0 E9 _ ?b9 ?b8 a0i.out).mono ?_); (case b9 => exact cb h5 HB); (case b8 => exact C3.out); rintro e b7b ⟨rfl, hb⟩; refine ⟨_, rfl, ?_⟩; replace a4 := bkb a4 hb; replace a3 := bkb a3 hb; replace a8 := bkb a8 hb; replace HB := bstep HB hb; (try clear hb); (try clear hb2); (try clear hk); (try clear hi)))
         go_meet
         case rel => exact ⟨_, (true), eqs, H', ⟨by have := g0.out; have := n3.out; have := D6.out; first | omega | exact Nat.le_refl _⟩, ⟨bk a4⟩, ⟨bk a3⟩, ⟨bk a8⟩, ⟨bb HB⟩⟩
        rw [if_neg n2] at H
        have m1 := beq_eq_false_iff_ne.mpr n2
        have P6 := bne_iff_ne.mpr n2
        (first | rw [m1] | (simp only [i64_w, i32_w]; rw [m1]) | skip)
        obtain ⟨O3, a4j, H⟩ := obA H
        have H' := am H
        clear H
        have a7h := b0.out
        have a5i := b1.out
        have a7g := d3.out
        have a5h := d1.out
        obtain ⟨W0, V9, R6, R5⟩ := cz2 a3
        have a7f := d2.out
        have a5g := d4.out
        obtain ⟨V8, V7, V6, V5, R4, R3, R2, R1⟩ := cz4 a8
        go_wp2_with (first | ((with_reducible refine gate_callee (f := 66) rfl ?_); refine gl 136 Tryz.func66 #[.slice g1 a1.length e0, .agg #[.int .i64 ((rd_T75 a0 a2).f1), .int .i64 0, .int .i64 0, .int .i64 0]] (h := ?_); (with_reducible refine (scarfjointref18_number.calls C4 _ _ a1 ((rd_T75 a0 a2).f1) 0 0 0 E9 _ ?b9 ?b8 a0i.out).mono ?_); (case b9 => exact cb h5 HB); (case b8 => exact C3.out); rintro e b7a ⟨rfl, hb⟩; refine ⟨_, rfl, ?_⟩; replace a4 := bkb a4 hb; replace a3 := bkb a3 hb; replace a8 := bkb a8 hb; replace HB := bstep HB hb; (try clear hb); (try clear hb2); (try clear hk); (try clear hi); obtain ⟨V4, V3, R0, Q9⟩ := cz2 a3; obtain ⟨V2, V1, V0, U9, Q8, Q7, Q6, Q5⟩ := cz4 a8) | (go_at_call 66; (with_reducible refine (scarfjointref18_number.calls C4 _ _ a1 ((rd_T75 a0 a2).f2) 0 0 0 O3 _ ?b9 ?b8 a4j.out).mono ?_); (case b9 => exact cb h5 HB); (case b8 => exact C3.out); rintro e b6j ⟨rfl, hb⟩; replace a4 := bkb a4 hb; replace a3 := bkb a3 hb; replace a8 := bkb a8 hb; replace HB := bstep HB hb; (try clear hb); (try clear hb2); (try clear hk); (try clear hi)))
        go_meet
        case rel => exact ⟨_, ((O3 == 0)), eqs, H', ⟨by have := g0.out; have := n3.out; have := D6.out; first | omega | exact Nat.le_refl _⟩, ⟨bk a4⟩, ⟨bk a3⟩, ⟨bk a8⟩, ⟨bb HB⟩⟩
       case rest =>
        clear P2
        try clear c1
        try clear p2
        try clear c3
        try clear c4
        try clear c5
        try clear c6
        try clear p6
        try clear c7
        try clear c8
        try clear c9
        try clear p9
        try clear q9
        try clear hx9
        try clear y8
        try clear C0
        try clear O2
        try clear c12
        try clear c13
        try clear c37
        try clear c39
        try clear c40
        try clear c42
        try clear c44
        try clear c45
        try clear c47
        try clear H7
        try clear A9
        try clear E3
        try clear P4
        try clear O7
        try clear P3
        try clear O6
        try clear A8
        try clear E2
        try clear c60
        try clear A7
        try clear E1
        try clear c63
        try clear c64
        try clear X9
        try clear c65
        try clear c66
        try clear D8
        try clear O5
        try clear Y9
        try clear Y8
        try clear c70
        try clear c73
        try clear c74
        try clear O1
        try clear O0
        try clear N9
        try clear D7
        try clear m7
        try clear c83
        try clear c84
        try clear c86
        try clear c88
        try clear c89
        try clear p90
        try clear q90
        try clear a1i
        try clear c91
        try clear p91
        try clear q91
        try clear a1h
        try clear c93
        try clear c94
        try clear c96
        try clear c98
        try clear c99
        try clear a4i
        try clear a4h
        try clear a4g
        try clear a4f
        try clear I0
        try clear H9
        try clear b8d
        try clear b8c
        try clear b8b
        try clear n2
        try clear m1
        try clear P6
        try clear b8a
        try clear b7j
        try clear b7i
        try clear b7h
        try clear b7g
        try clear b7f
        try clear H6
        try clear H5
        try clear H4
        try clear H3
        try clear H2
        try clear H1
        try clear H0
        try clear G9
        try clear G8
        try clear G7
        try clear G6
        try clear G5
        try clear X2
        try clear X1
        try clear X0
        try clear W9
        try clear W8
        try clear W7
        try clear W6
        try clear W5
        try clear W4
        try clear W3
        try clear W2
        try clear W1
        try clear W0
        try clear V9
        try clear V8
        try clear V7
        try clear V6
        try clear V5
        try clear V4
        try clear V3
        try clear V2
        try clear V1
        try clear V0
        try clear U9
        try clear y5
        try clear y4
        try clear y3
        try clear y2
        try clear y1
        try clear y0
        try clear x8
        try clear x6
        try clear x5
        try clear x4
        try clear x2
        try clear x0
        try clear w8
        try clear w7
        try clear w4
        try clear w3
        try clear w2
        try clear w1
        try clear w0
        try clear v8
        try clear v6
        try clear v5
        try clear v4
        try clear v3
        try clear v2
        try clear v1
        try clear v0
        try clear t9
        try clear t8
        try clear t7
        try clear t6
        try clear t5
        try clear t4
        try clear t3
        try clear t2
        try clear t1
        try clear D2
        try clear D1
        try clear D0
        try clear C9
        try clear N8
        try clear N7
        try clear N6
        try clear N5
        try clear N4
        try clear N3
        try clear N2
        try clear N1
        try clear N0
        try clear M9
        try clear M8
        try clear M7
        try clear n1
        try clear n0
        try clear M6
        try clear M5
        try clear M4
        try clear M3
        try clear M2
        try clear M1
        try clear M0
        try clear L9
        try clear L8
        try clear L7
        try clear L6
        try clear L5
        try clear G4
        try clear G3
        try clear G2
        try clear G1
        try clear G0
        try clear F9
        try clear F8
        try clear F7
        try clear F6
        try clear F5
        try clear F4
        try clear F3
        try clear U8
        try clear U7
        try clear U6
        try clear U5
        try clear U4
        try clear U3
        try clear U2
        try clear U1
        try clear U0
        try clear R9
        try clear R8
        try clear R7
        try clear R6
        try clear R5
        try clear R4
        try clear R3
        try clear R2
        try clear R1
        try clear R0
        try clear Q9
        try clear Q8
        try clear Q7
        try clear Q6
        try clear Q5
        try clear t0
        try clear r9
        try clear r8
        try clear r7
        try clear r6
        try clear r5
        try clear r4
        try clear r3
        try clear r2
        try clear r1
        try clear r0
        try clear q8
        try clear q7
        try clear q6
        try clear q5
        try clear q4
        try clear q3
        try clear q2
        try clear q1
        try clear q0
        try clear p8
        try clear p7
        try clear p5
        try clear p4
        try clear p3
        try clear p1
        try clear p0
        try clear o9
        try clear o8
        try clear o7
        try clear o6
        try clear o5
        try clear o4
        try clear o3
        try clear o2
        try clear o1
        try clear C8
        try clear C7
        try clear C6
        try clear C5
        try clear L4
        try clear L3
        try clear L2
        try clear L1
        try clear L0
        try clear J9
        try clear J8
        try clear J7
        try clear J6
        try clear J5
        try clear J4
        try clear J3
        try clear m9
        try clear m8
        try clear J2
        try clear J1
        try clear J0
        try clear I9
        try clear I8
        try clear I7
        try clear I6
        try clear I5
        try clear I4
        try clear I3
        try clear I2
        try clear I1
        try clear h3
        try clear h2
        try clear h1
        try clear h0
        try clear d8
        try clear d7
        try clear d6
        try clear d5
        try clear n9
        try clear n8
        try clear n7
        try clear n6
        try clear p2
        try clear p6
        try clear X9
        try clear p9
        try clear p90
        try clear A5
        try clear p91
        try clear h7
        try clear F2
        try clear q9
        try clear q90
        try clear A2
        try clear q91
        try clear h6
        try clear F1
        obtain ⟨kq, m2, rfl, HA, E6, a4, a3, a8, HB⟩ := hcut
        cases kq with
        | zero => exact absurd HA.out (by simp [scarfjointref18_Valid.j4])
        | succ O4 =>
         have H := HA.out
         clear HA
         simp only [scarfjointref18_Valid.j4] at H
         by_cases O8 : m2 = true
         ·subst O8
          replace H := ift H
          obtain rfl := Option.some.inj H
          go_wp2
          go_ret
          exact ⟨erf, bb HB⟩
         replace O8 := Bool.eq_false_iff.mpr O8
         subst O8
         replace H := iff_ H
         by_cases D5 : a2 > 0
         rotate_left
         ·rw [if_neg D5] at H
          have a0f : decide (0 < a2) = false := decide_eq_false D5
          clear D5
          have H' := am H
          clear H
          try go_wp2
          replace a4 := am (blk_drew a4.out)
          replace a3 := am (blk_drew a3.out)
          replace a8 := am (blk_drew a8.out)
          replace HB := am (below_drew1 HB.out)
          refine start_ (n := 13) (S := fun w' => True) (ds := []) #[false, false, false, false, false, false, false, false, false, false, false, false, false] (by kernel_rfl) rfl rfl trivial (fun hHeld => ?_); refine with_tabW scarfjointref18_Valid.tab24 scarfjointref18_Valid.bits24 (fun HT_ HW_ => ?_)
          generalize wc.drew = b6e at a4 a3 a8 HB hHeld ⊢
          refine pu 0 147 (bits 13 0x1) HT_ (h := ?_)
          refine pu 1 148 (bits 13 0x3) HT_ (h := ?_)
          refine pu 2 149 (bits 13 0x7) HT_ (h := ?_)
          refine pn 3 150 (bits 13 0xf) HT_ (h := ?_)
          refine pn 4 151 (bits 13 0x1f) HT_ (h := ?_)
          refine pn 5 152 (bits 13 0x3f) HT_ (h := ?_)
          refine pn 6 153 (bits 13 0x7f) HT_ (h := ?_)
          refine pn 7 154 (bits 13 0xff) HT_ (h := ?_)
          refine pn 8 155 (bits 13 0x1ff) HT_ (h := ?_)
          refine pn 9 156 (bits 13 0x3ff) HT_ (h := ?_)
          refine pn 10 157 (bits 13 0x7ff) HT_ (h := ?_)
          refine pn 11 158 (bits 13 0xfff) HT_ (h := ?_)
          refine pu 12 159 (bits 13 0x1fff) HT_ (h := ?_)
          refine done_ (done_of HT_.out (by kernel_rfl)) ?_
          try go_wp2
          go_roundg O4
          case measure => have := g0.out; have := n3.out; have := D6.out; have := E6.out; omega
          case rel => exact ⟨(wrap64 (a2 + 1)), eqs, H', ⟨by have := g0.out; have := n3.out; have := D6.out; have := E6.out; omega⟩, ⟨bk a4⟩, ⟨bk a3⟩, ⟨bb HB⟩⟩
         rw [if_pos D5] at H
         have a0f : decide (0 < a2) = true := decide_eq_true D5
         clear D5
         obtain ⟨a9, m0⟩ : ∃ j_ : Int, (wrap64 (a2 - 1)) = j_ := ⟨_, rfl⟩
         replace H : (if 0 ≤ (a9) then (if (a9) < (a0.length : Int) then ((scarfjointref18_compare.f ((rd_T75 a0 (a9)).f0) ((rd_T75 a0 (a9)).f1) ((rd_T75 a0 (a9)).f2) ((rd_T75 a0 (a9)).f3) ((rd_T75 a0 a2).f0) ((rd_T75 a0 a2).f1) ((rd_T75 a0 a2).f2) ((rd_T75 a0 a2).f3)).bind fun m3 => (if m3 ≥ 0 then (some 12) else (scarfjointref18_Valid.l1 O4 (wrap64 (a2 + 1)) b4 b6 a1 a0))) else (none)) else (none)) = some r := by first | (rw [m0] at H; exact H) | (simp only [m0] at H ⊢; exact H)
         have hji138w : (IntKind.i64.wrap (a2 - 1)) = a9 := (i64_w _).trans m0
         obtain ⟨a0e, H⟩ := itn H
         have a8j := decide_eq_true a0e
         clear a0e
         obtain ⟨a0d, H⟩ := itn H
         have a8i := decide_eq_true a0d
         clear a0d
         obtain ⟨m3, a0h, H⟩ := obA H
         by_cases D4 : m3 ≥ 0
         ·rw [if_pos D4] at H
          have a0c : decide (0 ≤ m3) = true := decide_eq_true D4
          clear D4
          obtain rfl := Option.some.inj H
          try go_wp2
          replace a4 := am (blk_drew a4.out)
          replace a3 := am (blk_drew a3.out)
          replace a8 := am (blk_drew a8.out)
          replace HB := am (below_drew1 HB.out)
          have A4 : 0 ≤ ((a9) : Int) := odt
          have A1 : (a9) < (a0.length : Int) := odt
          obtain ⟨O9, X3, e4, e3, e2, e1⟩ := at_T75 C2.out (a9) A4 A1
          have h9 := e1
          have j0 := e2
          have j2 := e3
          have j5 := e4
          obtain rfl : c0 = O9 := (by injection X3)
          replace e4 := hxc HB e4
          replace e3 := hxc HB e3
          replace e2 := hxc HB e2
          replace e1 := hxc HB e1
          replace A4 := eq_true A4
          replace A1 := eq_true A1
          refine start_ (n := 13) (S := fun w' => w'.cell? ⟨d9, 0, none⟩ = some (.slice g1 a1.length e0) ∧ w'.cell? ⟨d9, 1, none⟩ = some (.slice (some c0) a0.length e5) ∧ w'.cell? ⟨g6, 0, none⟩ = some (.int .i64 ((rd_T75 a0 a2).f0)) ∧ w'.cell? ⟨g6, 1, none⟩ = some (.int .i64 ((rd_T75 a0 a2).f1)) ∧ w'.cell? ⟨g6, 2, none⟩ = some (.int .i64 ((rd_T75 a0 a2).f2)) ∧ w'.cell? ⟨g6, 3, none⟩ = some (.int .i64 ((rd_T75 a0 a2).f3)) ∧ w'.cell? (c0.add (((a9)).toNat * 4)) = some (.int .i64 ((rd_T75 a0 (a9)).f0)) ∧ w'.cell? ⟨(c0.add (((a9)).toNat * 4)).block, (c0.add (((a9)).toNat * 4)).off + 1, none⟩ = some (.int .i64 ((rd_T75 a0 (a9)).f1)) ∧ w'.cell? ⟨(c0.add (((a9)).toNat * 4)).block, (c0.add (((a9)).toNat * 4)).off + 2, none⟩ = some (.int .i64 ((rd_T75 a0 (a9)).f2)) ∧ w'.cell? ⟨(c0.add (((a9)).toNat * 4)).block, (c0.add (((a9)).toNat * 4)).off + 3, none⟩ = some (.int .i64 ((rd_T75 a0 (a9)).f3))) (ds := []) #[false, false, false, false, false, false, false, false, false, false, false, false, false] (by kernel_rfl) rfl rfl ⟨bc a3 0, bc a3 1, bc a8 0, bc a8 1, bc a8 2, bc a8 3, (hxc HB j5), (hxc HB j2), (hxc HB j0), (hxc HB h9)⟩ (fun hHeld => ?_); refine with_tabW scarfjointref18_Valid.tab24 scarfjointref18_Valid.bits24 (fun HT_ HW_ => ?_)
          generalize wc.drew = b6i at a4 a3 a8 HB e4 e3 e2 e1 hHeld ⊢
          refine pu 0 147 (bits 13 0x1) HT_ (h := ?_)
          refine pu 1 148 (bits 13 0x3) HT_ (h := ?_)
          refine pu 2 149 (bits 13 0x7) HT_ (h := ?_)
          refine pu 3 150 (bits 13 0xf) HT_ (h := ?_)
          refine pu 5 152 (bits 13 0x2f) HT_ (h := ?_)
          refine pu 6 153 (bits 13 0x6f) HT_ (h := ?_)
          refine tk 4 151 (bits 13 0x7f) HT_ HW_ hHeld (hy := by rintro w' ⟨s0, s1, s2, s3, s4, s5, s6, s7, s8, s9⟩; go_simp; with_reducible rfl) (h := ?_)
          refine pu 7 154 (bits 13 0xff) HT_ (h := ?_)
          refine tk 8 155 (bits 13 0x1ff) HT_ HW_ hHeld (hy := by rintro w' ⟨s0, s1, s2, s3, s4, s5, s6, s7, s8, s9⟩; go_simp; with_reducible rfl) (h := ?_)
          refine tk 9 156 (bits 13 0x3ff) HT_ HW_ hHeld (hy := by rintro w' ⟨s0, s1, s2, s3, s4, s5, s6, s7, s8, s9⟩; go_simp; with_reducible rfl) (h := ?_)
          refine one_ (i := 10) (N := some 157) #[true, true, true, true, true, true, true, true, true, true, true, false, false] rfl rfl (one_of HT_.out (by kernel_rfl)) (by decide) (fun K hK => ?_)
          refine goes_ Tryz.func63 (by kernel_rfl) rfl #[.agg #[.int .i64 ((rd_T75 a0 (a9)).f0), .int .i64 ((rd_T75 a0 (a9)).f1), .int .i64 ((rd_T75 a0 (a9)).f2), .int .i64 ((rd_T75 a0 (a9)).f3)], .agg #[.int .i64 ((rd_T75 a0 a2).f0), .int .i64 ((rd_T75 a0 a2).f1), .int .i64 ((rd_T75 a0 a2).f2), .int .i64 ((rd_T75 a0 a2).f3)]] (by rfl) rfl rfl (by (try simp only [List.map_toArray, List.map_cons, List.map_nil]); first | done | (simp only [m0]; rfl) | rfl | (simp only [List.length_drop, List.length_take]; rfl)) ?_
          with_reducible refine (scarfjointref18_compare.calls ((rd_T75 a0 (a9)).f0) ((rd_T75 a0 (a9)).f1) ((rd_T75 a0 (a9)).f2) ((rd_T75 a0 (a9)).f3) ((rd_T75 a0 a2).f0) ((rd_T75 a0 a2).f1) ((rd_T75 a0 a2).f2) ((rd_T75 a0 a2).f3) m3 _ a0h.out).mono ?_
          rintro e b6h ⟨rfl, hb⟩
          refine ⟨_, rfl, ?_⟩
          replace a4 := bkb a4 hb
          replace a3 := bkb a3 hb
          replace a8 := bkb a8 hb
          replace HB := bstep HB hb
          (try clear hb)
          (try clear hb2)
          (try clear hk)
          (try clear hi)
          refine hK.out _ _ ⟨bc a3 0, bc a3 1, bc a8 0, bc a8 1, bc a8 2, bc a8 3, (hxc HB j5), (hxc HB j2), (hxc HB j0), (hxc HB h9)⟩ (fun hHeld => ?_)
          clear hK K
          refine norm_ (a' := ?_) ?_ ?_
          rotate_left
          ·show Act.put _ (some 157) _ = _
           simp only [Act.put, List.setIfInBounds_toArray, List.set_cons_zero, List.set_cons_succ, i64_w, i32_w]
           rfl
          refine pu 11 158 (bits 13 0xfff) HT_ (h := ?_)
          refine pu 12 159 (bits 13 0x1fff) HT_ (h := ?_)
          refine done_ (done_of HT_.out (by kernel_rfl)) ?_
          try go_wp2
          go_ret
          exact ⟨by first | rfl | (simp [errW_none, errW_some] <;> rfl) | (simp only [← m0]; first | rfl | (simp [errW_none, errW_some] <;> rfl)) | (simp [*, errW_none, errW_some] <;> rfl), bb HB⟩
         rw [if_neg D4] at H
         have a0c : decide (0 ≤ m3) = false := decide_eq_false D4
         clear D4
         have H' := am H
         clear H
         try go_wp2
         replace a4 := am (blk_drew a4.out)
         replace a3 := am (blk_drew a3.out)
         replace a8 := am (blk_drew a8.out)
         replace HB := am (below_drew1 HB.out)
         have A4 : 0 ≤ ((a9) : Int) := odt
         have A1 : (a9) < (a0.length : Int) := odt
         obtain ⟨O9, X3, e4, e3, e2, e1⟩ := at_T75 C2.out (a9) A4 A1
         have h9 := e1
         have j0 := e2
         have j2 := e3
         have j5 := e4
         obtain rfl : c0 = O9 := (by injection X3)
         replace e4 := hxc HB e4
         replace e3 := hxc HB e3
         replace e2 := hxc HB e2
         replace e1 := hxc HB e1
         replace A4 := eq_true A4
         replace A1 := eq_true A1
         refine start_ (n := 13) (S := fun w' => w'.cell? ⟨d9, 0, none⟩ = some (.slice g1 a1.length e0) ∧ w'.cell? ⟨d9, 1, none⟩ = some (.slice (some c0) a0.length e5) ∧ w'.cell? ⟨g6, 0, none⟩ = some (.int .i64 ((rd_T75 a0 a2).f0)) ∧ w'.cell? ⟨g6, 1, none⟩ = some (.int .i64 ((rd_T75 a0 a2).f1)) ∧ w'.cell? ⟨g6, 2, none⟩ = some (.int .i64 ((rd_T75 a0 a2).f2)) ∧ w'.cell? ⟨g6, 3, none⟩ = some (.int .i64 ((rd_T75 a0 a2).f3)) ∧ w'.cell? (c0.add (((a9)).toNat * 4)) = some (.int .i64 ((rd_T75 a0 (a9)).f0)) ∧ w'.cell? ⟨(c0.add (((a9)).toNat * 4)).block, (c0.add (((a9)).toNat * 4)).off + 1, none⟩ = some (.int .i64 ((rd_T75 a0 (a9)).f1)) ∧ w'.cell? ⟨(c0.add (((a9)).toNat * 4)).block, (c0.add (((a9)).toNat * 4)).off + 2, none⟩ = some (.int .i64 ((rd_T75 a0 (a9)).f2)) ∧ w'.cell? ⟨(c0.add (((a9)).toNat * 4)).block, (c0.add (((a9)).toNat * 4)).off + 3, none⟩ = some (.int .i64 ((rd_T75 a0 (a9)).f3))) (ds := []) #[false, false, false, false, false, false, false, false, false, false, false, false, false] (by kernel_rfl) rfl rfl ⟨bc a3 0, bc a3 1, bc a8 0, bc a8 1, bc a8 2, bc a8 3, (hxc HB j5), (hxc HB j2), (hxc HB j0), (hxc HB h9)⟩ (fun hHeld => ?_); refine with_tabW scarfjointref18_Valid.tab24 scarfjointref18_Valid.bits24 (fun HT_ HW_ => ?_)
         generalize wc.drew = b6g at a4 a3 a8 HB e4 e3 e2 e1 hHeld ⊢
         refine pu 0 147 (bits 13 0x1) HT_ (h := ?_)
         refine pu 1 148 (bits 13 0x3) HT_ (h := ?_)
         refine pu 2 149 (bits 13 0x7) HT_ (h := ?_)
         refine pu 3 150 (bits 13 0xf) HT_ (h := ?_)
         refine pu 5 152 (bits 13 0x2f) HT_ (h := ?_)
         refine pu 6 153 (bits 13 0x6f) HT_ (h := ?_)
         refine tk 4 151 (bits 13 0x7f) HT_ HW_ hHeld (hy := by rintro w' ⟨s0, s1, s2, s3, s4, s5, s6, s7, s8, s9⟩; go_simp; with_reducible rfl) (h := ?_)
         refine pu 7 154 (bits 13 0xff) HT_ (h := ?_)
         refine tk 8 155 (bits 13 0x1ff) HT_ HW_ hHeld (hy := by rintro w' ⟨s0, s1, s2, s3, s4, s5, s6, s7, s8, s9⟩; go_simp; with_reducible rfl) (h := ?_)
         refine tk 9 156 (bits 13 0x3ff) HT_ HW_ hHeld (hy := by rintro w' ⟨s0, s1, s2, s3, s4, s5, s6, s7, s8, s9⟩; go_simp; with_reducible rfl) (h := ?_)
         refine one_ (i := 10) (N := some 157) #[true, true, true, true, true, true, true, true, true, true, true, false, false] rfl rfl (one_of HT_.out (by kernel_rfl)) (by decide) (fun K hK => ?_)
         refine goes_ Tryz.func63 (by kernel_rfl) rfl #[.agg #[.int .i64 ((rd_T75 a0 (a9)).f0), .int .i64 ((rd_T75 a0 (a9)).f1), .int .i64 ((rd_T75 a0 (a9)).f2), .int .i64 ((rd_T75 a0 (a9)).f3)], .agg #[.int .i64 ((rd_T75 a0 a2).f0), .int .i64 ((rd_T75 a0 a2).f1), .int .i64 ((rd_T75 a0 a2).f2), .int .i64 ((rd_T75 a0 a2).f3)]] (by rfl) rfl rfl (by (try simp only [List.map_toArray, List.map_cons, List.map_nil]); first | done | (simp only [m0]; rfl) | rfl | (simp only [List.length_drop, List.length_take]; rfl)) ?_
         with_reducible refine (scarfjointref18_compare.calls ((rd_T75 a0 (a9)).f0) ((rd_T75 a0 (a9)).f1) ((rd_T75 a0 (a9)).f2) ((rd_T75 a0 (a9)).f3) ((rd_T75 a0 a2).f0) ((rd_T75 a0 a2).f1) ((rd_T75 a0 a2).f2) ((rd_T75 a0 a2).f3) m3 _ a0h.out).mono ?_
         rintro e b6f ⟨rfl, hb⟩
         refine ⟨_, rfl, ?_⟩
         replace a4 := bkb a4 hb
         replace a3 := bkb a3 hb
         replace a8 := bkb a8 hb
         replace HB := bstep HB hb
         (try clear hb)
         (try clear hb2)
         (try clear hk)
         (try clear hi)
         refine hK.out _ _ ⟨bc a3 0, bc a3 1, bc a8 0, bc a8 1, bc a8 2, bc a8 3, (hxc HB j5), (hxc HB j2), (hxc HB j0), (hxc HB h9)⟩ (fun hHeld => ?_)
         clear hK K
         refine norm_ (a' := ?_) ?_ ?_
         rotate_left
         ·show Act.put _ (some 157) _ = _
          simp only [Act.put, List.setIfInBounds_toArray, List.set_cons_zero, List.set_cons_succ, i64_w, i32_w]
          rfl
         refine pu 11 158 (bits 13 0xfff) HT_ (h := ?_)
         refine pu 12 159 (bits 13 0x1fff) HT_ (h := ?_)
         refine done_ (done_of HT_.out (by kernel_rfl)) ?_
         try go_wp2
         go_roundg O4
         case measure => have := g0.out; have := n3.out; have := D6.out; have := E6.out; omega
         case rel => exact ⟨(wrap64 (a2 + 1)), eqs, H', ⟨by have := g0.out; have := n3.out; have := D6.out; have := E6.out; omega⟩, ⟨bk a4⟩, ⟨bk a3⟩, ⟨bb HB⟩⟩
end Go.Proofs.YtfpianecohobjaaGreat.P
