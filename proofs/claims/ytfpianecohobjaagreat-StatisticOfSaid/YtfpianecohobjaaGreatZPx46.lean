/- StatisticOf: a part of its proof. No condition. -/
import Derived.Test.YtfpianecohobjaaGreatZPx0
namespace Go.Proofs.YtfpianecohobjaaGreat.P
open Go.RowKit Go.Proofs.YtfpianecohobjaaGreatW.PrintWords Go.Proofs.YtfpianecohobjaaGreatW.PrintLast Go.Proofs.YtfpianecohobjaaGreatW.PrintMore
set_option linter.unusedVariables false
set_option linter.unusedSimpArgs false
def scarfjointref18_compare.f (d4 : Int) (d3 : Int) (e2 : Int) (g5 : Int) (a4 : Int) (a3 : Int) (a6 : Int) (a7 : Int) : Option (Int) := if d4 = a4 then (if d3 = a3 then (some (wrap64 (e2 - a6))) else (some (wrap64 (d3 - a3)))) else (some (wrap64 (d4 - a4)))
set_option maxHeartbeats 8000000 in
set_option maxRecDepth 100000 in
theorem scarfjointref18_compare.calls (d4 : Int) (d3 : Int) (e2 : Int) (g5 : Int) (a4 : Int) (a3 : Int) (a6 : Int) (a7 : Int) (r : Int) (w : World) (h : scarfjointref18_compare.f d4 d3 e2 g5 a4 a3 a6 a7 = some r) :
  Calls Tryz.prog 63 #[.agg #[.int .i64 d4, .int .i64 d3, .int .i64 e2, .int .i64 g5], .agg #[.int .i64 a4, .int .i64 a3, .int .i64 a6, .int .i64 a7]] w fun e w' => e = .returned (.int .i64 r) ∧ Below w.heap.size w w' := by
 have hu75 := Tryz.underlying75
 have HB := Aside0.mk (Below.refl w.heap.size w)
 have H : (if d4 = a4 then (if d3 = a3 then (some (wrap64 (e2 - a6))) else (some (wrap64 (d3 - a3)))) else (some (wrap64 (d4 - a4)))) = some r := h
 clear h
 by_cases c3 : d4 = a4
 rotate_left
 ·rw [if_neg c3] at H
  have p6 := beq_eq_false_iff_ne.mpr c3
  have p5 := bne_iff_ne.mpr c3
  obtain rfl := Option.some.inj H
  go_enter Tryz.func63, Tryz.ntmps63
  go_wp2_with (first | ((with_reducible refine gate_dst (N := 2) rfl ?_); refine be 2 #[.int .i64 d4, .int .i64 d3, .int .i64 e2, .int .i64 g5] 75 ?_; intro j4 hg H8 hbox hb; have b2 := Aside0.mk (hbox); have j8 := bsz HB hg; replace HB := bstep HB hb; clear hb hbox hg) | ((with_reducible refine gate_dst (N := 3) rfl ?_); refine be 3 #[.int .i64 a4, .int .i64 a3, .int .i64 a6, .int .i64 a7] 75 ?_; intro j3 hg D1 hbox hb; have g3 := Aside0.mk (hbox); have j7 := bsz HB hg; replace HB := bstep HB hb; have d0 := blt b2 hg; have c9 := bgt b2 hg; replace b2 := bkb b2 hb; clear hb hbox hg; have G0 := d0.out; have F4 := c9.out; obtain ⟨A6, A5, A4, A3, t2, t1, t0, s9⟩ := cz4 b2; obtain ⟨A2, A1, y9, y8, s8, r9, r8, r7⟩ := cz4 g3))
  go_ret
  exact ⟨erf, bb HB⟩
 rw [if_pos c3] at H
 have p6 := beq_iff_eq.mpr c3
 have p5 := bne_eq_false_iff_eq.mpr c3
 clear c3
 by_cases c4 : d3 = a3
 rotate_left
 ·rw [if_neg c4] at H
  have p4 := beq_eq_false_iff_ne.mpr c4
  have p3 := bne_iff_ne.mpr c4
  obtain rfl := Option.some.inj H
  go_enter Tryz.func63, Tryz.ntmps63
  go_wp2_with (first | ((with_reducible refine gate_dst (N := 2) rfl ?_); refine be 2 #[.int .i64 d4, .int .i64 d3, .int .i64 e2, .int .i64 g5] 75 ?_; intro j4 hg D2 hbox hb; have b2 := Aside0.mk (hbox); have j8 := bsz HB hg; replace HB := bstep HB hb; clear hb hbox hg) | ((with_reducible refine gate_dst (N := 3) rfl ?_); refine be 3 #[.int .i64 a4, .int .i64 a3, .int .i64 a6, .int .i64 a7] 75 ?_; intro j3 hg H9 hbox hb; have g3 := Aside0.mk (hbox); have j7 := bsz HB hg; replace HB := bstep HB hb; have d0 := blt b2 hg; have c9 := bgt b2 hg; replace b2 := bkb b2 hb; clear hb hbox hg; have G1 := d0.out; have F5 := c9.out; obtain ⟨C9, C8, C7, C6, v4, v3, v2, v1⟩ := cz4 b2; obtain ⟨C5, C4, C3, C2, v0, t9, t8, t7⟩ := cz4 g3))
  go_ret
  exact ⟨erf, bb HB⟩
 rw [if_pos c4] at H
 have p4 := beq_iff_eq.mpr c4
 have p3 := bne_eq_false_iff_eq.mpr c4
 clear c4
 obtain rfl := Option.some.inj H
 go_enter Tryz.func63, Tryz.ntmps63
 go_wp2_with (first | ((with_reducible refine gate_dst (N := 2) rfl ?_); refine be 2 #[.int .i64 d4, .int .i64 d3, .int .i64 e2, .int .i64 g5] 75 ?_; intro j4 hg w5 hbox hb; have b2 := Aside0.mk (hbox); have j8 := bsz HB hg; replace HB := bstep HB hb; clear hb hbox hg) | ((with_reducible refine gate_dst (N := 3) rfl ?_); refine be 3 #[.int .i64 a4, .int .i64 a3, .int .i64 a6, .int .i64 a7] 75 ?_; intro j3 hg w6 hbox hb; have g3 := Aside0.mk (hbox); have j7 := bsz HB hg; replace HB := bstep HB hb; have d0 := blt b2 hg; have c9 := bgt b2 hg; replace b2 := bkb b2 hb; clear hb hbox hg; have H0 := d0.out; have G9 := c9.out; obtain ⟨E9, E8, E7, E6, E1, E0, D9, D8⟩ := cz4 b2; obtain ⟨E5, E4, E3, E2, D7, D6, D5, D4⟩ := cz4 g3))
 go_ret
 exact ⟨erf, bb HB⟩
theorem cell_twice (w : World) (a : Addr) (x y : Value) (h : (w.cell? a).isSome = true) : ((w.setCell a x).setCell a y).cell? a = some y :=
 World.cell?_setCell_same' _ _ _ (by rw [World.cell?_setCell_same' _ _ _ h]; rfl)
attribute [local go_sem] cell_twice
mutual
def scarfjointref18_change.l0 : Nat → List (S75) → Int → List (S75) → Bool → Int → Int → Int → Int → Int → Option ((List (S75)))
 | 0, _, _, _, _, _, _, _, _, _ => none
 | k + 1, x0, x2, x7, x8, x9, b1, b0, a9, b3 => if x9 < (x0.length : Int) then (if 0 ≤ x9 then ((scarfjointref18_compare.f ((rd_T75 x0 x9).f0) ((rd_T75 x0 x9).f1) ((rd_T75 x0 x9).f2) ((rd_T75 x0 x9).f3) b1 b0 a9 b3).bind fun d1 => (if d1 > 0 then (scarfjointref18_change.j1 k x0 x2 x7 x8 x9 d1 (!x8) b1 b0 a9 b3) else (scarfjointref18_change.j1 k x0 x2 x7 x8 x9 d1 false b1 b0 a9 b3))) else (none)) else (if x8 = true then (some x7) else (if x7.length < 4398046511104 then (some (x7 ++ [(⟨b1, b0, a9, x2⟩ : S75)])) else (none)))
def scarfjointref18_change.j1 : Nat → List (S75) → Int → List (S75) → Bool → Int → Int → Bool → Int → Int → Int → Int → Option ((List (S75)))
 | 0, _, _, _, _, _, _, _, _, _, _, _ => none
 | k + 1, x0, x2, x7, x8, x9, j0, D0, b1, b0, a9, b3 => if D0 = true then (if x7.length < 4398046511104 then (scarfjointref18_change.j2 k x0 x2 (x7 ++ [(⟨b1, b0, a9, x2⟩ : S75)]) true x9 j0 b1 b0 a9 b3) else (none)) else (scarfjointref18_change.j2 k x0 x2 x7 x8 x9 j0 b1 b0 a9 b3)
def scarfjointref18_change.j2 : Nat → List (S75) → Int → List (S75) → Bool → Int → Int → Int → Int → Int → Int → Option ((List (S75)))
 | 0, _, _, _, _, _, _, _, _, _, _ => none
 | k + 1, x0, x2, x7, x8, x9, j0, b1, b0, a9, b3 => if 0 ≤ x9 then (if x9 < (x0.length : Int) then (if j0 = 0 then (if (wrap64 (((rd_T75 x0 x9).f3) + x2)) > 0 then (if x7.length < 4398046511104 then (scarfjointref18_change.l0 k x0 x2 (x7 ++ [(⟨(rd_T75 x0 x9).f0, (rd_T75 x0 x9).f1, (rd_T75 x0 x9).f2, wrap64 (((rd_T75 x0 x9).f3) + x2)⟩ : S75)]) true (wrap64 (x9 + 1)) b1 b0 a9 b3) else (none)) else (scarfjointref18_change.l0 k x0 x2 x7 true (wrap64 (x9 + 1)) b1 b0 a9 b3)) else (if ((rd_T75 x0 x9).f3) > 0 then (if x7.length < 4398046511104 then (scarfjointref18_change.l0 k x0 x2 (x7 ++ [(⟨(rd_T75 x0 x9).f0, (rd_T75 x0 x9).f1, (rd_T75 x0 x9).f2, (rd_T75 x0 x9).f3⟩ : S75)]) x8 (wrap64 (x9 + 1)) b1 b0 a9 b3) else (none)) else (scarfjointref18_change.l0 k x0 x2 x7 x8 (wrap64 (x9 + 1)) b1 b0 a9 b3))) else (none)) else (none)
end
def scarfjointref18_change.f (k : Nat) (l0 : List (S75)) (a4 : Int) (a3 : Int) (a6 : Int) (a7 : Int) (a2 : Int) : Option ((List (S75))) := scarfjointref18_change.l0 k l0 a2 ([] : List (S75)) false 0 a4 a3 a6 a7
set_option maxHeartbeats 8000000 in
set_option maxRecDepth 100000 in
theorem scarfjointref18_change.calls (k : Nat) (A0 : Option Addr) (c0 : Nat) (l0 : List (S75)) (a4 : Int) (a3 : Int) (a6 : Int) (a7 : Int) (a2 : Int) (r : List (S75)) (w : World) (o2 : Kd.C k75 w A0 l0.length l0) (o3 : l0.length ≤ c0) (h : scarfjointref18_change.f k l0 a4 a3 a6 a7 a2 = some r) :
  Calls Tryz.prog 56 #[.slice A0 l0.length c0, .agg #[.int .i64 a4, .int .i64 a3, .int .i64 a6, .int .i64 a7], .int .i64 a2] w fun e w' => ∃ o0 : Value, e = .returned (o0) ∧ Kd.R k75 75 w' w.heap.size (fun _ => True) o0 r ∧ Below w.heap.size w w' := by
 have hu75 := Tryz.underlying75
 have h8 := Aside0.mk o2
 have I0 := Aside0.mk o3
 clear o2 o3
 have HB := Aside0.mk (Below.refl w.heap.size w)
 have H : (scarfjointref18_change.l0 k l0 a2 ([] : List (S75)) false 0 a4 a3 a6 a7) = some r := h
 clear h
 have H' := Aside0.mk H
 clear H
 go_enter Tryz.func56, Tryz.ntmps56
 go_wp2_with ((with_reducible refine gate_dst (N := 4) rfl ?_); refine be 4 #[.int .i64 a4, .int .i64 a3, .int .i64 a6, .int .i64 a7] 75 ?_; intro a8 hg w4 hbox hb; have a1 := Aside0.mk (hbox); have G4 := bsz HB hg; replace HB := bstep HB hb; clear hb hbox hg)
 go_loopg [7, 8, 9] k (fun kq v7 v8 v9 w' => ∃ (d5 : List (S75)) (e6 : Bool) (a0 : Int), v8 = .bool e6 ∧ v9 = .int .i64 a0 ∧ Aside0 (scarfjointref18_change.l0 kq l0 a2 d5 e6 a0 a4 a3 a6 a7 = some r) ∧ Aside0 (kq ≤ k) ∧ Aside0 (Kd.R k75 75 w' w.heap.size (fun k_ => k_ ≠ a8) v7 d5) ∧ Aside0 (w'.heap[a8]? = some (.cells #[.int .i64 a4, .int .i64 a3, .int .i64 a6, .int .i64 a7] 75 (0, 0))) ∧ Aside0 (Below w.heap.size w w'))
 case atStart => exact ⟨(([] : List (S75))), (false), (0), eqs, eqs, H', ⟨Nat.le_refl _⟩, ⟨by first | exact Kd.R_nil _ _ _ _ _ | exact Kd.N_nil _ _ _ _ _ | exact Kd.V_nil _ _ _ _ _ | exact Kd.Q_nil _ _ _ _ _ | exact Kd.S_nil _ _ _ _ _⟩, ⟨bk a1⟩, ⟨bb HB⟩⟩
 case round =>
  clear H'
  obtain ⟨d5, e6, a0, rfl, rfl, HA, e1, HO_7, a1, HB⟩ := hrel
  cases gk with
  | zero => exact absurd HA.out (by simp [scarfjointref18_change.l0])
  | succ k1 =>
   have H := HA.out
   clear HA
   simp only [scarfjointref18_change.l0] at H
   by_cases c5 : a0 < (l0.length : Int)
   rotate_left
   ·rw [if_neg c5] at H
    have m2 := decide_eq_false c5
    clear c5
    by_cases j5 : e6 = true
    ·subst j5
     replace H := ift H
     obtain rfl := Option.some.inj H
     go_wp2
     go_ret
     exact ⟨_, erf, by (with_reducible repeat (first | apply Kd.R_alloc | apply Kd.R_drewN | apply Kd.R_drew)); exact Kd.R_mono HO_7.out (fun _ hk => trivial), bb HB⟩
    replace j5 := Bool.eq_false_iff.mpr j5
    subst j5
    replace H := iff_ H
    obtain ⟨o4, H⟩ := itn H
    have n2 := Aside0.mk o4
    clear o4
    obtain ⟨p0, g1⟩ : ∃ y_ : List (S75), y_ = (d5 ++ [(⟨a4, a3, a6, a2⟩ : S75)]) := ⟨_, rfl⟩
    replace H : (some p0) = some r := by first | (rw [g1]; with_reducible exact H) | (have H2_ := (Option.bind_some _ _).symm.trans H; rw [g1]; with_reducible exact H2_) | (have H2_ := (Option.bind_some _ _).symm.trans H; with_reducible exact H2_) | with_reducible exact H | (rw [g1]; exact H) | exact H
    have n1 := Aside0.mk g1
    clear g1
    obtain rfl := Option.some.inj H
    obtain ⟨w2, w1, v6, v5, q0, p9, p8, p7⟩ := cz4 a1
    go_wp2_with ((with_reducible refine gate_builtin (b := .append) (xs := #[.tmp 61, .tmp 70]) rfl ?_); at_builtin; refine Kd.R_append k75 (w0 := w) w.heap.size rfl (.tmp 61) (.tmp 70) 44 75 (.agg #[(.int .i64 0), (.int .i64 0), (.int .i64 0), (.int .i64 0)]) 32 rfl Tryz.underlying44 info75 rfl (by decide) (by omega) u7 d5 (⟨a4, a3, a6, a2⟩ : S75) [.int .i64 a4, .int .i64 a3, .int .i64 a6, .int .i64 a2] (fun k_ => k_ ≠ a8) (fun _ => False) rfl rfl ?aP (fun _ hk => hk.elim) ?aF ?aO ?aB ?aS ?aL ?_; (case aP => exact k75_mkM _ _ _ (⟨a4, a3, a6, a2⟩ : S75)); (case aB => exact (bb HB)); (case aF => exact (fun k_ hk => Kd.freshB (g := a8) (o := .cells #[.int .i64 a4, .int .i64 a3, .int .i64 a6, .int .i64 a7] 75 (0, 0)) (bk a1) k_ hk)); (case aO => exact (kR HO_7)); (case aS => exact (below_size (bb HB))); (case aL => have := n2.out; omega); intro G8 H1 ho hb hg hat; rw [← n1.out] at ho; replace a1 := Aside0.mk (blk_grown (g := a8) (o := .cells #[.int .i64 a4, .int .i64 a3, .int .i64 a6, .int .i64 a7] 75 (0, 0)) (bk a1) hg (Kd.R_away HO_7.out (fun _ hk => hk))); replace HB := Aside0.mk (hb); have n9 := Aside0.mk (ho); clear HO_7 ho hb hg hat)
    go_ret
    exact ⟨_, erf, by (with_reducible repeat (first | apply Kd.R_alloc | apply Kd.R_drewN | apply Kd.R_drew)); exact Kd.R_mono n9.out (fun _ hk => trivial), bb HB⟩
   rw [if_pos c5] at H
   have m2 := decide_eq_true c5
   clear c5
   obtain ⟨c6, H⟩ := itn H
   have p2 := decide_eq_true c6
   clear c6
   obtain ⟨d1, A7, H⟩ := obA H
   have m3 := Aside0.mk H
   clear H
   try go_wp2
   replace HO_7 := Aside0.mk (Kd.R_drew HO_7.out)
   replace a1 := Aside0.mk (blk_drew a1.out)
   replace HB := Aside0.mk (below_drew1 HB.out)
   have h6 : 0 ≤ a0 := odt
   have h5 : a0 < (l0.length : Int) := odt
   obtain ⟨c8, p1, d9, d8, d7, d6⟩ := at_T75 h8.out a0 h6 h5
   have g8 := d6
   have g9 := d7
   have h0 := d8
   have h1 := d9
   cases p1
   replace d9 := hxc HB d9
   replace d8 := hxc HB d8
   replace d7 := hxc HB d7
   replace d6 := hxc HB d6
   replace h6 := eq_true h6
   replace h5 := eq_true h5
   refine start_ (n := 7) (S := fun w' => w'.cell? ⟨a8, 0, none⟩ = some (.int .i64 a4) ∧ w'.cell? ⟨a8, 1, none⟩ = some (.int .i64 a3) ∧ w'.cell? ⟨a8, 2, none⟩ = some (.int .i64 a6) ∧ w'.cell? ⟨a8, 3, none⟩ = some (.int .i64 a7) ∧ w'.cell? (c8.add ((a0).toNat * 4)) = some (.int .i64 ((rd_T75 l0 a0).f0)) ∧ w'.cell? ⟨(c8.add ((a0).toNat * 4)).block, (c8.add ((a0).toNat * 4)).off + 1, none⟩ = some (.int .i64 ((rd_T75 l0 a0).f1)) ∧ w'.cell? ⟨(c8.add ((a0).toNat * 4)).block, (c8.add ((a0).toNat * 4)).off + 2, none⟩ = some (.int .i64 ((rd_T75 l0 a0).f2)) ∧ w'.cell? ⟨(c8.add ((a0).toNat * 4)).block, (c8.add ((a0).toNat * 4)).off + 3, none⟩ = some (.int .i64 ((rd_T75 l0 a0).f3))) (ds := []) #[false, false, false, false, false, false, false] (by kernel_rfl) rfl rfl ⟨bc a1 0, bc a1 1, bc a1 2, bc a1 3, (hxc HB h1), (hxc HB h0), (hxc HB g9), (hxc HB g8)⟩ (fun hHeld => ?_)
   generalize wr.drew = w9 at HO_7 a1 HB d9 d8 d7 d6 hHeld ⊢
   refine pure_ (i := 0) (N := some 18) (v := ?_) (a' := ?_) #[true, false, false, false, false, false, false] rfl rfl (by kernel_rfl) (fun _ _ _ h => h) (Or.inl ⟨by rfl, ?_⟩) ?_ ?_
   rotate_left
   ·intro w'
    go_simp
    with_reducible rfl
   rotate_left
   ·simp only [Act.put, List.setIfInBounds_toArray, List.set_cons_zero, List.set_cons_succ, i64_w, i32_w]
    rfl
   refine pure_ (i := 1) (N := some 19) (v := ?_) (a' := ?_) #[true, true, false, false, false, false, false] rfl rfl (by kernel_rfl) (fun _ _ _ h => h) (Or.inl ⟨by rfl, ?_⟩) ?_ ?_
   rotate_left
   ·intro w'
    go_simp
    with_reducible rfl
   rotate_left
   ·simp only [Act.put, List.setIfInBounds_toArray, List.set_cons_zero, List.set_cons_succ, i64_w, i32_w]
    rfl
   refine pure_ (i := 2) (N := some 20) (v := ?_) (a' := ?_) #[true, true, true, false, false, false, false] rfl rfl (by kernel_rfl) (fun _ _ _ h => h) (Or.inl ⟨by rfl, ?_⟩) ?_ ?_
   rotate_left
   ·intro w'
    go_simp
    with_reducible rfl
   rotate_left
   ·simp only [Act.put, List.setIfInBounds_toArray, List.set_cons_zero, List.set_cons_succ, i64_w, i32_w]
    rfl
   refine take_ (i := 3) (N := some 21) (v := ?_) (a' := ?_) #[true, true, true, true, false, false, false] rfl rfl (by kernel_rfl) (fun _ _ _ h => h) (Or.inl ⟨by rfl, ?_⟩) hHeld ?_ ?_
   rotate_left
   ·rintro w' ⟨s0, s1, s2, s3, s4, s5, s6, s7⟩
    go_simp
    with_reducible rfl
   rotate_left
   ·simp only [Act.put, List.setIfInBounds_toArray, List.set_cons_zero, List.set_cons_succ, i64_w, i32_w]
    rfl
   refine take_ (i := 4) (N := some 22) (v := ?_) (a' := ?_) #[true, true, true, true, true, false, false] rfl rfl (by kernel_rfl) (fun _ _ _ h => h) (Or.inl ⟨by rfl, ?_⟩) hHeld ?_ ?_
   rotate_left
   ·rintro w' ⟨s0, s1, s2, s3, s4, s5, s6, s7⟩
    go_simp
    with_reducible rfl
   rotate_left
   ·simp only [Act.put, List.setIfInBounds_toArray, List.set_cons_zero, List.set_cons_succ, i64_w, i32_w]
    rfl
   refine one_ (i := 5) (N := some 23) #[true, true, true, true, true, true, false] rfl rfl (by kernel_rfl) (by decide) (fun K hK => ?_)
   refine goes_ Tryz.func63 (by kernel_rfl) rfl #[.agg #[.int .i64 ((rd_T75 l0 a0).f0), .int .i64 ((rd_T75 l0 a0).f1), .int .i64 ((rd_T75 l0 a0).f2), .int .i64 ((rd_T75 l0 a0).f3)], .agg #[.int .i64 a4, .int .i64 a3, .int .i64 a6, .int .i64 a7]] (by rfl) rfl rfl (by (try simp only [List.map_toArray, List.map_cons, List.map_nil]); first | done | rfl | (simp only [List.length_drop, List.length_take]; rfl)) ?_
   with_reducible refine (scarfjointref18_compare.calls ((rd_T75 l0 a0).f0) ((rd_T75 l0 a0).f1) ((rd_T75 l0 a0).f2) ((rd_T75 l0 a0).f3) a4 a3 a6 a7 d1 _ A7.out).mono ?_
   rintro e D2 ⟨rfl, hb⟩
   refine ⟨_, rfl, ?_⟩
   replace HO_7 := kRb HO_7 hb
   replace a1 := bkb a1 hb
   replace HB := bstep HB hb
   clear hb
   refine hK.out _ _ ⟨bc a1 0, bc a1 1, bc a1 2, bc a1 3, (hxc HB h1), (hxc HB h0), (hxc HB g9), (hxc HB g8)⟩ (fun hHeld => ?_)
   clear hK K
   refine norm_ (a' := ?_) ?_ ?_
   rotate_left
   ·show Act.put _ (some 23) _ = _
    simp only [Act.put, List.setIfInBounds_toArray, List.set_cons_zero, List.set_cons_succ, i64_w, i32_w]
    rfl
   refine pure_ (i := 6) (N := some 10) (v := ?_) (a' := ?_) #[true, true, true, true, true, true, true] rfl rfl (by kernel_rfl) (fun _ _ _ h => h) (Or.inl ⟨by rfl, ?_⟩) ?_ ?_
   rotate_left
   ·intro w'
    go_simp
    with_reducible rfl
   rotate_left
   ·simp only [Act.put, List.setIfInBounds_toArray, List.set_cons_zero, List.set_cons_succ, i64_w, i32_w]
    rfl
   refine done_ (by kernel_rfl) ?_
   go_upto_region 7 with (fail)
   go_cut [29] (fun D3 wc => ∃ (kq : Nat) (g6 : Bool), D3 = .bool g6 ∧ Aside0 (scarfjointref18_change.j1 kq l0 a2 d5 e6 a0 d1 g6 a4 a3 a6 a7 = some r) ∧ Aside0 (kq ≤ k1) ∧ Aside0 (Kd.R k75 75 wc w.heap.size (fun k_ => k_ ≠ a8) u7 d5) ∧ Aside0 (wc.heap[a8]? = some (.cells #[.int .i64 a4, .int .i64 a3, .int .i64 a6, .int .i64 a7] 75 (0, 0))) ∧ Aside0 (Below w.heap.size w wc))
   case first =>
    have H := m3.out
    clear m3
    by_cases h4 : d1 > 0
    rotate_left
    ·rw [if_neg h4] at H
     have g2 : decide (0 < d1) = false := decide_eq_false h4
     clear h4
     (first | rw [g2] | (simp only [i64_w, i32_w]; rw [g2]) | skip)
     have H' := Aside0.mk H
     clear H
     go_wp2
     go_meet
     case rel => exact ⟨_, (false), eqs, H', ⟨by have := e1.out; first | omega | exact Nat.le_refl _⟩, ⟨kR HO_7⟩, ⟨bk a1⟩, ⟨bb HB⟩⟩
    rw [if_pos h4] at H
    have g2 : decide (0 < d1) = true := decide_eq_true h4
    clear h4
    (first | rw [g2] | (simp only [i64_w, i32_w]; rw [g2]) | skip)
    have H' := Aside0.mk H
    clear H
    go_wp2
    go_meet
    case rel => exact ⟨_, (!e6), eqs, H', ⟨by have := e1.out; first | omega | exact Nat.le_refl _⟩, ⟨kR HO_7⟩, ⟨bk a1⟩, ⟨bb HB⟩⟩
   case rest =>
    clear m3
    clear m2
    clear p2
    clear d9
    clear d8
    clear d7
    clear d6
    clear h6
    clear h5
    obtain ⟨kq, g6, rfl, HA, e5, HO_7, a1, HB⟩ := hcut
    cases kq with
    | zero => exact absurd HA.out (by simp [scarfjointref18_change.j1])
    | succ o1 =>
     have H := HA.out
     clear HA
     simp only [scarfjointref18_change.j1] at H
     have h9 := Aside0.mk H
     clear H
     go_upto_if 29 with (fail)
     go_cut [7, 8] (fun v7 v8 wc => ∃ (kq : Nat) (d2 : List (S75)) (e4 : Bool), v8 = .bool e4 ∧ Aside0 (scarfjointref18_change.j2 kq l0 a2 d2 e4 a0 d1 a4 a3 a6 a7 = some r) ∧ Aside0 (kq ≤ o1) ∧ Aside0 (Kd.R k75 75 wc w.heap.size (fun k_ => k_ ≠ a8) v7 d2) ∧ Aside0 (wc.heap[a8]? = some (.cells #[.int .i64 a4, .int .i64 a3, .int .i64 a6, .int .i64 a7] 75 (0, 0))) ∧ Aside0 (Below w.heap.size w wc))
     case first =>
      have H := h9.out
      clear h9
      by_cases j6 : g6 = true
      rotate_left
      ·replace j6 := Bool.eq_false_iff.mpr j6
       subst j6
       replace H := iff_ H
       have H' := Aside0.mk H
       clear H
       go_wp2
       go_meet
       case rel => exact ⟨_, (d5), (e6), eqs, H', ⟨by have := e1.out; have := e5.out; first | omega | exact Nat.le_refl _⟩, ⟨kR HO_7⟩, ⟨bk a1⟩, ⟨bb HB⟩⟩
      subst j6
      replace H := ift H
      obtain ⟨o9, H⟩ := itn H
      have n5 := Aside0.mk o9
      clear o9
      obtain ⟨m1, g0⟩ : ∃ y_ : List (S75), y_ = (d5 ++ [(⟨a4, a3, a6, a2⟩ : S75)]) := ⟨_, rfl⟩
      replace H : (scarfjointref18_change.j2 o1 l0 a2 m1 true a0 d1 a4 a3 a6 a7) = some r := by first | (rw [g0]; with_reducible exact H) | (have H2_ := (Option.bind_some _ _).symm.trans H; rw [g0]; with_reducible exact H2_) | (have H2_ := (Option.bind_some _ _).symm.trans H; with_reducible exact H2_) | with_reducible exact H | (rw [g0]; exact H) | exact H
      have n0 := Aside0.mk g0
      clear g0
      have H' := Aside0.mk H
      clear H
      obtain ⟨C1, C0, A9, A8, t6, t5, t4, t3⟩ := cz4 a1
      go_wp2_with ((with_reducible refine gate_builtin (b := .append) (xs := #[.tmp 30, .tmp 39]) rfl ?_); at_builtin; refine Kd.R_append k75 (w0 := w) w.heap.size rfl (.tmp 30) (.tmp 39) 44 75 (.agg #[(.int .i64 0), (.int .i64 0), (.int .i64 0), (.int .i64 0)]) 32 rfl Tryz.underlying44 info75 rfl (by decide) (by omega) u7 d5 (⟨a4, a3, a6, a2⟩ : S75) [.int .i64 a4, .int .i64 a3, .int .i64 a6, .int .i64 a2] (fun k_ => k_ ≠ a8) (fun _ => False) rfl rfl ?aP (fun _ hk => hk.elim) ?aF ?aO ?aB ?aS ?aL ?_; (case aP => exact k75_mkM _ _ _ (⟨a4, a3, a6, a2⟩ : S75)); (case aB => exact (bb HB)); (case aF => exact (fun k_ hk => Kd.freshB (g := a8) (o := .cells #[.int .i64 a4, .int .i64 a3, .int .i64 a6, .int .i64 a7] 75 (0, 0)) (bk a1) k_ hk)); (case aO => exact (kR HO_7)); (case aS => exact (below_size (bb HB))); (case aL => have := n5.out; omega); intro G7 D1 ho hb hg hat; rw [← n0.out] at ho; replace a1 := Aside0.mk (blk_grown (g := a8) (o := .cells #[.int .i64 a4, .int .i64 a3, .int .i64 a6, .int .i64 a7] 75 (0, 0)) (bk a1) hg (Kd.R_away HO_7.out (fun _ hk => hk))); replace HB := Aside0.mk (hb); have n8 := Aside0.mk (ho); clear HO_7 ho hb hg hat)
      go_meet
      case rel => exact ⟨_, (m1), (true), eqs, H', ⟨by have := e1.out; have := e5.out; first | omega | exact Nat.le_refl _⟩, ⟨kR n8⟩, ⟨bk a1⟩, ⟨bb HB⟩⟩
     case rest =>
      clear h9
      obtain ⟨kq, d2, e4, rfl, HA, e3, HO_7, a1, HB⟩ := hcut
      cases kq with
      | zero => exact absurd HA.out (by simp [scarfjointref18_change.j2])
      | succ g4 =>
       have H := HA.out
       clear HA
       simp only [scarfjointref18_change.j2] at H
       obtain ⟨o8, H⟩ := itn H
       have G3 := decide_eq_true o8
       clear o8
       obtain ⟨o7, H⟩ := itn H
       have G2 := decide_eq_true o7
       clear o7
       by_cases g7 : d1 = 0
       rotate_left
       ·rw [if_neg g7] at H
        have m7 := beq_eq_false_iff_ne.mpr g7
        have m6 := bne_iff_ne.mpr g7
        by_cases h2 : ((rd_T75 l0 a0).f3) > 0
        rotate_left
        ·rw [if_neg h2] at H
         have m4 : decide (0 < ((rd_T75 l0 a0).f3)) = false := decide_eq_false h2
         clear h2
         have H' := Aside0.mk H
         clear H
         have c7 : 0 ≤ a0 := odt
         have c2 : a0 < (l0.length : Int) := odt
         obtain ⟨e0, e7, b7, b6, b5, b4⟩ := at_T75 h8.out a0 c7 c2
         obtain rfl : c8 = e0 := (by injection e7)
         replace b7 := hxc HB b7
         replace b6 := hxc HB b6
         replace b5 := hxc HB b5
         replace b4 := hxc HB b4
         replace c7 := eq_true c7
         replace c2 := eq_true c2
         go_wp2_with ((with_reducible refine gate_dst (N := 11) rfl ?_); refine be 11 #[.int .i64 0, .int .i64 0, .int .i64 0, .int .i64 0] 75 ?_; intro a5 hg H2 hbox hb; replace HO_7 := Aside0.mk (Kd.R_below (Kd.R_elderB (kR HO_7) a5 (Nat.le_of_eq hg.symm)) hb); have c1 := Aside0.mk (hbox); have h7 := bsz HB hg; replace HB := bstep HB hb; have b9 := blt a1 hg; have b8 := bgt a1 hg; replace a1 := bkb a1 hb; clear hb hbox hg; have F6 := b8.out; have F0 := b9.out; obtain ⟨x1, w8, w7, w3, q4, q3, q2, q1⟩ := cz4 c1)
         go_roundg g4
         case measure => have := e1.out; have := e5.out; have := e3.out; omega
         case rel => exact ⟨(d2), (e4), (wrap64 (a0 + 1)), eqs, eqs, H', ⟨by have := e1.out; have := e5.out; have := e3.out; omega⟩, ⟨by (with_reducible repeat (first | apply Kd.R_alloc | apply Kd.R_drewN | apply Kd.R_drew)); exact Kd.R_mono (Kd.R_far (p := ⟨a5, 3, none⟩) (Kd.R_far (p := ⟨a5, 2, none⟩) (Kd.R_far (p := ⟨a5, 1, none⟩) (Kd.R_far (p := ⟨a5, 0, none⟩) (Kd.R_mono HO_7.out (fun k_ hk => (⟨hk, hk.2⟩ : _ ∧ k_ ≠ a5))) (fun _ hk => hk.2) (.int .i64 ((rd_T75 l0 a0).f0))) (fun _ hk => hk.2) (.int .i64 ((rd_T75 l0 a0).f1))) (fun _ hk => hk.2) (.int .i64 ((rd_T75 l0 a0).f2))) (fun _ hk => hk.2) (.int .i64 ((rd_T75 l0 a0).f3))) (fun _ hk => hk.1.1)⟩, ⟨bkF a1⟩, ⟨bb HB⟩⟩
        rw [if_pos h2] at H
        have m4 : decide (0 < ((rd_T75 l0 a0).f3)) = true := decide_eq_true h2
        clear h2
        obtain ⟨o5, H⟩ := itn H
        have n3 := Aside0.mk o5
        clear o5
        obtain ⟨j9, e8⟩ : ∃ y_ : List (S75), y_ = (d2 ++ [(⟨(rd_T75 l0 a0).f0, (rd_T75 l0 a0).f1, (rd_T75 l0 a0).f2, (rd_T75 l0 a0).f3⟩ : S75)]) := ⟨_, rfl⟩
        replace H : (scarfjointref18_change.l0 g4 l0 a2 j9 e4 (wrap64 (a0 + 1)) a4 a3 a6 a7) = some r := by first | (rw [e8]; with_reducible exact H) | (have H2_ := (Option.bind_some _ _).symm.trans H; rw [e8]; with_reducible exact H2_) | (have H2_ := (Option.bind_some _ _).symm.trans H; with_reducible exact H2_) | with_reducible exact H | (rw [e8]; exact H) | exact H
        have m8 := Aside0.mk e8
        clear e8
        have H' := Aside0.mk H
        clear H
        have c7 : 0 ≤ a0 := odt
        have c2 : a0 < (l0.length : Int) := odt
        obtain ⟨e0, e7, b7, b6, b5, b4⟩ := at_T75 h8.out a0 c7 c2
        obtain rfl : c8 = e0 := (by injection e7)
        replace b7 := hxc HB b7
        replace b6 := hxc HB b6
        replace b5 := hxc HB b5
        replace b4 := hxc HB b4
        replace c7 := eq_true c7
        replace c2 := eq_true c2
        go_wp2_with (first | ((with_reducible refine gate_dst (N := 11) rfl ?_); refine be 11 #[.int .i64 0, .int .i64 0, .int .i64 0, .int .i64 0] 75 ?_; intro a5 hg H4 hbox hb; replace HO_7 := Aside0.mk (Kd.R_below (Kd.R_elderB (kR HO_7) a5 (Nat.le_of_eq hg.symm)) hb); have c1 := Aside0.mk (hbox); have h7 := bsz HB hg; replace HB := bstep HB hb; have b9 := blt a1 hg; have b8 := bgt a1 hg; replace a1 := bkb a1 hb; clear hb hbox hg; have F7 := b8.out; have F1 := b9.out; obtain ⟨x6, x5, x4, x3, q8, q7, q6, q5⟩ := cz4 c1) | ((with_reducible refine gate_builtin (b := .append) (xs := #[.tmp 55, .tmp 57]) rfl ?_); at_builtin; refine Kd.R_append k75 (w0 := w) w.heap.size rfl (.tmp 55) (.tmp 57) 44 75 (.agg #[(.int .i64 0), (.int .i64 0), (.int .i64 0), (.int .i64 0)]) 32 rfl Tryz.underlying44 info75 rfl (by decide) (by omega) u7 d2 (⟨(rd_T75 l0 a0).f0, (rd_T75 l0 a0).f1, (rd_T75 l0 a0).f2, (rd_T75 l0 a0).f3⟩ : S75) [.int .i64 ((rd_T75 l0 a0).f0), .int .i64 ((rd_T75 l0 a0).f1), .int .i64 ((rd_T75 l0 a0).f2), .int .i64 ((rd_T75 l0 a0).f3)] (fun k_ => k_ ≠ a8 ∧ k_ ≠ a5) (fun _ => False) rfl (by first | (go_simp; done) | (go_simp; rfl)) ?aP (fun _ hk => hk.elim) ?aF ?aO ?aB ?aS ?aL ?_; (case aP => exact k75_mkM _ _ _ (⟨(rd_T75 l0 a0).f0, (rd_T75 l0 a0).f1, (rd_T75 l0 a0).f2, (rd_T75 l0 a0).f3⟩ : S75)); (case aB => exact (bb HB)); (case aF => exact (fun k_ hk => ⟨Kd.freshB (g := a8) (o := .cells #[.int .i64 a4, .int .i64 a3, .int .i64 a6, .int .i64 a7] 75 (0, 0)) (bkF a1) k_ hk, Kd.freshB (g := a5) (o := .cells #[.int .i64 ((rd_T75 l0 a0).f0), .int .i64 ((rd_T75 l0 a0).f1), .int .i64 ((rd_T75 l0 a0).f2), .int .i64 ((rd_T75 l0 a0).f3)] 75 (0, 0)) (by (with_reducible repeat (first | refine dN ?_ _ | refine dR ?_ | refine dA ?_ _)); refine blk_put (cs := #[.int .i64 ((rd_T75 l0 a0).f0), .int .i64 ((rd_T75 l0 a0).f1), .int .i64 ((rd_T75 l0 a0).f2), .int .i64 0]) ?_ 3 _ rfl; refine blk_put (cs := #[.int .i64 ((rd_T75 l0 a0).f0), .int .i64 ((rd_T75 l0 a0).f1), .int .i64 0, .int .i64 0]) ?_ 2 _ rfl; refine blk_put (cs := #[.int .i64 ((rd_T75 l0 a0).f0), .int .i64 0, .int .i64 0, .int .i64 0]) ?_ 1 _ rfl; refine blk_put (cs := #[.int .i64 0, .int .i64 0, .int .i64 0, .int .i64 0]) ?_ 0 _ rfl; (with_reducible repeat (first | refine dN ?_ _ | refine dR ?_ | refine dA ?_ _)); exact c1.out) k_ hk⟩)); (case aO => exact (by (with_reducible repeat (first | apply Kd.R_alloc | apply Kd.R_drewN | apply Kd.R_drew)); exact Kd.R_mono (Kd.R_far (p := ⟨a5, 3, none⟩) (Kd.R_far (p := ⟨a5, 2, none⟩) (Kd.R_far (p := ⟨a5, 1, none⟩) (Kd.R_far (p := ⟨a5, 0, none⟩) (Kd.R_mono HO_7.out (fun k_ hk => (⟨hk, hk.2⟩ : _ ∧ k_ ≠ a5))) (fun _ hk => hk.2) (.int .i64 ((rd_T75 l0 a0).f0))) (fun _ hk => hk.2) (.int .i64 ((rd_T75 l0 a0).f1))) (fun _ hk => hk.2) (.int .i64 ((rd_T75 l0 a0).f2))) (fun _ hk => hk.2) (.int .i64 ((rd_T75 l0 a0).f3))) (fun _ hk => ⟨hk.1.1, hk.1.2⟩))); (case aS => exact (below_size (bb HB))); (case aL => have := n3.out; omega); intro G5 H3 ho hb hg hat; rw [← m8.out] at ho; replace a1 := Aside0.mk (blk_grown (g := a8) (o := .cells #[.int .i64 a4, .int .i64 a3, .int .i64 a6, .int .i64 a7] 75 (0, 0)) (bkF a1) hg (Kd.R_away HO_7.out (fun _ hk => hk.1))); replace c1 := Aside0.mk (blk_grown (g := a5) (o := .cells #[.int .i64 ((rd_T75 l0 a0).f0), .int .i64 ((rd_T75 l0 a0).f1), .int .i64 ((rd_T75 l0 a0).f2), .int .i64 ((rd_T75 l0 a0).f3)] 75 (0, 0)) (by (with_reducible repeat (first | refine dN ?_ _ | refine dR ?_ | refine dA ?_ _)); refine blk_put (cs := #[.int .i64 ((rd_T75 l0 a0).f0), .int .i64 ((rd_T75 l0 a0).f1), .int .i64 ((rd_T75 l0 a0).f2), .int .i64 0]) ?_ 3 _ rfl; refine blk_put (cs := #[.int .i64 ((rd_T75 l0 a0).f0), .int .i64 ((rd_T75 l0 a0).f1), .int .i64 0, .int .i64 0]) ?_ 2 _ rfl; refine blk_put (cs := #[.int .i64 ((rd_T75 l0 a0).f0), .int .i64 0, .int .i64 0, .int .i64 0]) ?_ 1 _ rfl; refine blk_put (cs := #[.int .i64 0, .int .i64 0, .int .i64 0, .int .i64 0]) ?_ 0 _ rfl; (with_reducible repeat (first | refine dN ?_ _ | refine dR ?_ | refine dA ?_ _)); exact c1.out) hg (Kd.R_away HO_7.out (fun _ hk => hk.2))); replace HB := Aside0.mk (hb); have n6 := Aside0.mk (ho); clear HO_7 ho hb hg hat))
        go_roundg g4
        case measure => have := e1.out; have := e5.out; have := e3.out; omega
        case rel => exact ⟨(j9), (e4), (wrap64 (a0 + 1)), eqs, eqs, H', ⟨by have := e1.out; have := e5.out; have := e3.out; omega⟩, ⟨by (with_reducible repeat (first | apply Kd.R_alloc | apply Kd.R_drewN | apply Kd.R_drew)); exact Kd.R_mono n6.out (fun _ hk => hk.1)⟩, ⟨bk a1⟩, ⟨bb HB⟩⟩
       rw [if_pos g7] at H
       have m7 := beq_iff_eq.mpr g7
       have m6 := bne_eq_false_iff_eq.mpr g7
       clear g7
       by_cases h3 : (wrap64 (((rd_T75 l0 a0).f3) + a2)) > 0
       rotate_left
       ·rw [if_neg h3] at H
        have m5 : decide (0 < (wrap64 (((rd_T75 l0 a0).f3) + a2))) = false := decide_eq_false h3
        clear h3
        have H' := Aside0.mk H
        clear H
        have c7 : 0 ≤ a0 := odt
        have c2 : a0 < (l0.length : Int) := odt
        obtain ⟨e0, e7, b7, b6, b5, b4⟩ := at_T75 h8.out a0 c7 c2
        obtain rfl : c8 = e0 := (by injection e7)
        replace b7 := hxc HB b7
        replace b6 := hxc HB b6
        replace b5 := hxc HB b5
        replace b4 := hxc HB b4
        replace c7 := eq_true c7
        replace c2 := eq_true c2
        go_wp2_with ((with_reducible refine gate_dst (N := 11) rfl ?_); refine be 11 #[.int .i64 0, .int .i64 0, .int .i64 0, .int .i64 0] 75 ?_; intro a5 hg H5 hbox hb; replace HO_7 := Aside0.mk (Kd.R_below (Kd.R_elderB (kR HO_7) a5 (Nat.le_of_eq hg.symm)) hb); have c1 := Aside0.mk (hbox); have h7 := bsz HB hg; replace HB := bstep HB hb; have b9 := blt a1 hg; have b8 := bgt a1 hg; replace a1 := bkb a1 hb; clear hb hbox hg; have F8 := b8.out; have F2 := b9.out; obtain ⟨y3, y2, y1, y0, r2, r1, r0, q9⟩ := cz4 c1)
        go_roundg g4
        case measure => have := e1.out; have := e5.out; have := e3.out; omega
        case rel => exact ⟨(d2), (true), (wrap64 (a0 + 1)), eqs, eqs, H', ⟨by have := e1.out; have := e5.out; have := e3.out; omega⟩, ⟨by (with_reducible repeat (first | apply Kd.R_alloc | apply Kd.R_drewN | apply Kd.R_drew)); exact Kd.R_mono (Kd.R_far (p := ⟨a5, 3, none⟩) (Kd.R_far (p := ⟨a5, 3, none⟩) (Kd.R_far (p := ⟨a5, 2, none⟩) (Kd.R_far (p := ⟨a5, 1, none⟩) (Kd.R_far (p := ⟨a5, 0, none⟩) (Kd.R_mono HO_7.out (fun k_ hk => (⟨hk, hk.2⟩ : _ ∧ k_ ≠ a5))) (fun _ hk => hk.2) (.int .i64 ((rd_T75 l0 a0).f0))) (fun _ hk => hk.2) (.int .i64 ((rd_T75 l0 a0).f1))) (fun _ hk => hk.2) (.int .i64 ((rd_T75 l0 a0).f2))) (fun _ hk => hk.2) (.int .i64 ((rd_T75 l0 a0).f3))) (fun _ hk => hk.2) (.int .i64 (wrap64 (((rd_T75 l0 a0).f3) + a2)))) (fun _ hk => hk.1.1)⟩, ⟨bkF a1⟩, ⟨bb HB⟩⟩
       rw [if_pos h3] at H
       have m5 : decide (0 < (wrap64 (((rd_T75 l0 a0).f3) + a2))) = true := decide_eq_true h3
       clear h3
       obtain ⟨o6, H⟩ := itn H
       have n4 := Aside0.mk o6
       clear o6
       obtain ⟨m0, e9⟩ : ∃ y_ : List (S75), y_ = (d2 ++ [(⟨(rd_T75 l0 a0).f0, (rd_T75 l0 a0).f1, (rd_T75 l0 a0).f2, wrap64 (((rd_T75 l0 a0).f3) + a2)⟩ : S75)]) := ⟨_, rfl⟩
       replace H : (scarfjointref18_change.l0 g4 l0 a2 m0 true (wrap64 (a0 + 1)) a4 a3 a6 a7) = some r := by first | (rw [e9]; with_reducible exact H) | (have H2_ := (Option.bind_some _ _).symm.trans H; rw [e9]; with_reducible exact H2_) | (have H2_ := (Option.bind_some _ _).symm.trans H; with_reducible exact H2_) | with_reducible exact H | (rw [e9]; exact H) | exact H
       have m9 := Aside0.mk e9
       clear e9
       have H' := Aside0.mk H
       clear H
       have c7 : 0 ≤ a0 := odt
       have c2 : a0 < (l0.length : Int) := odt
       obtain ⟨e0, e7, b7, b6, b5, b4⟩ := at_T75 h8.out a0 c7 c2
       obtain rfl : c8 = e0 := (by injection e7)
       replace b7 := hxc HB b7
       replace b6 := hxc HB b6
       replace b5 := hxc HB b5
       replace b4 := hxc HB b4
       replace c7 := eq_true c7
       replace c2 := eq_true c2
       go_wp2_with (first | ((with_reducible refine gate_dst (N := 11) rfl ?_); refine be 11 #[.int .i64 0, .int .i64 0, .int .i64 0, .int .i64 0] 75 ?_; intro a5 hg H7 hbox hb; replace HO_7 := Aside0.mk (Kd.R_below (Kd.R_elderB (kR HO_7) a5 (Nat.le_of_eq hg.symm)) hb); have c1 := Aside0.mk (hbox); have h7 := bsz HB hg; replace HB := bstep HB hb; have b9 := blt a1 hg; have b8 := bgt a1 hg; replace a1 := bkb a1 hb; clear hb hbox hg; have F9 := b8.out; have F3 := b9.out; obtain ⟨y7, y6, y5, y4, r6, r5, r4, r3⟩ := cz4 c1) | ((with_reducible refine gate_builtin (b := .append) (xs := #[.tmp 55, .tmp 57]) rfl ?_); at_builtin; refine Kd.R_append k75 (w0 := w) w.heap.size rfl (.tmp 55) (.tmp 57) 44 75 (.agg #[(.int .i64 0), (.int .i64 0), (.int .i64 0), (.int .i64 0)]) 32 rfl Tryz.underlying44 info75 rfl (by decide) (by omega) u7 d2 (⟨(rd_T75 l0 a0).f0, (rd_T75 l0 a0).f1, (rd_T75 l0 a0).f2, wrap64 (((rd_T75 l0 a0).f3) + a2)⟩ : S75) [.int .i64 ((rd_T75 l0 a0).f0), .int .i64 ((rd_T75 l0 a0).f1), .int .i64 ((rd_T75 l0 a0).f2), .int .i64 (wrap64 (((rd_T75 l0 a0).f3) + a2))] (fun k_ => k_ ≠ a8 ∧ k_ ≠ a5) (fun _ => False) rfl (by first | (go_simp; done) | (go_simp; rfl)) ?aP (fun _ hk => hk.elim) ?aF ?aO ?aB ?aS ?aL ?_; (case aP => exact k75_mkM _ _ _ (⟨(rd_T75 l0 a0).f0, (rd_T75 l0 a0).f1, (rd_T75 l0 a0).f2, wrap64 (((rd_T75 l0 a0).f3) + a2)⟩ : S75)); (case aB => exact (bb HB)); (case aF => exact (fun k_ hk => ⟨Kd.freshB (g := a8) (o := .cells #[.int .i64 a4, .int .i64 a3, .int .i64 a6, .int .i64 a7] 75 (0, 0)) (bkF a1) k_ hk, Kd.freshB (g := a5) (o := .cells #[.int .i64 ((rd_T75 l0 a0).f0), .int .i64 ((rd_T75 l0 a0).f1), .int .i64 ((rd_T75 l0 a0).f2), .int .i64 (wrap64 (((rd_T75 l0 a0).f3) + a2))] 75 (0, 0)) (by (with_reducible repeat (first | refine dN ?_ _ | refine dR ?_ | refine dA ?_ _)); refine blk_put (cs := #[.int .i64 ((rd_T75 l0 a0).f0), .int .i64 ((rd_T75 l0 a0).f1), .int .i64 ((rd_T75 l0 a0).f2), .int .i64 ((rd_T75 l0 a0).f3)]) ?_ 3 _ rfl; refine blk_put (cs := #[.int .i64 ((rd_T75 l0 a0).f0), .int .i64 ((rd_T75 l0 a0).f1), .int .i64 ((rd_T75 l0 a0).f2), .int .i64 0]) ?_ 3 _ rfl; refine blk_put (cs := #[.int .i64 ((rd_T75 l0 a0).f0), .int .i64 ((rd_T75 l0 a0).f1), .int .i64 0, .int .i64 0]) ?_ 2 _ rfl; refine blk_put (cs := #[.int .i64 ((rd_T75 l0 a0).f0), .int .i64 0, .int .i64 0, .int .i64 0]) ?_ 1 _ rfl; refine blk_put (cs := #[.int .i64 0, .int .i64 0, .int .i64 0, .int .i64 0]) ?_ 0 _ rfl; (with_reducible repeat (first | refine dN ?_ _ | refine dR ?_ | refine dA ?_ _)); exact c1.out) k_ hk⟩)); (case aO => exact (by (with_reducible repeat (first | apply Kd.R_alloc | apply Kd.R_drewN | apply Kd.R_drew)); exact Kd.R_mono (Kd.R_far (p := ⟨a5, 3, none⟩) (Kd.R_far (p := ⟨a5, 3, none⟩) (Kd.R_far (p := ⟨a5, 2, none⟩) (Kd.R_far (p := ⟨a5, 1, none⟩) (Kd.R_far (p := ⟨a5, 0, none⟩) (Kd.R_mono HO_7.out (fun k_ hk => (⟨hk, hk.2⟩ : _ ∧ k_ ≠ a5))) (fun _ hk => hk.2) (.int .i64 ((rd_T75 l0 a0).f0))) (fun _ hk => hk.2) (.int .i64 ((rd_T75 l0 a0).f1))) (fun _ hk => hk.2) (.int .i64 ((rd_T75 l0 a0).f2))) (fun _ hk => hk.2) (.int .i64 ((rd_T75 l0 a0).f3))) (fun _ hk => hk.2) (.int .i64 (wrap64 (((rd_T75 l0 a0).f3) + a2)))) (fun _ hk => ⟨hk.1.1, hk.1.2⟩))); (case aS => exact (below_size (bb HB))); (case aL => have := n4.out; omega); intro G6 H6 ho hb hg hat; rw [← m9.out] at ho; replace a1 := Aside0.mk (blk_grown (g := a8) (o := .cells #[.int .i64 a4, .int .i64 a3, .int .i64 a6, .int .i64 a7] 75 (0, 0)) (bkF a1) hg (Kd.R_away HO_7.out (fun _ hk => hk.1))); replace c1 := Aside0.mk (blk_grown (g := a5) (o := .cells #[.int .i64 ((rd_T75 l0 a0).f0), .int .i64 ((rd_T75 l0 a0).f1), .int .i64 ((rd_T75 l0 a0).f2), .int .i64 (wrap64 (((rd_T75 l0 a0).f3) + a2))] 75 (0, 0)) (by (with_reducible repeat (first | refine dN ?_ _ | refine dR ?_ | refine dA ?_ _)); refine blk_put (cs := #[.int .i64 ((rd_T75 l0 a0).f0), .int .i64 ((rd_T75 l0 a0).f1), .int .i64 ((rd_T75 l0 a0).f2), .int .i64 ((rd_T75 l0 a0).f3)]) ?_ 3 _ rfl; refine blk_put (cs := #[.int .i64 ((rd_T75 l0 a0).f0), .int .i64 ((rd_T75 l0 a0).f1), .int .i64 ((rd_T75 l0 a0).f2), .int .i64 0]) ?_ 3 _ rfl; refine blk_put (cs := #[.int .i64 ((rd_T75 l0 a0).f0), .int .i64 ((rd_T75 l0 a0).f1), .int .i64 0, .int .i64 0]) ?_ 2 _ rfl; refine blk_put (cs := #[.int .i64 ((rd_T75 l0 a0).f0), .int .i64 0, .int .i64 0, .int .i64 0]) ?_ 1 _ rfl; refine blk_put (cs := #[.int .i64 0, .int .i64 0, .int .i64 0, .int .i64 0]) ?_ 0 _ rfl; (with_reducible repeat (first | refine dN ?_ _ | refine dR ?_ | refine dA ?_ _)); exact c1.out) hg (Kd.R_away HO_7.out (fun _ hk => hk.2))); replace HB := Aside0.mk (hb); have n7 := Aside0.mk (ho); clear HO_7 ho hb hg hat))
       go_roundg g4
       case measure => have := e1.out; have := e5.out; have := e3.out; omega
       case rel => exact ⟨(m0), (true), (wrap64 (a0 + 1)), eqs, eqs, H', ⟨by have := e1.out; have := e5.out; have := e3.out; omega⟩, ⟨by (with_reducible repeat (first | apply Kd.R_alloc | apply Kd.R_drewN | apply Kd.R_drew)); exact Kd.R_mono n7.out (fun _ hk => hk.1)⟩, ⟨bk a1⟩, ⟨bb HB⟩⟩
end Go.Proofs.YtfpianecohobjaaGreat.P
