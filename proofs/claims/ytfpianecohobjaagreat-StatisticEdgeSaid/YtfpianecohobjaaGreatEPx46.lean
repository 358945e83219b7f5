/- StatisticOf: a part of its proof. No condition. -/
import Derived.Test.YtfpianecohobjaaGreatEPx0
namespace Go.Proofs.YtfpianecohobjaaGreat.P
open Go.RowKit Go.Proofs.YtfpianecohobjaaGreatW.PrintWords Go.Proofs.YtfpianecohobjaaGreatW.PrintLast Go.Proofs.YtfpianecohobjaaGreatW.PrintMore
set_option maxHeartbeats 8000000
set_option maxRecDepth 100000
set_option linter.unusedVariables false
set_option linter.unusedSimpArgs false
def scarfjointref18_compare.f (d6 : Int) (d5 : Int) (e9 : Int) (h3 : Int) (a4 : Int) (a3 : Int) (a6 : Int) (a7 : Int) : Option (Int) := if d6 = a4 then (if d5 = a3 then (some (wrap64 (e9 - a6))) else (some (wrap64 (d5 - a3)))) else (some (wrap64 (d6 - a4)))
theorem scarfjointref18_compare.calls (d6 : Int) (d5 : Int) (e9 : Int) (h3 : Int) (a4 : Int) (a3 : Int) (a6 : Int) (a7 : Int) (r : Int) (w : World) (h : scarfjointref18_compare.f d6 d5 e9 h3 a4 a3 a6 a7 = some r) :
  Calls Tryz.prog 63 #[.agg #[.int .i64 d6, .int .i64 d5, .int .i64 e9, .int .i64 h3], .agg #[.int .i64 a4, .int .i64 a3, .int .i64 a6, .int .i64 a7]] w fun e w' => e = .returned (.int .i64 r) ∧ Below w.heap.size w w' := by
 have hu75 := Tryz.underlying75
 have HB := Aside0.mk (Below.refl w.heap.size w)
 have H : (if d6 = a4 then (if d5 = a3 then (some (wrap64 (e9 - a6))) else (some (wrap64 (d5 - a3)))) else (some (wrap64 (d6 - a4)))) = some r := h
 clear h
 by_cases c3 : d6 = a4
 rw [if_pos c3] at H
 have p2 := beq_iff_eq.mpr c3
 have p1 := bne_eq_false_iff_eq.mpr c3
 clear c3
 by_cases c4 : d5 = a3
 rw [if_pos c4] at H
 have p0 := beq_iff_eq.mpr c4
 have o9 := bne_eq_false_iff_eq.mpr c4
 clear c4
 obtain rfl := Option.some.inj H
 rotate_left
 rw [if_neg c4] at H
 have p0 := beq_eq_false_iff_ne.mpr c4
 have o9 := bne_iff_ne.mpr c4
 obtain rfl := Option.some.inj H
 rotate_left
 rw [if_neg c3] at H
 have p2 := beq_eq_false_iff_ne.mpr c3
 have p1 := bne_iff_ne.mpr c3
 obtain rfl := Option.some.inj H
 all_goals
  go_enter Tryz.func63, Tryz.ntmps63
  go_wp2_with (first | ((with_reducible refine gate_dst (N := 2) rfl ?_); refine be 2 #[.int .i64 d6, .int .i64 d5, .int .i64 e9, .int .i64 h3] 75 ?_; intro A1 hg x6 hbox hb; have e8 := Aside0.mk (hbox); have A6 := bsz HB hg; replace HB := bstep HB hb; clear hb hbox hg) | ((with_reducible refine gate_dst (N := 3) rfl ?_); refine be 3 #[.int .i64 a4, .int .i64 a3, .int .i64 a6, .int .i64 a7] 75 ?_; intro y9 hg C9 hbox hb; have n5 := Aside0.mk (hbox); have A5 := bsz HB hg; replace HB := bstep HB hb; have h5 := blt e8 hg; have h4 := bgt e8 hg; replace e8 := bkb e8 hb; clear hb hbox hg; have y8 := h5.out; have y4 := h4.out; obtain ⟨x4, x3, x1, w8, s8, r9, r8, r7⟩ := cz4 e8; obtain ⟨w7, w6, w5, w3, r6, r5, r4, r3⟩ := cz4 n5))
  go_ret
  exact ⟨erf, bb HB⟩
theorem cell_twice (w : World) (a : Addr) (x y : Value) (h : (w.cell? a).isSome = true) : ((w.setCell a x).setCell a y).cell? a = some y :=
 World.cell?_setCell_same' _ _ _ (by rw [World.cell?_setCell_same' _ _ _ h]; rfl)
attribute [local go_sem] cell_twice
mutual
def scarfjointref18_change.l0 : Nat → List (S75) → Int → List (S75) → Bool → Int → Int → Int → Int → Int → Option ((List (S75)))
 | 0, _, _, _, _, _, _, _, _, _ => none
 | k + 1, x0, x2, x7, x8, x9, b1, b0, a9, b2 => if x9 < (x0.length : Int) then (if 0 ≤ x9 then ((scarfjointref18_compare.f ((rd_T75 x0 x9).f0) ((rd_T75 x0 x9).f1) ((rd_T75 x0 x9).f2) ((rd_T75 x0 x9).f3) b1 b0 a9 b2).bind fun c7 => (if c7 > 0 then (scarfjointref18_change.j1 k x0 x2 x7 x8 x9 c7 (!x8) b1 b0 a9 b2) else (scarfjointref18_change.j1 k x0 x2 x7 x8 x9 c7 false b1 b0 a9 b2))) else (none)) else (if x8 = true then (some x7) else (if x7.length < 4398046511104 then (some (x7 ++ [(⟨b1, b0, a9, x2⟩ : S75)])) else (none)))
def scarfjointref18_change.j1 : Nat → List (S75) → Int → List (S75) → Bool → Int → Int → Bool → Int → Int → Int → Int → Option ((List (S75)))
 | 0, _, _, _, _, _, _, _, _, _, _, _ => none
 | k + 1, x0, x2, x7, x8, x9, h7, x5, b1, b0, a9, b2 => if x5 = true then (if x7.length < 4398046511104 then (scarfjointref18_change.j2 k x0 x2 (x7 ++ [(⟨b1, b0, a9, x2⟩ : S75)]) true x9 h7 b1 b0 a9 b2) else (none)) else (scarfjointref18_change.j2 k x0 x2 x7 x8 x9 h7 b1 b0 a9 b2)
def scarfjointref18_change.j2 : Nat → List (S75) → Int → List (S75) → Bool → Int → Int → Int → Int → Int → Int → Option ((List (S75)))
 | 0, _, _, _, _, _, _, _, _, _, _ => none
 | k + 1, x0, x2, x7, x8, x9, h7, b1, b0, a9, b2 => if 0 ≤ x9 then (if x9 < (x0.length : Int) then (if h7 = 0 then (if (wrap64 (((rd_T75 x0 x9).f3) + x2)) > 0 then (if x7.length < 4398046511104 then (scarfjointref18_change.l0 k x0 x2 (x7 ++ [(⟨(rd_T75 x0 x9).f0, (rd_T75 x0 x9).f1, (rd_T75 x0 x9).f2, wrap64 (((rd_T75 x0 x9).f3) + x2)⟩ : S75)]) true (wrap64 (x9 + 1)) b1 b0 a9 b2) else (none)) else (scarfjointref18_change.l0 k x0 x2 x7 true (wrap64 (x9 + 1)) b1 b0 a9 b2)) else (if ((rd_T75 x0 x9).f3) > 0 then (if x7.length < 4398046511104 then (scarfjointref18_change.l0 k x0 x2 (x7 ++ [(⟨(rd_T75 x0 x9).f0, (rd_T75 x0 x9).f1, (rd_T75 x0 x9).f2, (rd_T75 x0 x9).f3⟩ : S75)]) x8 (wrap64 (x9 + 1)) b1 b0 a9 b2) else (none)) else (scarfjointref18_change.l0 k x0 x2 x7 x8 (wrap64 (x9 + 1)) b1 b0 a9 b2))) else (none)) else (none)
end
def scarfjointref18_change.f (k : Nat) (l0 : List (S75)) (a4 : Int) (a3 : Int) (a6 : Int) (a7 : Int) (a2 : Int) : Option ((List (S75))) := scarfjointref18_change.l0 k l0 a2 ([] : List (S75)) false 0 a4 a3 a6 a7
theorem scarfjointref18_change.calls (k : Nat) (A0 : Option Addr) (c0 : Nat) (l0 : List (S75)) (a4 : Int) (a3 : Int) (a6 : Int) (a7 : Int) (a2 : Int) (r : List (S75)) (w : World) (n8 : Kd.C k75 w A0 l0.length l0) (n9 : l0.length ≤ c0) (h : scarfjointref18_change.f k l0 a4 a3 a6 a7 a2 = some r) :
  Calls Tryz.prog 56 #[.slice A0 l0.length c0, .agg #[.int .i64 a4, .int .i64 a3, .int .i64 a6, .int .i64 a7], .int .i64 a2] w fun e w' => ∃ n6 : Value, e = .returned (n6) ∧ Kd.R k75 75 w' w.heap.size (fun _ => True) n6 r ∧ Below w.heap.size w w' := by
 have hu75 := Tryz.underlying75
 have j0 := Aside0.mk n8
 have D0 := Aside0.mk n9
 clear n8 n9
 have HB := Aside0.mk (Below.refl w.heap.size w)
 have H : (scarfjointref18_change.l0 k l0 a2 ([] : List (S75)) false 0 a4 a3 a6 a7) = some r := h
 clear h
 have H' := Aside0.mk H
 clear H
 go_enter Tryz.func56, Tryz.ntmps56
 go_wp2_with ((with_reducible refine gate_dst (N := 4) rfl ?_); refine be 4 #[.int .i64 a4, .int .i64 a3, .int .i64 a6, .int .i64 a7] 75 ?_; intro a8 hg w4 hbox hb; have a1 := Aside0.mk (hbox); have A4 := bsz HB hg; replace HB := bstep HB hb; clear hb hbox hg)
 go_loopg [7, 8, 9] k (fun kq v7 v8 v9 w' => ∃ (d0 : List (S75)) (d9 : Bool) (a0 : Int), v8 = .bool d9 ∧ v9 = .int .i64 a0 ∧ Aside0 (scarfjointref18_change.l0 kq l0 a2 d0 d9 a0 a4 a3 a6 a7 = some r) ∧ Aside0 (kq ≤ k) ∧ Aside0 (Kd.R k75 75 w' w.heap.size (fun k_ => k_ ≠ a8) v7 d0) ∧ Aside0 (w'.heap[a8]? = some (.cells #[.int .i64 a4, .int .i64 a3, .int .i64 a6, .int .i64 a7] 75 (0, 0))) ∧ Aside0 (Below w.heap.size w w'))
 case atStart => exact ⟨(([] : List (S75))), (false), (0), eqs, eqs, H', ⟨Nat.le_refl _⟩, ⟨by first | exact Kd.R_nil _ _ _ _ _ | exact Kd.N_nil _ _ _ _ _ | exact Kd.V_nil _ _ _ _ _ | exact Kd.Q_nil _ _ _ _ _ | exact Kd.S_nil _ _ _ _ _⟩, ⟨bk a1⟩, ⟨bb HB⟩⟩
 case round =>
  clear H'
  obtain ⟨d0, d9, a0, rfl, rfl, HA, d7, HO_7, a1, HB⟩ := hrel
  cases gk with
  | zero => exact absurd HA.out (by simp [scarfjointref18_change.l0])
  | succ k1 =>
   have H := HA.out
   clear HA
   simp only [scarfjointref18_change.l0] at H
   by_cases c5 : a0 < (l0.length : Int)
   rotate_left
   ·rw [if_neg c5] at H
    have j7 := decide_eq_false c5
    clear c5
    by_cases h8 : d9 = true
    ·subst h8
     replace H := ift H
     obtain rfl := Option.some.inj H
     go_wp2
     go_ret
     exact ⟨_, erf, by (with_reducible repeat (first | apply Kd.R_alloc | apply Kd.R_drewN | apply Kd.R_drew)); exact Kd.R_mono HO_7.out (fun _ hk => trivial), bb HB⟩
    replace h8 := Bool.eq_false_iff.mpr h8
    subst h8
    replace H := iff_ H
    obtain ⟨o0, H⟩ := itn H
    have m7 := Aside0.mk o0
    clear o0
    obtain ⟨o6, e4⟩ : ∃ y_ : List (S75), y_ = (d0 ++ [(⟨a4, a3, a6, a2⟩ : S75)]) := ⟨_, rfl⟩
    replace H : (some o6) = some r := by first | (rw [e4]; with_reducible exact H) | (have H2_ := (Option.bind_some _ _).symm.trans H; rw [e4]; with_reducible exact H2_) | (have H2_ := (Option.bind_some _ _).symm.trans H; with_reducible exact H2_) | with_reducible exact H | (rw [e4]; exact H) | exact H
    have m6 := Aside0.mk e4
    clear e4
    obtain rfl := Option.some.inj H
    obtain ⟨t2, t1, t0, s9, p6, p5, p4, p3⟩ := cz4 a1
    go_wp2_with ((with_reducible refine gate_builtin (b := .append) (xs := #[.tmp 61, .tmp 70]) rfl ?_); at_builtin; refine Kd.R_append k75 (w0 := w) w.heap.size rfl (.tmp 61) (.tmp 70) 44 75 (.agg #[(.int .i64 0), (.int .i64 0), (.int .i64 0), (.int .i64 0)]) 32 rfl Tryz.underlying44 info75 rfl (by decide) (by omega) u7 d0 (⟨a4, a3, a6, a2⟩ : S75) [.int .i64 a4, .int .i64 a3, .int .i64 a6, .int .i64 a2] (fun k_ => k_ ≠ a8) (fun _ => False) rfl rfl ?aP (fun _ hk => hk.elim) ?aF ?aO ?aB ?aS ?aL ?_; (case aP => exact k75_mkM _ _ _ (⟨a4, a3, a6, a2⟩ : S75)); (case aB => exact (bb HB)); (case aF => exact (fun k_ hk => Kd.freshB (g := a8) (o := .cells #[.int .i64 a4, .int .i64 a3, .int .i64 a6, .int .i64 a7] 75 (0, 0)) (bk a1) k_ hk)); (case aO => exact (kR HO_7)); (case aS => exact (below_size (bb HB))); (case aL => have := m7.out; omega); intro C1 C2 ho hb hg hat; rw [← m6.out] at ho; replace a1 := Aside0.mk (blk_grown (g := a8) (o := .cells #[.int .i64 a4, .int .i64 a3, .int .i64 a6, .int .i64 a7] 75 (0, 0)) (bk a1) hg (Kd.R_away HO_7.out (fun _ hk => hk))); replace HB := Aside0.mk (hb); have n4 := Aside0.mk (ho); clear HO_7 ho hb hg hat)
    go_ret
    exact ⟨_, erf, by (with_reducible repeat (first | apply Kd.R_alloc | apply Kd.R_drewN | apply Kd.R_drew)); exact Kd.R_mono n4.out (fun _ hk => trivial), bb HB⟩
   rw [if_pos c5] at H
   have j7 := decide_eq_true c5
   clear c5
   obtain ⟨c6, H⟩ := itn H
   have o8 := decide_eq_true c6
   clear c6
   obtain ⟨c7, A7, H⟩ := obA H
   have j8 := Aside0.mk H
   clear H
   try go_wp2
   replace HO_7 := Aside0.mk (Kd.R_drew HO_7.out)
   replace a1 := Aside0.mk (blk_drew a1.out)
   replace HB := Aside0.mk (below_drew1 HB.out)
   have h2 : 0 ≤ a0 := odt
   have h1 : a0 < (l0.length : Int) := odt
   obtain ⟨b8, o7, d4, d3, d2, d1⟩ := at_T75 j0.out a0 h2 h1
   have g4 := d1
   have g5 := d2
   have g6 := d3
   have g7 := d4
   cases o7
   replace d4 := hxc HB d4
   replace d3 := hxc HB d3
   replace d2 := hxc HB d2
   replace d1 := hxc HB d1
   replace h2 := eq_true h2
   replace h1 := eq_true h1
   refine start_ (n := 7) (S := fun w' => w'.cell? ⟨a8, 0, none⟩ = some (.int .i64 a4) ∧ w'.cell? ⟨a8, 1, none⟩ = some (.int .i64 a3) ∧ w'.cell? ⟨a8, 2, none⟩ = some (.int .i64 a6) ∧ w'.cell? ⟨a8, 3, none⟩ = some (.int .i64 a7) ∧ w'.cell? (b8.add ((a0).toNat * 4)) = some (.int .i64 ((rd_T75 l0 a0).f0)) ∧ w'.cell? ⟨(b8.add ((a0).toNat * 4)).block, (b8.add ((a0).toNat * 4)).off + 1, none⟩ = some (.int .i64 ((rd_T75 l0 a0).f1)) ∧ w'.cell? ⟨(b8.add ((a0).toNat * 4)).block, (b8.add ((a0).toNat * 4)).off + 2, none⟩ = some (.int .i64 ((rd_T75 l0 a0).f2)) ∧ w'.cell? ⟨(b8.add ((a0).toNat * 4)).block, (b8.add ((a0).toNat * 4)).off + 3, none⟩ = some (.int .i64 ((rd_T75 l0 a0).f3))) (ds := []) #[false, false, false, false, false, false, false] (by kernel_rfl) rfl rfl ⟨bc a1 0, bc a1 1, bc a1 2, bc a1 3, (hxc HB g7), (hxc HB g6), (hxc HB g5), (hxc HB g4)⟩ (fun hHeld => ?_)
   generalize wr.drew = w9 at HO_7 a1 HB d4 d3 d2 d1 hHeld ⊢
   refine pure_ (i := 0) (N := some 18) (v := ?_) (a' := ?_) #[true, false, false, false, false, false, false] rfl rfl (by kernel_rfl) (fun _ _ _ h => h) (Or.inl ⟨by rfl, ?_⟩) ?_ ?_
   rotate_left
   ·intro w'
    go_simp
    with_reducible rfl
   rotate_left
   ·simp only [Act.put, List.setIfInBounds_toArray, List.set_cons_zero, List.set_cons_succ, i64_w, i32_w]
    rfl
   refine pure_ (i := 1) (N := some 19) (v := ?_) (a' := ?_) #[true, true, false, false, false, false, false] rfl rfl (by kernel_rfl) (fun _ _ _ h => h) (Or.inl ⟨by rfl, ?_⟩) ?_ ?_
   rotate_left
   ·intro w'
    go_simp
    with_reducible rfl
   rotate_left
   ·simp only [Act.put, List.setIfInBounds_toArray, List.set_cons_zero, List.set_cons_succ, i64_w, i32_w]
    rfl
   refine pure_ (i := 2) (N := some 20) (v := ?_) (a' := ?_) #[true, true, true, false, false, false, false] rfl rfl (by kernel_rfl) (fun _ _ _ h => h) (Or.inl ⟨by rfl, ?_⟩) ?_ ?_
   rotate_left
   ·intro w'
    go_simp
    with_reducible rfl
   rotate_left
   ·simp only [Act.put, List.setIfInBounds_toArray, List.set_cons_zero, List.set_cons_succ, i64_w, i32_w]
    rfl
   refine take_ (i := 3) (N := some 21) (v := ?_) (a' := ?_) #[true, true, true, true, false, false, false] rfl rfl (by kernel_rfl) (fun _ _ _ h => h) (Or.inl ⟨by rfl, ?_⟩) hHeld ?_ ?_
   rotate_left
   ·rintro w' ⟨s0, s1, s2, s3, s4, s5, s6, s7⟩
    go_simp
    with_reducible rfl
   rotate_left
   ·simp only [Act.put, List.setIfInBounds_toArray, List.set_cons_zero, List.set_cons_succ, i64_w, i32_w]
    rfl
   refine take_ (i := 4) (N := some 22) (v := ?_) (a' := ?_) #[true, true, true, true, true, false, false] rfl rfl (by kernel_rfl) (fun _ _ _ h => h) (Or.inl ⟨by rfl, ?_⟩) hHeld ?_ ?_
   rotate_left
   ·rintro w' ⟨s0, s1, s2, s3, s4, s5, s6, s7⟩
    go_simp
    with_reducible rfl
   rotate_left
   ·simp only [Act.put, List.setIfInBounds_toArray, List.set_cons_zero, List.set_cons_succ, i64_w, i32_w]
    rfl
   refine one_ (i := 5) (N := some 23) #[true, true, true, true, true, true, false] rfl rfl (by kernel_rfl) (by decide) (fun K hK => ?_)
   refine goes_ Tryz.func63 (by kernel_rfl) rfl #[.agg #[.int .i64 ((rd_T75 l0 a0).f0), .int .i64 ((rd_T75 l0 a0).f1), .int .i64 ((rd_T75 l0 a0).f2), .int .i64 ((rd_T75 l0 a0).f3)], .agg #[.int .i64 a4, .int .i64 a3, .int .i64 a6, .int .i64 a7]] (by rfl) rfl rfl (by (try simp only [List.map_toArray, List.map_cons, List.map_nil]); first | done | rfl | (simp only [List.length_drop, List.length_take]; rfl)) ?_
   with_reducible refine (scarfjointref18_compare.calls _ _ _ _ _ _ _ _ _ _ A7.out).mono ?_
   rintro e x6 ⟨rfl, hb⟩
   refine ⟨_, rfl, ?_⟩
   replace HO_7 := kRb HO_7 hb
   replace a1 := bkb a1 hb
   replace HB := bstep HB hb
   clear hb
   refine hK.out _ _ ⟨bc a1 0, bc a1 1, bc a1 2, bc a1 3, (hxc HB g7), (hxc HB g6), (hxc HB g5), (hxc HB g4)⟩ (fun hHeld => ?_)
   clear hK K
   refine norm_ (a' := ?_) ?_ ?_
   rotate_left
   ·show Act.put _ (some 23) _ = _
    simp only [Act.put, List.setIfInBounds_toArray, List.set_cons_zero, List.set_cons_succ, i64_w, i32_w]
    rfl
   refine pure_ (i := 6) (N := some 10) (v := ?_) (a' := ?_) #[true, true, true, true, true, true, true] rfl rfl (by kernel_rfl) (fun _ _ _ h => h) (Or.inl ⟨by rfl, ?_⟩) ?_ ?_
   rotate_left
   ·intro w'
    go_simp
    with_reducible rfl
   rotate_left
   ·simp only [Act.put, List.setIfInBounds_toArray, List.set_cons_zero, List.set_cons_succ, i64_w, i32_w]
    rfl
   refine done_ (by kernel_rfl) ?_
   go_upto_region 7 with (fail)
   go_cut [29] (fun y0 wc => ∃ (kq : Nat) (g0 : Bool), y0 = .bool g0 ∧ Aside0 (scarfjointref18_change.j1 kq l0 a2 d0 d9 a0 c7 g0 a4 a3 a6 a7 = some r) ∧ Aside0 (kq ≤ k1) ∧ Aside0 (Kd.R k75 75 wc w.heap.size (fun k_ => k_ ≠ a8) u7 d0) ∧ Aside0 (wc.heap[a8]? = some (.cells #[.int .i64 a4, .int .i64 a3, .int .i64 a6, .int .i64 a7] 75 (0, 0))) ∧ Aside0 (Below w.heap.size w wc))
   case first =>
    have H := j8.out
    clear j8
    by_cases h0 : c7 > 0
    rotate_left
    ·rw [if_neg h0] at H
     have e5 : decide (0 < c7) = false := decide_eq_false h0
     clear h0
     (first | rw [e5] | (simp only [i64_w, i32_w]; rw [e5]) | skip)
     have H' := Aside0.mk H
     clear H
     go_wp2
     go_meet
     case rel => exact ⟨_, (false), eqs, H', ⟨by have := d7.out; first | omega | exact Nat.le_refl _⟩, ⟨kR HO_7⟩, ⟨bk a1⟩, ⟨bb HB⟩⟩
    rw [if_pos h0] at H
    have e5 : decide (0 < c7) = true := decide_eq_true h0
    clear h0
    (first | rw [e5] | (simp only [i64_w, i32_w]; rw [e5]) | skip)
    have H' := Aside0.mk H
    clear H
    go_wp2
    go_meet
    case rel => exact ⟨_, (!d9), eqs, H', ⟨by have := d7.out; first | omega | exact Nat.le_refl _⟩, ⟨kR HO_7⟩, ⟨bk a1⟩, ⟨bb HB⟩⟩
   case rest =>
    clear j8 j7 o8 d4 d3 d2 d1 h2 h1
    obtain ⟨kq, g0, rfl, HA, e7, HO_7, a1, HB⟩ := hcut
    cases kq with
    | zero => exact absurd HA.out (by simp [scarfjointref18_change.j1])
    | succ n7 =>
     have H := HA.out
     clear HA
     simp only [scarfjointref18_change.j1] at H
     have h6 := Aside0.mk H
     clear H
     go_upto_if 29 with (fail)
     go_cut [7, 8] (fun v7 v8 wc => ∃ (kq : Nat) (c2 : List (S75)) (d8 : Bool), v8 = .bool d8 ∧ Aside0 (scarfjointref18_change.j2 kq l0 a2 c2 d8 a0 c7 a4 a3 a6 a7 = some r) ∧ Aside0 (kq ≤ n7) ∧ Aside0 (Kd.R k75 75 wc w.heap.size (fun k_ => k_ ≠ a8) v7 c2) ∧ Aside0 (wc.heap[a8]? = some (.cells #[.int .i64 a4, .int .i64 a3, .int .i64 a6, .int .i64 a7] 75 (0, 0))) ∧ Aside0 (Below w.heap.size w wc))
     case first =>
      have H := h6.out
      clear h6
      by_cases h9 : g0 = true
      rotate_left
      ·replace h9 := Bool.eq_false_iff.mpr h9
       subst h9
       replace H := iff_ H
       have H' := Aside0.mk H
       clear H
       go_wp2
       go_meet
       case rel => exact ⟨_, (d0), (d9), eqs, H', ⟨by have := d7.out; have := e7.out; first | omega | exact Nat.le_refl _⟩, ⟨kR HO_7⟩, ⟨bk a1⟩, ⟨bb HB⟩⟩
      subst h9
      replace H := ift H
      obtain ⟨o5, H⟩ := itn H
      have n0 := Aside0.mk o5
      clear o5
      obtain ⟨j6, e3⟩ : ∃ y_ : List (S75), y_ = (d0 ++ [(⟨a4, a3, a6, a2⟩ : S75)]) := ⟨_, rfl⟩
      replace H : (scarfjointref18_change.j2 n7 l0 a2 j6 true a0 c7 a4 a3 a6 a7) = some r := by first | (rw [e3]; with_reducible exact H) | (have H2_ := (Option.bind_some _ _).symm.trans H; rw [e3]; with_reducible exact H2_) | (have H2_ := (Option.bind_some _ _).symm.trans H; with_reducible exact H2_) | with_reducible exact H | (rw [e3]; exact H) | exact H
      have m5 := Aside0.mk e3
      clear e3
      have H' := Aside0.mk H
      clear H
      obtain ⟨w2, w1, v6, v5, r2, r1, r0, q9⟩ := cz4 a1
      go_wp2_with ((with_reducible refine gate_builtin (b := .append) (xs := #[.tmp 30, .tmp 39]) rfl ?_); at_builtin; refine Kd.R_append k75 (w0 := w) w.heap.size rfl (.tmp 30) (.tmp 39) 44 75 (.agg #[(.int .i64 0), (.int .i64 0), (.int .i64 0), (.int .i64 0)]) 32 rfl Tryz.underlying44 info75 rfl (by decide) (by omega) u7 d0 (⟨a4, a3, a6, a2⟩ : S75) [.int .i64 a4, .int .i64 a3, .int .i64 a6, .int .i64 a2] (fun k_ => k_ ≠ a8) (fun _ => False) rfl rfl ?aP (fun _ hk => hk.elim) ?aF ?aO ?aB ?aS ?aL ?_; (case aP => exact k75_mkM _ _ _ (⟨a4, a3, a6, a2⟩ : S75)); (case aB => exact (bb HB)); (case aF => exact (fun k_ hk => Kd.freshB (g := a8) (o := .cells #[.int .i64 a4, .int .i64 a3, .int .i64 a6, .int .i64 a7] 75 (0, 0)) (bk a1) k_ hk)); (case aO => exact (kR HO_7)); (case aS => exact (below_size (bb HB))); (case aL => have := n0.out; omega); intro C0 C8 ho hb hg hat; rw [← m5.out] at ho; replace a1 := Aside0.mk (blk_grown (g := a8) (o := .cells #[.int .i64 a4, .int .i64 a3, .int .i64 a6, .int .i64 a7] 75 (0, 0)) (bk a1) hg (Kd.R_away HO_7.out (fun _ hk => hk))); replace HB := Aside0.mk (hb); have n3 := Aside0.mk (ho); clear HO_7 ho hb hg hat)
      go_meet
      case rel => exact ⟨_, (j6), (true), eqs, H', ⟨by have := d7.out; have := e7.out; first | omega | exact Nat.le_refl _⟩, ⟨kR n3⟩, ⟨bk a1⟩, ⟨bb HB⟩⟩
     case rest =>
      clear h6
      obtain ⟨kq, c2, d8, rfl, HA, e0, HO_7, a1, HB⟩ := hcut
      cases kq with
      | zero => exact absurd HA.out (by simp [scarfjointref18_change.j2])
      | succ g1 =>
       have H := HA.out
       clear HA
       simp only [scarfjointref18_change.j2] at H
       obtain ⟨o4, H⟩ := itn H
       have A3 := decide_eq_true o4
       clear o4
       obtain ⟨o3, H⟩ := itn H
       have A2 := decide_eq_true o3
       clear o3
       by_cases g3 : c7 = 0
       rw [if_pos g3] at H
       have m2 := beq_iff_eq.mpr g3
       have m1 := bne_eq_false_iff_eq.mpr g3
       clear g3
       by_cases g9 : (wrap64 (((rd_T75 l0 a0).f3) + a2)) > 0
       ·rw [if_pos g9] at H
        have m0 : decide (0 < (wrap64 (((rd_T75 l0 a0).f3) + a2))) = true := decide_eq_true g9
        clear g9
        obtain ⟨o2, H⟩ := itn H
        have m9 := Aside0.mk o2
        clear o2
        obtain ⟨j5, e2⟩ : ∃ y_ : List (S75), y_ = (c2 ++ [(⟨(rd_T75 l0 a0).f0, (rd_T75 l0 a0).f1, (rd_T75 l0 a0).f2, wrap64 (((rd_T75 l0 a0).f3) + a2)⟩ : S75)]) := ⟨_, rfl⟩
        replace H : (scarfjointref18_change.l0 g1 l0 a2 j5 true (wrap64 (a0 + 1)) a4 a3 a6 a7) = some r := by first | (rw [e2]; with_reducible exact H) | (have H2_ := (Option.bind_some _ _).symm.trans H; rw [e2]; with_reducible exact H2_) | (have H2_ := (Option.bind_some _ _).symm.trans H; with_reducible exact H2_) | with_reducible exact H | (rw [e2]; exact H) | exact H
        have m4 := Aside0.mk e2
        clear e2
        have H' := Aside0.mk H
        clear H
        have c9 : 0 ≤ a0 := odt
        have c8 : a0 < (l0.length : Int) := odt
        obtain ⟨e6, g2, b6, b5, b4, b3⟩ := at_T75 j0.out a0 c9 c8
        obtain rfl : b8 = e6 := (by injection g2)
        replace b6 := hxc HB b6
        replace b5 := hxc HB b5
        replace b4 := hxc HB b4
        replace b3 := hxc HB b3
        replace c9 := eq_true c9
        replace c8 := eq_true c8
        go_wp2_with (first | ((with_reducible refine gate_dst (N := 11) rfl ?_); refine be 11 #[.int .i64 0, .int .i64 0, .int .i64 0, .int .i64 0] 75 ?_; intro a5 hg C7 hbox hb; replace HO_7 := Aside0.mk (Kd.R_below (Kd.R_elderB (kR HO_7) a5 (Nat.le_of_eq hg.symm)) hb); have b7 := Aside0.mk (hbox); have j3 := bsz HB hg; replace HB := bstep HB hb; have c1 := blt a1 hg; have b9 := bgt a1 hg; replace a1 := bkb a1 hb; clear hb hbox hg; have y7 := b9.out; have y3 := c1.out; obtain ⟨v4, v3, v2, v1, q8, q7, q6, q5⟩ := cz4 b7) | ((with_reducible refine gate_builtin (b := .append) (xs := #[.tmp 55, .tmp 57]) rfl ?_); at_builtin; refine Kd.R_append k75 (w0 := w) w.heap.size rfl (.tmp 55) (.tmp 57) 44 75 (.agg #[(.int .i64 0), (.int .i64 0), (.int .i64 0), (.int .i64 0)]) 32 rfl Tryz.underlying44 info75 rfl (by decide) (by omega) u7 c2 (⟨(rd_T75 l0 a0).f0, (rd_T75 l0 a0).f1, (rd_T75 l0 a0).f2, wrap64 (((rd_T75 l0 a0).f3) + a2)⟩ : S75) [.int .i64 ((rd_T75 l0 a0).f0), .int .i64 ((rd_T75 l0 a0).f1), .int .i64 ((rd_T75 l0 a0).f2), .int .i64 (wrap64 (((rd_T75 l0 a0).f3) + a2))] (fun k_ => k_ ≠ a8 ∧ k_ ≠ a5) (fun _ => False) rfl (by first | (go_simp; done) | (go_simp; rfl)) ?aP (fun _ hk => hk.elim) ?aF ?aO ?aB ?aS ?aL ?_; (case aP => exact k75_mkM _ _ _ (⟨(rd_T75 l0 a0).f0, (rd_T75 l0 a0).f1, (rd_T75 l0 a0).f2, wrap64 (((rd_T75 l0 a0).f3) + a2)⟩ : S75)); (case aB => exact (bb HB)); (case aF => exact (fun k_ hk => ⟨Kd.freshB (g := a8) (o := .cells #[.int .i64 a4, .int .i64 a3, .int .i64 a6, .int .i64 a7] 75 (0, 0)) (bkF a1) k_ hk, Kd.freshB (g := a5) (o := .cells #[.int .i64 ((rd_T75 l0 a0).f0), .int .i64 ((rd_T75 l0 a0).f1), .int .i64 ((rd_T75 l0 a0).f2), .int .i64 (wrap64 (((rd_T75 l0 a0).f3) + a2))] 75 (0, 0)) (bkP b7) k_ hk⟩)); (case aO => exact (by (with_reducible repeat (first | apply Kd.R_alloc | apply Kd.R_drewN | apply Kd.R_drew)); exact Kd.R_mono (Kd.R_far (p := ⟨a5, 3, none⟩) (Kd.R_far (p := ⟨a5, 3, none⟩) (Kd.R_far (p := ⟨a5, 2, none⟩) (Kd.R_far (p := ⟨a5, 1, none⟩) (Kd.R_far (p := ⟨a5, 0, none⟩) (Kd.R_mono HO_7.out (fun k_ hk => (⟨hk, hk.2⟩ : _ ∧ k_ ≠ a5))) (fun _ hk => hk.2) (.int .i64 ((rd_T75 l0 a0).f0))) (fun _ hk => hk.2) (.int .i64 ((rd_T75 l0 a0).f1))) (fun _ hk => hk.2) (.int .i64 ((rd_T75 l0 a0).f2))) (fun _ hk => hk.2) (.int .i64 ((rd_T75 l0 a0).f3))) (fun _ hk => hk.2) (.int .i64 (wrap64 (((rd_T75 l0 a0).f3) + a2)))) (fun _ hk => ⟨hk.1.1, hk.1.2⟩))); (case aS => exact (below_size (bb HB))); (case aL => have := m9.out; omega); intro A9 C6 ho hb hg hat; rw [← m4.out] at ho; replace a1 := Aside0.mk (blk_grown (g := a8) (o := .cells #[.int .i64 a4, .int .i64 a3, .int .i64 a6, .int .i64 a7] 75 (0, 0)) (bkF a1) hg (Kd.R_away HO_7.out (fun _ hk => hk.1))); replace b7 := Aside0.mk (blk_grown (g := a5) (o := .cells #[.int .i64 ((rd_T75 l0 a0).f0), .int .i64 ((rd_T75 l0 a0).f1), .int .i64 ((rd_T75 l0 a0).f2), .int .i64 (wrap64 (((rd_T75 l0 a0).f3) + a2))] 75 (0, 0)) (bkP b7) hg (Kd.R_away HO_7.out (fun _ hk => hk.2))); replace HB := Aside0.mk (hb); have n2 := Aside0.mk (ho); clear HO_7 ho hb hg hat))
        go_roundg g1
        case measure => have := d7.out; have := e7.out; have := e0.out; omega
        case rel => exact ⟨(j5), (true), (wrap64 (a0 + 1)), eqs, eqs, H', ⟨by have := d7.out; have := e7.out; have := e0.out; omega⟩, ⟨by (with_reducible repeat (first | apply Kd.R_alloc | apply Kd.R_drewN | apply Kd.R_drew)); exact Kd.R_mono n2.out (fun _ hk => hk.1)⟩, ⟨bk a1⟩, ⟨bb HB⟩⟩
       rw [if_neg g9] at H
       have m0 : decide (0 < (wrap64 (((rd_T75 l0 a0).f3) + a2))) = false := decide_eq_false g9
       clear g9
       have H' := Aside0.mk H
       clear H
       rotate_left
       rw [if_neg g3] at H
       have m2 := beq_eq_false_iff_ne.mpr g3
       have m1 := bne_iff_ne.mpr g3
       by_cases g8 : ((rd_T75 l0 a0).f3) > 0
       ·rw [if_pos g8] at H
        have j9 : decide (0 < ((rd_T75 l0 a0).f3)) = true := decide_eq_true g8
        clear g8
        obtain ⟨o1, H⟩ := itn H
        have m8 := Aside0.mk o1
        clear o1
        obtain ⟨j4, e1⟩ : ∃ y_ : List (S75), y_ = (c2 ++ [(⟨(rd_T75 l0 a0).f0, (rd_T75 l0 a0).f1, (rd_T75 l0 a0).f2, (rd_T75 l0 a0).f3⟩ : S75)]) := ⟨_, rfl⟩
        replace H : (scarfjointref18_change.l0 g1 l0 a2 j4 d8 (wrap64 (a0 + 1)) a4 a3 a6 a7) = some r := by first | (rw [e1]; with_reducible exact H) | (have H2_ := (Option.bind_some _ _).symm.trans H; rw [e1]; with_reducible exact H2_) | (have H2_ := (Option.bind_some _ _).symm.trans H; with_reducible exact H2_) | with_reducible exact H | (rw [e1]; exact H) | exact H
        have m3 := Aside0.mk e1
        clear e1
        have H' := Aside0.mk H
        clear H
        have c9 : 0 ≤ a0 := odt
        have c8 : a0 < (l0.length : Int) := odt
        obtain ⟨e6, g2, b6, b5, b4, b3⟩ := at_T75 j0.out a0 c9 c8
        obtain rfl : b8 = e6 := (by injection g2)
        replace b6 := hxc HB b6
        replace b5 := hxc HB b5
        replace b4 := hxc HB b4
        replace b3 := hxc HB b3
        replace c9 := eq_true c9
        replace c8 := eq_true c8
        go_wp2_with (first | ((with_reducible refine gate_dst (N := 11) rfl ?_); refine be 11 #[.int .i64 0, .int .i64 0, .int .i64 0, .int .i64 0] 75 ?_; intro a5 hg C4 hbox hb; replace HO_7 := Aside0.mk (Kd.R_below (Kd.R_elderB (kR HO_7) a5 (Nat.le_of_eq hg.symm)) hb); have b7 := Aside0.mk (hbox); have j3 := bsz HB hg; replace HB := bstep HB hb; have c1 := blt a1 hg; have b9 := bgt a1 hg; replace a1 := bkb a1 hb; clear hb hbox hg; have y5 := b9.out; have y1 := c1.out; obtain ⟨t6, t5, t4, t3, q0, p9, p8, p7⟩ := cz4 b7) | ((with_reducible refine gate_builtin (b := .append) (xs := #[.tmp 55, .tmp 57]) rfl ?_); at_builtin; refine Kd.R_append k75 (w0 := w) w.heap.size rfl (.tmp 55) (.tmp 57) 44 75 (.agg #[(.int .i64 0), (.int .i64 0), (.int .i64 0), (.int .i64 0)]) 32 rfl Tryz.underlying44 info75 rfl (by decide) (by omega) u7 c2 (⟨(rd_T75 l0 a0).f0, (rd_T75 l0 a0).f1, (rd_T75 l0 a0).f2, (rd_T75 l0 a0).f3⟩ : S75) [.int .i64 ((rd_T75 l0 a0).f0), .int .i64 ((rd_T75 l0 a0).f1), .int .i64 ((rd_T75 l0 a0).f2), .int .i64 ((rd_T75 l0 a0).f3)] (fun k_ => k_ ≠ a8 ∧ k_ ≠ a5) (fun _ => False) rfl (by first | (go_simp; done) | (go_simp; rfl)) ?aP (fun _ hk => hk.elim) ?aF ?aO ?aB ?aS ?aL ?_; (case aP => exact k75_mkM _ _ _ (⟨(rd_T75 l0 a0).f0, (rd_T75 l0 a0).f1, (rd_T75 l0 a0).f2, (rd_T75 l0 a0).f3⟩ : S75)); (case aB => exact (bb HB)); (case aF => exact (fun k_ hk => ⟨Kd.freshB (g := a8) (o := .cells #[.int .i64 a4, .int .i64 a3, .int .i64 a6, .int .i64 a7] 75 (0, 0)) (bkF a1) k_ hk, Kd.freshB (g := a5) (o := .cells #[.int .i64 ((rd_T75 l0 a0).f0), .int .i64 ((rd_T75 l0 a0).f1), .int .i64 ((rd_T75 l0 a0).f2), .int .i64 ((rd_T75 l0 a0).f3)] 75 (0, 0)) (bkP b7) k_ hk⟩)); (case aO => exact (by (with_reducible repeat (first | apply Kd.R_alloc | apply Kd.R_drewN | apply Kd.R_drew)); exact Kd.R_mono (Kd.R_far (p := ⟨a5, 3, none⟩) (Kd.R_far (p := ⟨a5, 2, none⟩) (Kd.R_far (p := ⟨a5, 1, none⟩) (Kd.R_far (p := ⟨a5, 0, none⟩) (Kd.R_mono HO_7.out (fun k_ hk => (⟨hk, hk.2⟩ : _ ∧ k_ ≠ a5))) (fun _ hk => hk.2) (.int .i64 ((rd_T75 l0 a0).f0))) (fun _ hk => hk.2) (.int .i64 ((rd_T75 l0 a0).f1))) (fun _ hk => hk.2) (.int .i64 ((rd_T75 l0 a0).f2))) (fun _ hk => hk.2) (.int .i64 ((rd_T75 l0 a0).f3))) (fun _ hk => ⟨hk.1.1, hk.1.2⟩))); (case aS => exact (below_size (bb HB))); (case aL => have := m8.out; omega); intro A8 C3 ho hb hg hat; rw [← m3.out] at ho; replace a1 := Aside0.mk (blk_grown (g := a8) (o := .cells #[.int .i64 a4, .int .i64 a3, .int .i64 a6, .int .i64 a7] 75 (0, 0)) (bkF a1) hg (Kd.R_away HO_7.out (fun _ hk => hk.1))); replace b7 := Aside0.mk (blk_grown (g := a5) (o := .cells #[.int .i64 ((rd_T75 l0 a0).f0), .int .i64 ((rd_T75 l0 a0).f1), .int .i64 ((rd_T75 l0 a0).f2), .int .i64 ((rd_T75 l0 a0).f3)] 75 (0, 0)) (bkP b7) hg (Kd.R_away HO_7.out (fun _ hk => hk.2))); replace HB := Aside0.mk (hb); have n1 := Aside0.mk (ho); clear HO_7 ho hb hg hat))
        go_roundg g1
        case measure => have := d7.out; have := e7.out; have := e0.out; omega
        case rel => exact ⟨(j4), (d8), (wrap64 (a0 + 1)), eqs, eqs, H', ⟨by have := d7.out; have := e7.out; have := e0.out; omega⟩, ⟨by (with_reducible repeat (first | apply Kd.R_alloc | apply Kd.R_drewN | apply Kd.R_drew)); exact Kd.R_mono n1.out (fun _ hk => hk.1)⟩, ⟨bk a1⟩, ⟨bb HB⟩⟩
       rw [if_neg g8] at H
       have j9 : decide (0 < ((rd_T75 l0 a0).f3)) = false := decide_eq_false g8
       clear g8
       have H' := Aside0.mk H
       clear H
       all_goals
        have c9 : 0 ≤ a0 := odt
        have c8 : a0 < (l0.length : Int) := odt
        obtain ⟨e6, g2, b6, b5, b4, b3⟩ := at_T75 j0.out a0 c9 c8
        obtain rfl : b8 = e6 := (by injection g2)
        replace b6 := hxc HB b6
        replace b5 := hxc HB b5
        replace b4 := hxc HB b4
        replace b3 := hxc HB b3
        replace c9 := eq_true c9
        replace c8 := eq_true c8
        go_wp2_with ((with_reducible refine gate_dst (N := 11) rfl ?_); refine be 11 #[.int .i64 0, .int .i64 0, .int .i64 0, .int .i64 0] 75 ?_; intro a5 hg C5 hbox hb; replace HO_7 := Aside0.mk (Kd.R_below (Kd.R_elderB (kR HO_7) a5 (Nat.le_of_eq hg.symm)) hb); have b7 := Aside0.mk (hbox); have j3 := bsz HB hg; replace HB := bstep HB hb; have c1 := blt a1 hg; have b9 := bgt a1 hg; replace a1 := bkb a1 hb; clear hb hbox hg; have y6 := b9.out; have y2 := c1.out; obtain ⟨v0, t9, t8, t7, q4, q3, q2, q1⟩ := cz4 b7)
        go_roundg g1
        case measure => have := d7.out; have := e7.out; have := e0.out; omega
       ·case rel => exact ⟨(c2), (d8), (wrap64 (a0 + 1)), eqs, eqs, H', ⟨by have := d7.out; have := e7.out; have := e0.out; omega⟩, ⟨by (with_reducible repeat (first | apply Kd.R_alloc | apply Kd.R_drewN | apply Kd.R_drew)); exact Kd.R_mono (Kd.R_far (p := ⟨a5, 3, none⟩) (Kd.R_far (p := ⟨a5, 2, none⟩) (Kd.R_far (p := ⟨a5, 1, none⟩) (Kd.R_far (p := ⟨a5, 0, none⟩) (Kd.R_mono HO_7.out (fun k_ hk => (⟨hk, hk.2⟩ : _ ∧ k_ ≠ a5))) (fun _ hk => hk.2) (.int .i64 ((rd_T75 l0 a0).f0))) (fun _ hk => hk.2) (.int .i64 ((rd_T75 l0 a0).f1))) (fun _ hk => hk.2) (.int .i64 ((rd_T75 l0 a0).f2))) (fun _ hk => hk.2) (.int .i64 ((rd_T75 l0 a0).f3))) (fun _ hk => hk.1.1)⟩, ⟨bkF a1⟩, ⟨bb HB⟩⟩
       ·case rel => exact ⟨(c2), (true), (wrap64 (a0 + 1)), eqs, eqs, H', ⟨by have := d7.out; have := e7.out; have := e0.out; omega⟩, ⟨by (with_reducible repeat (first | apply Kd.R_alloc | apply Kd.R_drewN | apply Kd.R_drew)); exact Kd.R_mono (Kd.R_far (p := ⟨a5, 3, none⟩) (Kd.R_far (p := ⟨a5, 3, none⟩) (Kd.R_far (p := ⟨a5, 2, none⟩) (Kd.R_far (p := ⟨a5, 1, none⟩) (Kd.R_far (p := ⟨a5, 0, none⟩) (Kd.R_mono HO_7.out (fun k_ hk => (⟨hk, hk.2⟩ : _ ∧ k_ ≠ a5))) (fun _ hk => hk.2) (.int .i64 ((rd_T75 l0 a0).f0))) (fun _ hk => hk.2) (.int .i64 ((rd_T75 l0 a0).f1))) (fun _ hk => hk.2) (.int .i64 ((rd_T75 l0 a0).f2))) (fun _ hk => hk.2) (.int .i64 ((rd_T75 l0 a0).f3))) (fun _ hk => hk.2) (.int .i64 (wrap64 (((rd_T75 l0 a0).f3) + a2)))) (fun _ hk => hk.1.1)⟩, ⟨bkF a1⟩, ⟨bb HB⟩⟩
end Go.Proofs.YtfpianecohobjaaGreat.P
