/- StatisticOf: a part of its proof. No condition. -/
import Derived.Test.YtfpianecohobjaaGreatYPx0
import Derived.Test.YtfpianecohobjaaGreatYPx46
namespace Go.Proofs.YtfpianecohobjaaGreat.P
open Go.RowKit Go.Proofs.YtfpianecohobjaaGreatW.PrintWords Go.Proofs.YtfpianecohobjaaGreatW.PrintLast Go.Proofs.YtfpianecohobjaaGreatW.PrintMore
set_option linter.unusedVariables false
set_option linter.unusedSimpArgs false
def scarfjointref18_number.l0 : Nat → List (S75) → Int → Int → Int → Int → Int → Option (Int)
 | 0, _, _, _, _, _, _ => none
 | k + 1, x0, x5, c3, c2, c1, b9 => if x5 < (x0.length : Int) then (if 0 ≤ x5 then ((scarfjointref18_compare.f ((rd_T75 x0 x5).f0) ((rd_T75 x0 x5).f1) ((rd_T75 x0 x5).f2) ((rd_T75 x0 x5).f3) c3 c2 c1 b9).bind fun b8 => (if b8 = 0 then (some ((rd_T75 x0 x5).f3)) else (scarfjointref18_number.l0 k x0 (wrap64 (x5 + 1)) c3 c2 c1 b9))) else (none)) else (some 0)
def scarfjointref18_number.f (k : Nat) (l0 : List (S75)) (b0 : Int) (a9 : Int) (a8 : Int) (a7 : Int) : Option (Int) := scarfjointref18_number.l0 k l0 0 b0 a9 a8 a7
set_option maxHeartbeats 8000000 in
set_option maxRecDepth 100000 in
theorem scarfjointref18_number.calls (k : Nat) (A0 : Option Addr) (c0 : Nat) (l0 : List (S75)) (b0 : Int) (a9 : Int) (a8 : Int) (a7 : Int) (r : Int) (w : World) (d6 : Kd.C k75 w A0 l0.length l0) (d7 : l0.length ≤ c0) (h : scarfjointref18_number.f k l0 b0 a9 a8 a7 = some r) :
  Calls Tryz.prog 66 #[.slice A0 l0.length c0, .agg #[.int .i64 b0, .int .i64 a9, .int .i64 a8, .int .i64 a7]] w fun e w' => e = .returned (.int .i64 r) ∧ Below w.heap.size w w' := by
 have hu75 := Tryz.underlying75
 have d4 := Aside0.mk d6
 have e7 := Aside0.mk d7
 clear d6 d7
 have HB := Aside0.mk (Below.refl w.heap.size w)
 have H : (scarfjointref18_number.l0 k l0 0 b0 a9 a8 a7) = some r := h
 clear h
 have H' := Aside0.mk H
 clear H
 go_enter Tryz.func66, Tryz.ntmps66
 go_wp2_with (first | ((with_reducible refine gate_dst (N := 3) rfl ?_); refine be 3 #[.int .i64 b0, .int .i64 a9, .int .i64 a8, .int .i64 a7] 75 ?_; intro b1 hg w3 hbox hb; have a1 := Aside0.mk (hbox); have e3 := bsz HB hg; replace HB := bstep HB hb; clear hb hbox hg))
 go_loopg [5] k (fun kq v5 w' => ∃ (a0 : Int), v5 = .int .i64 a0 ∧ Aside0 (scarfjointref18_number.l0 kq l0 a0 b0 a9 a8 a7 = some r) ∧ Aside0 (kq ≤ k) ∧ Aside0 (w'.heap[b1]? = some (.cells #[.int .i64 b0, .int .i64 a9, .int .i64 a8, .int .i64 a7] 75 (0, 0))) ∧ Aside0 (Below w.heap.size w w'))
 case atStart => exact ⟨(0), eqs, H', ⟨Nat.le_refl _⟩, ⟨bk a1⟩, ⟨bb HB⟩⟩
 case round =>
  clear H'
  try clear p2
  obtain ⟨a0, rfl, HA, d8, a1, HB⟩ := hrel
  cases gk with
  | zero => exact absurd HA.out (by simp [scarfjointref18_number.l0])
  | succ k1 =>
   have H := HA.out
   clear HA
   simp only [scarfjointref18_number.l0] at H
   by_cases c4 : a0 < (l0.length : Int)
   rotate_left
   ·rw [if_neg c4] at H
    have e2 := decide_eq_false c4
    clear c4
    obtain rfl := Option.some.inj H
    go_wp2
    go_ret
    exact ⟨erf, bb HB⟩
   rw [if_pos c4] at H
   have e2 := decide_eq_true c4
   clear c4
   obtain ⟨c5, H⟩ := itn H
   have e4 := decide_eq_true c5
   clear c5
   obtain ⟨b8, A6, H⟩ := obA H
   by_cases c7 : b8 = 0
   rotate_left
   ·rw [if_neg c7] at H
    have e1 := beq_eq_false_iff_ne.mpr c7
    have e0 := bne_iff_ne.mpr c7
    have H' := Aside0.mk H
    clear H
    try go_wp2
    replace a1 := Aside0.mk (blk_drew a1.out)
    replace HB := Aside0.mk (below_drew1 HB.out)
    have b7 : 0 ≤ a0 := odt
    have b6 : a0 < (l0.length : Int) := odt
    obtain ⟨a2, d3, a6, a5, a4, a3⟩ := at_T75 d4.out a0 b7 b6
    have b2 := a3
    have b3 := a4
    have b4 := a5
    have b5 := a6
    cases d3
    replace a6 := hxc HB a6
    replace a5 := hxc HB a5
    replace a4 := hxc HB a4
    replace a3 := hxc HB a3
    replace b7 := eq_true b7
    replace b6 := eq_true b6
    refine start_ (n := 7) (S := fun w' => w'.cell? ⟨b1, 0, none⟩ = some (.int .i64 b0) ∧ w'.cell? ⟨b1, 1, none⟩ = some (.int .i64 a9) ∧ w'.cell? ⟨b1, 2, none⟩ = some (.int .i64 a8) ∧ w'.cell? ⟨b1, 3, none⟩ = some (.int .i64 a7) ∧ w'.cell? (a2.add ((a0).toNat * 4)) = some (.int .i64 ((rd_T75 l0 a0).f0)) ∧ w'.cell? ⟨(a2.add ((a0).toNat * 4)).block, (a2.add ((a0).toNat * 4)).off + 1, none⟩ = some (.int .i64 ((rd_T75 l0 a0).f1)) ∧ w'.cell? ⟨(a2.add ((a0).toNat * 4)).block, (a2.add ((a0).toNat * 4)).off + 2, none⟩ = some (.int .i64 ((rd_T75 l0 a0).f2)) ∧ w'.cell? ⟨(a2.add ((a0).toNat * 4)).block, (a2.add ((a0).toNat * 4)).off + 3, none⟩ = some (.int .i64 ((rd_T75 l0 a0).f3))) (ds := []) #[false, false, false, false, false, false, false] (by kernel_rfl) rfl rfl ⟨bc a1 0, bc a1 1, bc a1 2, bc a1 3, (hxc HB b5), (hxc HB b4), (hxc HB b3), (hxc HB b2)⟩ (fun hHeld => ?_)
    generalize wr.drew = e6 at a1 HB a6 a5 a4 a3 hHeld ⊢
    refine pure_ (i := 0) (N := some 12) (v := ?_) (a' := ?_) #[true, false, false, false, false, false, false] rfl rfl (by kernel_rfl) (fun _ _ _ h => h) (Or.inl ⟨by rfl, ?_⟩) ?_ ?_
    rotate_left
    ·intro w'
     go_simp
     with_reducible rfl
    rotate_left
    ·simp only [Act.put, List.setIfInBounds_toArray, List.set_cons_zero, List.set_cons_succ, i64_w, i32_w]
     rfl
    refine pure_ (i := 1) (N := some 13) (v := ?_) (a' := ?_) #[true, true, false, false, false, false, false] rfl rfl (by kernel_rfl) (fun _ _ _ h => h) (Or.inl ⟨by rfl, ?_⟩) ?_ ?_
    rotate_left
    ·intro w'
     go_simp
     with_reducible rfl
    rotate_left
    ·simp only [Act.put, List.setIfInBounds_toArray, List.set_cons_zero, List.set_cons_succ, i64_w, i32_w]
     rfl
    refine pure_ (i := 2) (N := some 14) (v := ?_) (a' := ?_) #[true, true, true, false, false, false, false] rfl rfl (by kernel_rfl) (fun _ _ _ h => h) (Or.inl ⟨by rfl, ?_⟩) ?_ ?_
    rotate_left
    ·intro w'
     go_simp
     with_reducible rfl
    rotate_left
    ·simp only [Act.put, List.setIfInBounds_toArray, List.set_cons_zero, List.set_cons_succ, i64_w, i32_w]
     rfl
    refine take_ (i := 3) (N := some 15) (v := ?_) (a' := ?_) #[true, true, true, true, false, false, false] rfl rfl (by kernel_rfl) (fun _ _ _ h => h) (Or.inl ⟨by rfl, ?_⟩) hHeld ?_ ?_
    rotate_left
    ·rintro w' ⟨s0, s1, s2, s3, s4, s5, s6, s7⟩
     go_simp
     with_reducible rfl
    rotate_left
    ·simp only [Act.put, List.setIfInBounds_toArray, List.set_cons_zero, List.set_cons_succ, i64_w, i32_w]
     rfl
    refine take_ (i := 4) (N := some 16) (v := ?_) (a' := ?_) #[true, true, true, true, true, false, false] rfl rfl (by kernel_rfl) (fun _ _ _ h => h) (Or.inl ⟨by rfl, ?_⟩) hHeld ?_ ?_
    rotate_left
    ·rintro w' ⟨s0, s1, s2, s3, s4, s5, s6, s7⟩
     go_simp
     with_reducible rfl
    rotate_left
    ·simp only [Act.put, List.setIfInBounds_toArray, List.set_cons_zero, List.set_cons_succ, i64_w, i32_w]
     rfl
    refine one_ (i := 5) (N := some 17) #[true, true, true, true, true, true, false] rfl rfl (by kernel_rfl) (by decide) (fun K hK => ?_)
    refine goes_ Tryz.func63 (by kernel_rfl) rfl #[.agg #[.int .i64 ((rd_T75 l0 a0).f0), .int .i64 ((rd_T75 l0 a0).f1), .int .i64 ((rd_T75 l0 a0).f2), .int .i64 ((rd_T75 l0 a0).f3)], .agg #[.int .i64 b0, .int .i64 a9, .int .i64 a8, .int .i64 a7]] (by rfl) rfl rfl (by (try simp only [List.map_toArray, List.map_cons, List.map_nil]); first | done | rfl | (simp only [List.length_drop, List.length_take]; rfl)) ?_
    with_reducible refine (scarfjointref18_compare.calls ((rd_T75 l0 a0).f0) ((rd_T75 l0 a0).f1) ((rd_T75 l0 a0).f2) ((rd_T75 l0 a0).f3) b0 a9 a8 a7 b8 _ A6.out).mono ?_
    rintro e e5 ⟨rfl, hb⟩
    refine ⟨_, rfl, ?_⟩
    replace a1 := bkb a1 hb
    replace HB := bstep HB hb
    (try clear hb)
    (try clear hb2)
    (try clear hk)
    (try clear hi)
    refine hK.out _ _ ⟨bc a1 0, bc a1 1, bc a1 2, bc a1 3, (hxc HB b5), (hxc HB b4), (hxc HB b3), (hxc HB b2)⟩ (fun hHeld => ?_)
    clear hK K
    refine norm_ (a' := ?_) ?_ ?_
    rotate_left
    ·show Act.put _ (some 17) _ = _
     simp only [Act.put, List.setIfInBounds_toArray, List.set_cons_zero, List.set_cons_succ, i64_w, i32_w]
     rfl
    refine pure_ (i := 6) (N := some 18) (v := ?_) (a' := ?_) #[true, true, true, true, true, true, true] rfl rfl (by kernel_rfl) (fun _ _ _ h => h) (Or.inl ⟨by rfl, ?_⟩) ?_ ?_
    rotate_left
    ·intro w'
     go_simp
     with_reducible rfl
    rotate_left
    ·simp only [Act.put, List.setIfInBounds_toArray, List.set_cons_zero, List.set_cons_succ, i64_w, i32_w]
     rfl
    refine done_ (by kernel_rfl) ?_
    try go_wp2
    go_roundg k1
    case measure => have := d8.out; omega
    case rel => exact ⟨(wrap64 (a0 + 1)), eqs, H', ⟨by have := d8.out; omega⟩, ⟨bk a1⟩, ⟨bb HB⟩⟩
   rw [if_pos c7] at H
   have e1 := beq_iff_eq.mpr c7
   have e0 := bne_eq_false_iff_eq.mpr c7
   clear c7
   obtain rfl := Option.some.inj H
   try go_wp2
   replace a1 := Aside0.mk (blk_drew a1.out)
   replace HB := Aside0.mk (below_drew1 HB.out)
   have b7 : 0 ≤ a0 := odt
   have b6 : a0 < (l0.length : Int) := odt
   obtain ⟨a2, d3, a6, a5, a4, a3⟩ := at_T75 d4.out a0 b7 b6
   have b2 := a3
   have b3 := a4
   have b4 := a5
   have b5 := a6
   cases d3
   replace a6 := hxc HB a6
   replace a5 := hxc HB a5
   replace a4 := hxc HB a4
   replace a3 := hxc HB a3
   replace b7 := eq_true b7
   replace b6 := eq_true b6
   refine start_ (n := 7) (S := fun w' => w'.cell? ⟨b1, 0, none⟩ = some (.int .i64 b0) ∧ w'.cell? ⟨b1, 1, none⟩ = some (.int .i64 a9) ∧ w'.cell? ⟨b1, 2, none⟩ = some (.int .i64 a8) ∧ w'.cell? ⟨b1, 3, none⟩ = some (.int .i64 a7) ∧ w'.cell? (a2.add ((a0).toNat * 4)) = some (.int .i64 ((rd_T75 l0 a0).f0)) ∧ w'.cell? ⟨(a2.add ((a0).toNat * 4)).block, (a2.add ((a0).toNat * 4)).off + 1, none⟩ = some (.int .i64 ((rd_T75 l0 a0).f1)) ∧ w'.cell? ⟨(a2.add ((a0).toNat * 4)).block, (a2.add ((a0).toNat * 4)).off + 2, none⟩ = some (.int .i64 ((rd_T75 l0 a0).f2)) ∧ w'.cell? ⟨(a2.add ((a0).toNat * 4)).block, (a2.add ((a0).toNat * 4)).off + 3, none⟩ = some (.int .i64 ((rd_T75 l0 a0).f3))) (ds := []) #[false, false, false, false, false, false, false] (by kernel_rfl) rfl rfl ⟨bc a1 0, bc a1 1, bc a1 2, bc a1 3, (hxc HB b5), (hxc HB b4), (hxc HB b3), (hxc HB b2)⟩ (fun hHeld => ?_)
   generalize wr.drew = w8 at a1 HB a6 a5 a4 a3 hHeld ⊢
   refine pure_ (i := 0) (N := some 12) (v := ?_) (a' := ?_) #[true, false, false, false, false, false, false] rfl rfl (by kernel_rfl) (fun _ _ _ h => h) (Or.inl ⟨by rfl, ?_⟩) ?_ ?_
   rotate_left
   ·intro w'
    go_simp
    with_reducible rfl
   rotate_left
   ·simp only [Act.put, List.setIfInBounds_toArray, List.set_cons_zero, List.set_cons_succ, i64_w, i32_w]
    rfl
   refine pure_ (i := 1) (N := some 13) (v := ?_) (a' := ?_) #[true, true, false, false, false, false, false] rfl rfl (by kernel_rfl) (fun _ _ _ h => h) (Or.inl ⟨by rfl, ?_⟩) ?_ ?_
   rotate_left
   ·intro w'
    go_simp
    with_reducible rfl
   rotate_left
   ·simp only [Act.put, List.setIfInBounds_toArray, List.set_cons_zero, List.set_cons_succ, i64_w, i32_w]
    rfl
   refine pure_ (i := 2) (N := some 14) (v := ?_) (a' := ?_) #[true, true, true, false, false, false, false] rfl rfl (by kernel_rfl) (fun _ _ _ h => h) (Or.inl ⟨by rfl, ?_⟩) ?_ ?_
   rotate_left
   ·intro w'
    go_simp
    with_reducible rfl
   rotate_left
   ·simp only [Act.put, List.setIfInBounds_toArray, List.set_cons_zero, List.set_cons_succ, i64_w, i32_w]
    rfl
   refine take_ (i := 3) (N := some 15) (v := ?_) (a' := ?_) #[true, true, true, true, false, false, false] rfl rfl (by kernel_rfl) (fun _ _ _ h => h) (Or.inl ⟨by rfl, ?_⟩) hHeld ?_ ?_
   rotate_left
   ·rintro w' ⟨s0, s1, s2, s3, s4, s5, s6, s7⟩
    go_simp
    with_reducible rfl
   rotate_left
   ·simp only [Act.put, List.setIfInBounds_toArray, List.set_cons_zero, List.set_cons_succ, i64_w, i32_w]
    rfl
   refine take_ (i := 4) (N := some 16) (v := ?_) (a' := ?_) #[true, true, true, true, true, false, false] rfl rfl (by kernel_rfl) (fun _ _ _ h => h) (Or.inl ⟨by rfl, ?_⟩) hHeld ?_ ?_
   rotate_left
   ·rintro w' ⟨s0, s1, s2, s3, s4, s5, s6, s7⟩
    go_simp
    with_reducible rfl
   rotate_left
   ·simp only [Act.put, List.setIfInBounds_toArray, List.set_cons_zero, List.set_cons_succ, i64_w, i32_w]
    rfl
   refine one_ (i := 5) (N := some 17) #[true, true, true, true, true, true, false] rfl rfl (by kernel_rfl) (by decide) (fun K hK => ?_)
   refine goes_ Tryz.func63 (by kernel_rfl) rfl #[.agg #[.int .i64 ((rd_T75 l0 a0).f0), .int .i64 ((rd_T75 l0 a0).f1), .int .i64 ((rd_T75 l0 a0).f2), .int .i64 ((rd_T75 l0 a0).f3)], .agg #[.int .i64 b0, .int .i64 a9, .int .i64 a8, .int .i64 a7]] (by rfl) rfl rfl (by (try simp only [List.map_toArray, List.map_cons, List.map_nil]); first | done | rfl | (simp only [List.length_drop, List.length_take]; rfl)) ?_
   with_reducible refine (scarfjointref18_compare.calls ((rd_T75 l0 a0).f0) ((rd_T75 l0 a0).f1) ((rd_T75 l0 a0).f2) ((rd_T75 l0 a0).f3) b0 a9 a8 a7 b8 _ A6.out).mono ?_
   rintro e w9 ⟨rfl, hb⟩
   refine ⟨_, rfl, ?_⟩
   replace a1 := bkb a1 hb
   replace HB := bstep HB hb
   (try clear hb)
   (try clear hb2)
   (try clear hk)
   (try clear hi)
   refine hK.out _ _ ⟨bc a1 0, bc a1 1, bc a1 2, bc a1 3, (hxc HB b5), (hxc HB b4), (hxc HB b3), (hxc HB b2)⟩ (fun hHeld => ?_)
   clear hK K
   refine norm_ (a' := ?_) ?_ ?_
   rotate_left
   ·show Act.put _ (some 17) _ = _
    simp only [Act.put, List.setIfInBounds_toArray, List.set_cons_zero, List.set_cons_succ, i64_w, i32_w]
    rfl
   refine pure_ (i := 6) (N := some 18) (v := ?_) (a' := ?_) #[true, true, true, true, true, true, true] rfl rfl (by kernel_rfl) (fun _ _ _ h => h) (Or.inl ⟨by rfl, ?_⟩) ?_ ?_
   rotate_left
   ·intro w'
    go_simp
    with_reducible rfl
   rotate_left
   ·simp only [Act.put, List.setIfInBounds_toArray, List.set_cons_zero, List.set_cons_succ, i64_w, i32_w]
    rfl
   refine done_ (by kernel_rfl) ?_
   have d2 : 0 ≤ a0 := odt
   have d1 : a0 < (l0.length : Int) := odt
   obtain ⟨d5, d9, d0, c9, c8, c6⟩ := at_T75 d4.out a0 d2 d1
   obtain rfl : a2 = d5 := (by injection d9)
   replace d0 := hxc HB d0
   replace c9 := hxc HB c9
   replace c8 := hxc HB c8
   replace c6 := hxc HB c6
   replace d2 := eq_true d2
   replace d1 := eq_true d1
   try go_wp2
   go_ret
   exact ⟨erf, bb HB⟩
end Go.Proofs.YtfpianecohobjaaGreat.P
