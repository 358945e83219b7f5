/- StatisticOf: a part of its proof. No condition. -/
import Derived.Test.YtfpianecohobjaaVPx0
namespace Go.Proofs.Ytfpianecohobjaa.P
open Go.RowKit Go.Proofs.YtfpianecohobjaaW.PrintWords Go.Proofs.YtfpianecohobjaaW.PrintLast Go.Proofs.YtfpianecohobjaaW.PrintMore
set_option maxHeartbeats 8000000
set_option maxRecDepth 100000
set_option linter.unusedVariables false
set_option linter.unusedSimpArgs false
def slices_Reverse_int_int.l0 : Nat → List Int → Int → Int → Option (List Int)
 | 0, _, _, _ => none
 | k + 1, x0, x2, x3 => if x2 < x3 then (if 0 ≤ x3 then (if x3 < (x0.length : Int) then (if 0 ≤ x2 then (if x2 < (x0.length : Int) then (slices_Reverse_int_int.l0 k ((x0.set (x2 : Int).toNat (rd x0 x3)).set (x3 : Int).toNat (rd x0 x2)) (wrap64 (x2 + 1)) (wrap64 (x3 - 1))) else (none)) else (none)) else (none)) else (none)) else (some x0)
def slices_Reverse_int_int.f (k : Nat) (l0 : List Int) : Option (List Int) := slices_Reverse_int_int.l0 k l0 0 (wrap64 ((l0.length : Int) - 1))
theorem slices_Reverse_int_int.mono_l : ∀ k, (∀ y0 y1 y2, LeO (slices_Reverse_int_int.l0 k y0 y1 y2) (slices_Reverse_int_int.l0 (k + 1) y0 y1 y2))
 | 0 => by (intros; intro r h; simp [slices_Reverse_int_int.l0] at h)
 | k + 1 => by
  have ih0 := slices_Reverse_int_int.mono_l k
  (intros; first | unfold slices_Reverse_int_int.l0)
  all_goals with_reducible repeat' first | exact ih0 .. | exact LeO.refl _ | exact LeO.none _ | refine LeO.ite ?_ ?_ | refine LeO.bind ?_ fun _ => ?_
theorem slices_Reverse_int_int.mono : ∀ a0 k, LeO (slices_Reverse_int_int.f k a0) (slices_Reverse_int_int.f (k + 1) a0) := by
 intro a0 k
 have ih0 := slices_Reverse_int_int.mono_l k
 unfold slices_Reverse_int_int.f
 with_reducible repeat' first | exact ih0 .. | exact LeO.refl _ | exact LeO.none _ | refine LeO.ite ?_ ?_ | refine LeO.bind ?_ fun _ => ?_
def slices_Reverse_int_int.T3 : Bool × List (List Nat × List Nat) := (true, [([], []), ([], []), ([], []), ([], []), ([], []), ([], []), ([4, 5], [4, 5]), ([6], [6]), ([], []), ([], []), ([8, 9], [8, 9]), ([10], [10]), ([0, 1, 0, 1, 4, 5, 6, 7, 11], [0, 1]), ([12, 7, 0, 1, 4, 5, 6, 7, 11], [7, 12]), ([2, 3, 0, 1, 2, 3, 4, 5, 6, 7, 8, 9, 10, 11, 12, 13], [2, 3]), ([14, 11, 13, 0, 1, 2, 3, 4, 5, 6, 7, 8, 9, 10, 11, 12, 13], [11, 14])])
def slices_Reverse_int_int.B3 : List Nat := [0, 0, 0, 0, 0, 0, 48, 112, 0, 0, 768, 1792, 4083, 8179, 16383, 32767]
theorem slices_Reverse_int_int.tab3 : rtab .any (opsOf Try.f73 3) = slices_Reverse_int_int.T3 := by kernel_rfl
theorem slices_Reverse_int_int.bits3 : waitsOk slices_Reverse_int_int.T3.2 slices_Reverse_int_int.B3 = true := by kernel_rfl
theorem slices_Reverse_int_int.calls (k : Nat) (P0_ : Nat → Prop) (b2 : Value) (l0 : List Int) (r : List Int) (w0 w : World) (hB : Below w0.heap.size w0 w) (n2 : Kd.R (Kd.int .i64) 3 w w0.heap.size P0_ b2 l0) (h : slices_Reverse_int_int.f k l0 = some r) :
  Calls Try.prog 73 #[b2] w fun e w' => e = .returned (.tuple #[]) ∧ Kd.R (Kd.int .i64) 3 w' w0.heap.size (fun k_ => (P0_ k_ ∨ w.heap.size ≤ k_)) b2 r ∧ Below w0.heap.size w0 w' ∧ Kept w w' (fun k_ => P0_ k_) := by
 have j8 := Aside0.mk (show Kd.R (Kd.int .i64) 3 w w0.heap.size (fun k_ => (P0_ k_ ∨ w.heap.size ≤ k_)) b2 l0 from Kd.R_mono n2 (fun k_ hk => (.inl hk)))
 have HK := Aside0.mk (Kept.refl w (fun k_ => P0_ k_))
 have HW0 := Aside0.mk hB.size
 have HB := Aside0.mk hB
 clear hB
 have H : (slices_Reverse_int_int.l0 k l0 0 (wrap64 ((l0.length : Int) - 1))) = some r := h
 clear h
 have H' := Aside0.mk H
 clear H
 obtain ⟨n9, n7, eo2⟩ := Kd.R_slice j8.out
 subst eo2
 go_enter Try.func73, Try.ntmps73
 go_wp2
 go_loopg [2, 3] k (fun kq v2 v3 w' => ∃ (a7 : List Int) (a4 : Int) (a3 : Int), v2 = .int .i64 a4 ∧ v3 = .int .i64 a3 ∧ Aside0 (slices_Reverse_int_int.l0 kq a7 a4 a3 = some r) ∧ Aside0 (kq ≤ k) ∧ Aside0 (Kd.R (Kd.int .i64) 3 w' w0.heap.size (fun k_ => (P0_ k_ ∨ w.heap.size ≤ k_)) (.slice n9 l0.length n7) a7) ∧ Aside0 (Kept w w' (fun k_ => P0_ k_)) ∧ Aside0 (Below w0.heap.size w0 w'))
 case atStart => exact ⟨(l0), (0), (wrap64 ((l0.length : Int) - 1)), eqs, eqs, H', ⟨Nat.le_refl _⟩, ⟨kR j8⟩, ⟨by repeat (first | (with_reducible first | exact HK.out | apply Kept.alloc | apply Kept.drewN | apply Kept.drew) | exact HK.out)⟩, ⟨bb HB⟩⟩
 case round =>
  clear H'
  obtain ⟨a7, a4, a3, rfl, rfl, HA, c1, HO_0, HK, HB⟩ := hrel
  have b6 := (Kd.R_reads' HO_0.out).1
  rw [b6] at HO_0
  (try simp only [b6])
  cases gk with
  | zero => exact absurd HA.out (by simp [slices_Reverse_int_int.l0])
  | succ k1 =>
   have H := HA.out
   clear HA
   simp only [slices_Reverse_int_int.l0] at H
   by_cases c3 : a4 < a3
   rotate_left
   ·rw [if_neg c3] at H
    have g1 := decide_eq_false c3
    clear c3
    obtain rfl := Option.some.inj H
    go_wp2
    first | go_end0 | ((try simp only [Exit.inBlock, Exit.then]); refine bodyPost_ret (results_none rfl _ _ _) rfl ?_)
    exact ⟨erf, (by first | exact (kR HO_0) | (simp only [b6]; exact (kR HO_0))), bb HB, by repeat (first | (with_reducible first | exact HK.out | apply Kept.alloc | apply Kept.drewN | apply Kept.drew) | exact HK.out)⟩
   rw [if_pos c3] at H
   have g1 := decide_eq_true c3
   clear c3
   obtain ⟨c4, H⟩ := itn H
   have g0 := decide_eq_true c4
   clear c4
   obtain ⟨c5, H⟩ := itn H
   have m7 := decide_eq_true c5
   clear c5
   obtain ⟨c6, H⟩ := itn H
   have e9 := decide_eq_true c6
   clear c6
   obtain ⟨c7, H⟩ := itn H
   have m5 := decide_eq_true c7
   clear c7
   obtain ⟨h1, b5⟩ : ∃ y_ : List Int, y_ = (a7.set (a4 : Int).toNat (rd a7 a3)) := ⟨_, rfl⟩
   replace H : (slices_Reverse_int_int.l0 k1 (h1.set (a3 : Int).toNat (rd a7 a4)) (wrap64 (a4 + 1)) (wrap64 (a3 - 1))) = some r := by first | (rw [b5]; with_reducible exact H) | (have H2_ := (Option.bind_some _ _).symm.trans H; rw [b5]; with_reducible exact H2_) | (have H2_ := (Option.bind_some _ _).symm.trans H; with_reducible exact H2_) | with_reducible exact H | (rw [b5]; exact H) | exact H
   have j2 := Aside0.mk b5
   clear b5
   obtain ⟨h0, b4⟩ : ∃ y_ : List Int, y_ = (h1.set (a3 : Int).toNat (rd a7 a4)) := ⟨_, rfl⟩
   replace H : (slices_Reverse_int_int.l0 k1 h0 (wrap64 (a4 + 1)) (wrap64 (a3 - 1))) = some r := by first | (rw [b4]; with_reducible exact H) | (have H2_ := (Option.bind_some _ _).symm.trans H; rw [b4]; with_reducible exact H2_) | (have H2_ := (Option.bind_some _ _).symm.trans H; with_reducible exact H2_) | with_reducible exact H | (rw [b4]; exact H) | exact H
   have j1 := Aside0.mk b4
   clear b4
   have H' := Aside0.mk H
   clear H
   try go_wp2
   replace HO_0 := Aside0.mk (Kd.R_drew HO_0.out)
   replace HK := Aside0.mk (Kept.drew HK.out)
   replace HB := Aside0.mk (below_drew1 HB.out)
   have e7 : 0 ≤ a3 := odt
   have e3 : a3 < (a7.length : Int) := odt
   obtain ⟨h9, m4, b9⟩ := Kd.at_int (Kd.R_reads' HO_0.out).2.2 a3 e7 e3
   cases m4
   replace e7 := eq_true e7
   replace e3 := eq_true e3
   have e6 : 0 ≤ a4 := odt
   have e2 : a4 < (a7.length : Int) := odt
   obtain ⟨h8, m3, b8⟩ := Kd.at_int (Kd.R_reads' HO_0.out).2.2 a4 e6 e2
   obtain rfl : h9 = h8 := (by injection m3)
   replace e6 := eq_true e6
   replace e2 := eq_true e2
   have p8 : 0 ≤ a4 := odt
   have q8 : (a4 : Int) < ((a7.length : Int) : Int) := odt
   obtain ⟨go8, p1, eo8, j7, gl8, cl8, HG8⟩ := Kd.R_form HO_0.out (by omega)
   (first | cases eo8 | (injection eo8 with ea_ en_ ec_; (first | subst ea_ | (injection ea_ with ea_; subst ea_)); subst ec_; clear en_))
   have GB8 := Aside0.mk j7
   have GG8 := Aside0.mk HG8
   clear j7 gl8 HG8
   have HMgo8 := Aside0.mk (show (P0_ go8 ∨ w.heap.size ≤ go8) from (HO_0.out.1 _ rfl))
   (first | simp only [add_plain] at b9 | skip)
   (first | simp only [add_plain] at b8 | skip)
   obtain ⟨h7, hf8_0⟩ := Kd.R_celln 0 HO_0.out (a4 : Int) p8 q8
   replace p8 := eq_true p8
   replace q8 := eq_true q8
   have HP11 := Kd.R_putn HO_0.out (a4 : Int) (rd a7 a3)
   rw [← j2.out] at HP11
   have HQ11 := Aside0.mk HP11
   clear HP11
   have p9 : 0 ≤ a3 := odt
   have q9 : (a3 : Int) < ((a7.length : Int) : Int) := odt
   obtain ⟨h6, hf9_0⟩ := Kd.R_celln 0 HQ11.out (a3 : Int) p9 q9
   replace p9 := eq_true p9
   replace q9 := eq_true q9
   have HP12 := Kd.R_putn HQ11.out (a3 : Int) (rd a7 a4)
   rw [← j1.out] at HP12
   have HQ12 := Aside0.mk HP12
   clear HP12
   refine start_ (n := 16) (S := fun w' => w'.cell? ⟨go8, (a3).toNat, none⟩ = some (.int .i64 (rd a7 a3)) ∧ w'.cell? ⟨go8, (a4).toNat, none⟩ = some (.int .i64 (rd a7 a4))) (ds := [13, 15]) #[false, false, false, false, false, false, false, false, false, false, false, false, false, false, false, false] (by kernel_rfl) rfl rfl ⟨b9, b8⟩ (fun hHeld => ?_); refine with_tabW slices_Reverse_int_int.tab3 slices_Reverse_int_int.bits3 (fun HT_ HW_ => ?_)
   generalize wr.drew = p0 at HO_0 HK HB GG8 HQ11 HQ12 hf8_0 hf9_0 b9 b8 h7 h6 hHeld ⊢
   refine pu 0 14 (bits 16 0x1) HT_ (h := ?_)
   refine pu 1 15 (bits 16 0x3) HT_ (h := ?_)
   refine pu 2 16 (bits 16 0x7) HT_ (h := ?_)
   refine pu 3 17 (bits 16 0xf) HT_ (h := ?_)
   refine pu 4 18 (bits 16 0x1f) HT_ (h := ?_)
   refine pu 5 19 (bits 16 0x3f) HT_ (h := ?_)
   refine pu 6 20 (bits 16 0x7f) HT_ (h := ?_)
   refine pu 8 22 (bits 16 0x17f) HT_ (h := ?_)
   refine pu 9 23 (bits 16 0x37f) HT_ (h := ?_)
   refine pu 10 24 (bits 16 0x77f) HT_ (h := ?_)
   refine tk 7 21 (bits 16 0x7ff) HT_ HW_ hHeld (hy := by rintro w' ⟨s0, s1⟩; go_simp; with_reducible rfl) (h := ?_)
   refine tk 11 25 (bits 16 0xfff) HT_ HW_ hHeld (hy := by rintro w' ⟨s0, s1⟩; go_simp; with_reducible rfl) (h := ?_)
   refine pu 12 26 (bits 16 0x1fff) HT_ (h := ?_)
   refine last_ (i := 13) (N := none) #[true, true, true, true, true, true, true, true, true, true, true, true, true, true, false, false] rfl rfl (one_of HT_.out (by kernel_rfl)) (by decide) (fun K hK => ?_)
   refine skip_ (w1 := ?_) (by rfl) rfl ?_ ?_
   rotate_left
   ·go_simp
    rfl
   refine hK.out _ _ ?_
   clear hK K
   refine pu 14 27 (bits 16 0x7fff) HT_ (h := ?_)
   refine last_ (i := 15) (N := none) #[true, true, true, true, true, true, true, true, true, true, true, true, true, true, true, true] rfl rfl (one_of HT_.out (by kernel_rfl)) (by decide) (fun K hK => ?_)
   refine skip_ (w1 := ?_) (by rfl) rfl ?_ ?_
   rotate_left
   ·go_simp
    rfl
   refine hK.out _ _ ?_
   clear hK K
   refine done_ (done_of HT_.out (by kernel_rfl)) ?_
   try go_wp2
   (try simp only [← b6])
   go_roundg k1
   case measure => have := c1.out; omega
   case rel => exact ⟨(h0), (wrap64 (a4 + 1)), (wrap64 (a3 - 1)), eqs, eqs, H', ⟨by have := c1.out; omega⟩, ⟨by (try simp only [b6]); (with_reducible repeat (first | apply Kd.R_alloc | apply Kd.R_drewN | apply Kd.R_drew)); exact HQ12.out⟩, ⟨by repeat (first | (with_reducible first | exact HK.out | apply Kept.alloc | apply Kept.drewN | apply Kept.drew | refine Kept.setCell ?_ HMgo8.out _ | refine Kept.setCell ?_ HMgo8.out _) | exact HK.out)⟩, ⟨bb HB⟩⟩
def types_line.l0 : Nat → Int → List Int → List (S68) → List (S71) → Option (List Int)
 | 0, _, _, _, _ => none
 | k + 1, x1, x5, b7, g8 => if x1 ≥ 0 then (if x5.length < 17592186044416 then (if 0 ≤ x1 then (if x1 < (b7.length : Int) then (types_line.l0 k ((rd_T68 b7 x1).f1) (x5 ++ [x1]) b7 g8) else (none)) else (none)) else (none)) else ((slices_Reverse_int_int.f k x5).bind fun h2 => (some h2))
def types_line.f (k : Nat) (a5 : List (S68)) (a8 : List (S71)) (a1 : Int) : Option (List Int) := types_line.l0 k a1 ([] : List Int) a5 a8
theorem types_line.mono_l : ∀ k, (∀ y0 y1 y2 y3, LeO (types_line.l0 k y0 y1 y2 y3) (types_line.l0 (k + 1) y0 y1 y2 y3))
 | 0 => by (intros; intro r h; simp [types_line.l0] at h)
 | k + 1 => by
  have ih0 := types_line.mono_l k
  (intros; first | unfold types_line.l0)
  all_goals with_reducible repeat' first | exact ih0 .. | exact slices_Reverse_int_int.mono .. | exact LeO.refl _ | exact LeO.none _ | refine LeO.ite ?_ ?_ | refine LeO.bind ?_ fun _ => ?_
theorem types_line.mono : ∀ a0 a1 a2 k, LeO (types_line.f k a0 a1 a2) (types_line.f (k + 1) a0 a1 a2) := by
 intro a0 a1 a2 k
 have ih0 := types_line.mono_l k
 unfold types_line.f
 with_reducible repeat' first | exact ih0 .. | exact slices_Reverse_int_int.mono .. | exact LeO.refl _ | exact LeO.none _ | refine LeO.ite ?_ ?_ | refine LeO.bind ?_ fun _ => ?_
theorem types_line.calls (k : Nat) (d0 : Option Addr) (c8 : Nat) (a5 : List (S68)) (c9 : Option Addr) (c2 : Nat) (a8 : List (S71)) (a1 : Int) (r : List Int) (w : World) (g4 : Kd.C k68 w d0 a5.length a5) (g6 : a5.length ≤ c8) (g3 : Kd.C k71 w c9 a8.length a8) (g5 : a8.length ≤ c2) (h : types_line.f k a5 a8 a1 = some r) :
  Calls Try.prog 48 #[.agg #[.slice d0 a5.length c8, .slice c9 a8.length c2], .int .i64 a1] w fun e w' => ∃ j5 : Value, e = .returned (j5) ∧ Kd.R (Kd.int .i64) 3 w' w.heap.size (fun _ => True) j5 r ∧ Below w.heap.size w w' := by
 have hu25 := Try.underlying25
 have j3 := Aside0.mk g4
 have o6 := Aside0.mk g6
 clear g4 g6
 have o4 := Aside0.mk g3
 have o5 := Aside0.mk g5
 clear g3 g5
 have HB := Aside0.mk (Below.refl w.heap.size w)
 have H : (types_line.l0 k a1 ([] : List Int) a5 a8) = some r := h
 clear h
 have H' := Aside0.mk H
 clear H
 go_enter Try.func48, Try.ntmps48
 go_wp2_with (first | ((with_reducible refine gate_dst (N := 2) rfl ?_); refine be 2 #[.slice d0 a5.length c8, .slice c9 a8.length c2] 25 ?_; intro g7 hg w3 hbox hb; have a9 := Aside0.mk (hbox); have o7 := bsz HB hg; replace HB := bstep HB hb; clear hb hbox hg))
 go_loopg [1, 5] k (fun kq v1 v5 w' => ∃ (a6 : Int) (b1 : List Int), v1 = .int .i64 a6 ∧ Aside0 (types_line.l0 kq a6 b1 a5 a8 = some r) ∧ Aside0 (kq ≤ k) ∧ Aside0 (Kd.R (Kd.int .i64) 3 w' w.heap.size (fun _ => True) v5 b1) ∧ Aside0 (w'.heap[g7]? = some (.cells #[(.slice d0 a5.length c8), (.slice c9 a8.length c2)] 25 (0, 0))) ∧ Aside0 (Below w.heap.size w w'))
 case atStart => exact ⟨(a1), (([] : List Int)), eqs, H', ⟨Nat.le_refl _⟩, ⟨by first | exact Kd.R_nil _ _ _ _ _ | exact Kd.N_nil _ _ _ _ _ | exact Kd.V_nil _ _ _ _ _ | exact Kd.Q_nil _ _ _ _ _ | exact Kd.S_nil _ _ _ _ _⟩, ⟨bk a9⟩, ⟨bb HB⟩⟩
 case round =>
  clear H'
  obtain ⟨a6, b1, rfl, HA, c1, HO_5, a9, HB⟩ := hrel
  cases gk with
  | zero => exact absurd HA.out (by simp [types_line.l0])
  | succ k1 =>
   have H := HA.out
   clear HA
   simp only [types_line.l0] at H
   by_cases c4 : a6 ≥ 0
   rotate_left
   ·rw [if_neg c4] at H
    have g0 : decide (0 ≤ a6) = false := decide_eq_false c4
    clear c4
    obtain ⟨h2, o1, H⟩ := obA H
    obtain rfl := Option.some.inj H
    obtain ⟨g2, e8, eo11⟩ := Kd.R_slice HO_5.out
    subst eo11
    go_wp2_with (first | ((with_reducible refine gate_callee (f := 73) rfl ?_); refine gl 19 Try.func73 #[.slice g2 b1.length e8] (h := ?_); (with_reducible refine (slices_Reverse_int_int.calls _ (fun k_ => some k_ = (.slice g2 b1.length e8 : Value).ownBlock) (.slice g2 b1.length e8) _ _ w _ (bb HB) (Kd.R_tight rfl HO_5.out) o1.out).mono ?_); rintro e o9 ⟨rfl, j6, hb, hkp⟩; refine ⟨_, rfl, ?_⟩; replace a9 := Aside0.mk (blk_kept (bk a9) hkp (fun hs_ => (fun e_ => (Kd.R_ne HO_5.out a9.out (by decide)) e_) hs_)); replace HO_5 := Aside0.mk (Kd.R_reok rfl j6 (fun k_ e_ => HO_5.out.1 k_ e_)); replace HB := Aside0.mk (hb); clear hb hkp j6))
    go_ret
    exact ⟨_, erf, kR HO_5, bb HB⟩
   rw [if_pos c4] at H
   have g0 : decide (0 ≤ a6) = true := decide_eq_true c4
   clear c4
   obtain ⟨c5, H⟩ := itn H
   have m8 := Aside0.mk c5
   clear c5
   obtain ⟨g9, b3⟩ : ∃ y_ : List Int, y_ = (b1 ++ [a6]) := ⟨_, rfl⟩
   replace H : (if 0 ≤ a6 then (if a6 < (a5.length : Int) then (types_line.l0 k1 ((rd_T68 a5 a6).f1) g9 a5 a8) else (none)) else (none)) = some r := by first | (rw [b3]; with_reducible exact H) | (have H2_ := (Option.bind_some _ _).symm.trans H; rw [b3]; with_reducible exact H2_) | (have H2_ := (Option.bind_some _ _).symm.trans H; with_reducible exact H2_) | with_reducible exact H | (rw [b3]; exact H) | exact H
   have j0 := Aside0.mk b3
   clear b3
   obtain ⟨c6, H⟩ := itn H
   have e9 := decide_eq_true c6
   clear c6
   obtain ⟨c7, H⟩ := itn H
   have m5 := decide_eq_true c7
   clear c7
   have H' := Aside0.mk H
   clear H
   go_wp2_with (first | ((with_reducible refine gate_builtin (b := .append) (xs := #[.tmp 14, .tmp 16]) rfl ?_); at_builtin; refine Kd.R_append (Kd.int .i64) (w0 := w) w.heap.size rfl (.tmp 14) (.tmp 16) 42 3 (.int .i64 0) 8 rfl Try.underlying42 info3 rfl (by decide) (by omega) u5 b1 a6 [.int .i64 a6] (fun _ => True) (fun _ => False) rfl rfl ?aP (fun _ hk => hk.elim) ?aF ?aO ?aB ?aS ?aL ?_; (case aP => exact rfl); (case aB => exact (bb HB)); (case aF => exact (fun _ _ => trivial)); (case aO => exact (kR HO_5)); (case aS => exact (below_size (bb HB))); (case aL => have := m8.out; omega); intro o8 w8 ho hb hg hat; rw [← j0.out] at ho; replace a9 := Aside0.mk (blk_grown (g := g7) (o := .cells #[.slice d0 a5.length c8, .slice c9 a8.length c2] 25 (0, 0)) (bk a9) hg (Kd.R_ne HO_5.out a9.out (by decide))); replace HB := Aside0.mk (hb); have j4 := Aside0.mk (ho); clear HO_5 ho hb hg hat; obtain ⟨n6, n5, n4, n3⟩ := cz2 a9; have e5 : 0 ≤ a6 := odt; have e1 : a6 < (a5.length : Int) := odt; obtain ⟨o3, o0, n8, m2, d4, d3, d2, d1, d5, d6⟩ := at_T68 j3.out a6 e5 e1; cases m2; replace d4 := hxc HB d4; replace d3 := hxc HB d3; replace d2 := hxc HB d2; replace d1 := hxc HB d1; have n0 := Aside0.mk d6; have n1 := Aside0.mk d5; clear d6 d5; replace e5 := eq_true e5; replace e1 := eq_true e1))
   go_roundg k1
   case measure => have := c1.out; omega
   case rel => exact ⟨((rd_T68 a5 a6).f1), (g9), eqs, H', ⟨by have := c1.out; omega⟩, ⟨kR j4⟩, ⟨bk a9⟩, ⟨bb HB⟩⟩
def slices_Index_int_int.l0 : Nat → List Int → Int → Int → Int → Option (Int)
 | 0, _, _, _, _ => none
 | k + 1, x0, x1, x7, x8 => if x8 < x7 then (if 0 ≤ x8 then (if x8 < (x0.length : Int) then (if x1 = (rd x0 x8) then (some x8) else (slices_Index_int_int.l0 k x0 x1 x7 (wrap64 (x8 + 1)))) else (none)) else (none)) else (some (-1))
def slices_Index_int_int.f (k : Nat) (l0 : List Int) (a1 : Int) : Option (Int) := slices_Index_int_int.l0 k l0 a1 (l0.length : Int) 0
theorem slices_Index_int_int.mono_l : ∀ k, (∀ y0 y1 y2 y3, LeO (slices_Index_int_int.l0 k y0 y1 y2 y3) (slices_Index_int_int.l0 (k + 1) y0 y1 y2 y3))
 | 0 => by (intros; intro r h; simp [slices_Index_int_int.l0] at h)
 | k + 1 => by
  have ih0 := slices_Index_int_int.mono_l k
  (intros; first | unfold slices_Index_int_int.l0)
  all_goals with_reducible repeat' first | exact ih0 .. | exact LeO.refl _ | exact LeO.none _ | refine LeO.ite ?_ ?_ | refine LeO.bind ?_ fun _ => ?_
theorem slices_Index_int_int.mono : ∀ a0 a1 k, LeO (slices_Index_int_int.f k a0 a1) (slices_Index_int_int.f (k + 1) a0 a1) := by
 intro a0 a1 k
 have ih0 := slices_Index_int_int.mono_l k
 unfold slices_Index_int_int.f
 with_reducible repeat' first | exact ih0 .. | exact LeO.refl _ | exact LeO.none _ | refine LeO.ite ?_ ?_ | refine LeO.bind ?_ fun _ => ?_
theorem slices_Index_int_int.calls (k : Nat) (A0 : Option Addr) (c0 : Nat) (l0 : List Int) (a1 : Int) (r : Int) (w : World) (d8 : Kd.C (Kd.int .i64) w A0 l0.length l0) (d9 : l0.length ≤ c0) (h : slices_Index_int_int.f k l0 a1 = some r) :
  Calls Try.prog 92 #[.slice A0 l0.length c0, .int .i64 a1] w fun e w' => e = .returned (.int .i64 r) ∧ Drawn0 w w' := by
 have h3 := Aside0.mk d8
 have j9 := Aside0.mk d9
 clear d8 d9
 have H : (slices_Index_int_int.l0 k l0 a1 (l0.length : Int) 0) = some r := h
 clear h
 have H' := Aside0.mk H
 clear H
 go_enter Try.func92, Try.ntmps92
 go_wp2
 go_loopg [8] k (fun kq v8 w' => ∃ (b0 : Int), v8 = .int .i64 b0 ∧ Aside0 (slices_Index_int_int.l0 kq l0 a1 (l0.length : Int) b0 = some r) ∧ Aside0 (kq ≤ k) ∧ Drawn0 w w')
 case atStart => exact ⟨(0), eqs, H', ⟨Nat.le_refl _⟩, drw⟩
 case round =>
  clear H'
  obtain ⟨b0, rfl, HA, c1, ⟨m1, rfl⟩⟩ := hrel
  cases gk with
  | zero => exact absurd HA.out (by simp [slices_Index_int_int.l0])
  | succ k1 =>
   have H := HA.out
   clear HA
   simp only [slices_Index_int_int.l0] at H
   by_cases c3 : b0 < (l0.length : Int)
   rotate_left
   ·rw [if_neg c3] at H
    have g1 := decide_eq_false c3
    clear c3
    obtain rfl := Option.some.inj H
    go_wp2
    go_ret
    exact ⟨by first | rfl | (simp; done) | (simp [*]; done), drw⟩
   rw [if_pos c3] at H
   have g1 := decide_eq_true c3
   clear c3
   obtain ⟨c4, H⟩ := itn H
   have g0 := decide_eq_true c4
   clear c4
   obtain ⟨c5, H⟩ := itn H
   have m7 := decide_eq_true c5
   clear c5
   by_cases c6 : a1 = (rd l0 b0)
   rw [if_pos c6] at H
   have e9 := beq_iff_eq.mpr c6
   have m6 := bne_eq_false_iff_eq.mpr c6
   clear c6
   obtain rfl := Option.some.inj H
   rotate_left
   rw [if_neg c6] at H
   have e9 := beq_eq_false_iff_ne.mpr c6
   have m6 := bne_iff_ne.mpr c6
   have H' := Aside0.mk H
   clear H
   all_goals
    have e4 : 0 ≤ b0 := odt
    have e0 : b0 < (l0.length : Int) := odt
    obtain ⟨o2, m0, m9⟩ := Kd.at_int h3.out b0 e4 e0
    cases m0
    replace e4 := eq_true e4
    replace e0 := eq_true e0
    go_wp2
   ·go_roundg k1
    case measure => have := c1.out; omega
    case rel => exact ⟨(wrap64 (b0 + 1)), eqs, H', ⟨by have := c1.out; omega⟩, drw⟩
   ·go_ret
    exact ⟨by first | rfl | (simp; done) | (simp [*]; done), drw⟩
def slices_Contains_int_int.f (k : Nat) (l0 : List Int) (a1 : Int) : Option (Bool) := (slices_Index_int_int.f k l0 a1).bind fun d7 => (some (decide (d7 ≥ 0)))
theorem slices_Contains_int_int.mono : ∀ a0 a1 k, LeO (slices_Contains_int_int.f k a0 a1) (slices_Contains_int_int.f (k + 1) a0 a1) := by
 intro a0 a1 k
 unfold slices_Contains_int_int.f
 with_reducible repeat' first | exact slices_Index_int_int.mono .. | exact LeO.refl _ | exact LeO.none _ | refine LeO.ite ?_ ?_ | refine LeO.bind ?_ fun _ => ?_
theorem slices_Contains_int_int.calls (k : Nat) (A0 : Option Addr) (c0 : Nat) (l0 : List Int) (a1 : Int) (r : Bool) (w : World) (d8 : Kd.C (Kd.int .i64) w A0 l0.length l0) (d9 : l0.length ≤ c0) (h : slices_Contains_int_int.f k l0 a1 = some r) :
  Calls Try.prog 72 #[.slice A0 l0.length c0, .int .i64 a1] w fun e w' => e = .returned (.bool r) ∧ Drawn0 w w' := by
 have h3 := Aside0.mk d8
 have j9 := Aside0.mk d9
 clear d8 d9
 have H : ((slices_Index_int_int.f k l0 a1).bind fun d7 => (some (decide (d7 ≥ 0)))) = some r := h
 clear h
 obtain ⟨d7, A3, H⟩ := obA H
 obtain rfl := Option.some.inj H
 go_enter Try.func72, Try.ntmps72
 go_wp2_with (first | ((with_reducible refine gate_callee (f := 92) rfl ?_); refine gl 7 Try.func92 #[.slice A0 l0.length c0, .int .i64 a1] (h := ?_); (with_reducible refine (slices_Index_int_int.calls _ _ _ _ _ _ _ ?h5 ?h4 A3.out).mono ?_); (case h5 => repeat (first | exact h3.out | (with_reducible refine Kd.C_alloc ?_ _) | (with_reducible refine Kd.C_drewN ?_ _) | (with_reducible refine Kd.C_drew ?_))); (case h4 => exact j9.out); rintro e w' ⟨rfl, ⟨nd, rfl⟩⟩; refine ⟨_, rfl, ?_⟩))
 go_ret
 exact ⟨by first | rfl | (simp; done) | (simp [*]; done), drw⟩
end Go.Proofs.Ytfpianecohobjaa.P
