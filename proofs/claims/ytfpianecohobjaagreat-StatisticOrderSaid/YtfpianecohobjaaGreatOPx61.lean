/- StatisticOf: a part of its proof. No condition. -/
import Derived.Test.YtfpianecohobjaaGreatOPx0
import Derived.Test.YtfpianecohobjaaGreatOMh
import Derived.Test.YtfpianecohobjaaGreatOMk
import Derived.Test.YtfpianecohobjaaGreatOPx19
import Derived.Test.YtfpianecohobjaaGreatOMl
import Derived.Test.YtfpianecohobjaaGreatOMa
namespace Go.Proofs.YtfpianecohobjaaGreat.P
open Go.RowKit Go.Proofs.YtfpianecohobjaaGreatW.PrintWords Go.Proofs.YtfpianecohobjaaGreatW.PrintLast Go.Proofs.YtfpianecohobjaaGreatW.PrintMore
set_option maxHeartbeats 8000000
set_option maxRecDepth 100000
set_option linter.unusedVariables false
set_option linter.unusedSimpArgs false
def scarfjointlaw18_StatisticOrder.j0 : Nat → List Int → Bool → List (S107) → List (S107) → List Int → List (S51) → Option (Bool)
 | 0, _, _, _, _, _, _ => none
 | k + 1, x1, J1, x7, x6, x5, x4 => if J1 = true then ((scarfjointlaw18_awake.f k).bind fun y0 => (some y0)) else ((scarfjointlaw18_made.f k x7 x6 x5 x4).bind fun g7 => ((q5_Shuffle.f k (g7.2.2.1.length : Int) x1).bind fun g5 => ((q5_Shuffle.f k (g7.2.2.2.length : Int) x1).bind fun g4 => ((graph_Reorder.f k g7.2.2.1 g7.2.2.2 g5 g4).bind fun r3 => ((statistic_Of.f k g7.1 g7.2.1 g7.2.2.1 g7.2.2.2).bind fun r2 => ((statistic_Of.f k g7.1 g7.2.1 r3.1 r3.2.1).bind fun r1 => (if r3.2.2 = 0 then (if r2.2.2 = 0 then (if r1.2.2 = 0 then ((scarfjointref18_Same.f k r2.1 r2.2.1 r1.1 r1.2.1).bind fun x9 => (some x9)) else (some false)) else (some false)) else (some false))))))))
def scarfjointlaw18_StatisticOrder.f (k : Nat) (e5 : List (S107)) (e4 : List (S107)) (e3 : List Int) (e2 : List (S51)) (l1 : List Int) : Option (Bool) := (scarfjointlaw18_awake.f k).bind fun o1 => (if o1 = true then (scarfjointlaw18_StatisticOrder.j0 k l1 (decide ((l1.length : Int) > 40)) e5 e4 e3 e2) else (scarfjointlaw18_StatisticOrder.j0 k l1 true e5 e4 e3 e2))
def scarfjointlaw18_StatisticOrder.T4 : Bool × List (List Nat × List Nat) := (true, [([], []), ([], []), ([1], [1]), ([2], [2]), ([], []), ([3, 4], [3, 4]), ([], []), ([6], [6]), ([7], [7]), ([], []), ([8, 9, 5], [8, 9]), ([5, 10], [5, 10]), ([0, 11, 10], [0, 11]), ([12], [12]), ([13], [13]), ([13], [13]), ([], []), ([16, 14, 12, 0, 1, 2, 3, 4, 5, 6, 7, 8, 9, 10, 11, 12, 13, 14, 16], [14, 16]), ([15, 17, 0, 1, 2, 3, 4, 5, 6, 7, 8, 9, 10, 11, 12, 13, 14, 15, 16, 17], [15])])
def scarfjointlaw18_StatisticOrder.B4 : List Nat := [0, 0, 2, 6, 0, 30, 0, 64, 192, 0, 1022, 2046, 4095, 8191, 16383, 16383, 0, 98303, 262143]
theorem scarfjointlaw18_StatisticOrder.tab4 : rtab .any (opsOf Tryz.f3 4) = scarfjointlaw18_StatisticOrder.T4 := by kernel_rfl
theorem scarfjointlaw18_StatisticOrder.bits4 : waitsOk scarfjointlaw18_StatisticOrder.T4.2 scarfjointlaw18_StatisticOrder.B4 = true := by kernel_rfl
theorem scarfjointlaw18_StatisticOrder.calls (k : Nat) (h7 : Option Addr) (h3 : Nat) (e5 : List (S107)) (h6 : Option Addr) (h2 : Nat) (e4 : List (S107)) (h5 : Option Addr) (h1 : Nat) (e3 : List Int) (h4 : Option Addr) (h0 : Nat) (e2 : List (S51)) (A1 : Option Addr) (c1 : Nat) (l1 : List Int) (r : Bool) (hr : r = true) (w : World) (w3 : Kd.C k107 w h7 e5.length e5) (w9 : e5.length ≤ h3) (w2 : Kd.C k107 w h6 e4.length e4) (w8 : e4.length ≤ h2) (w0 : Kd.C (Kd.int .u8) w h5 e3.length e3) (w6 : e3.length ≤ h1) (v9 : Kd.C k51 w h4 e2.length e2) (w5 : e2.length ≤ h0) (C5 : Kd.C (Kd.int .u8) w A1 l1.length l1) (C8 : l1.length ≤ c1) (h : scarfjointlaw18_StatisticOrder.f k e5 e4 e3 e2 l1 = some r) :
  Calls Tryz.prog 3 #[.agg #[.slice h7 e5.length h3, .slice h6 e4.length h2, .slice h5 e3.length h1, .slice h4 e2.length h0], .slice A1 l1.length c1] w fun e w' => e = .returned (.bool r) ∧ Below w.heap.size w w' := by
 have hu26 := Tryz.underlying26
 have hu31 := Tryz.underlying31
 have hu35 := Tryz.underlying35
 have hu43 := Tryz.underlying43
 have hu46 := Tryz.underlying46
 have A9 := Aside0.mk w3
 have C3 := Aside0.mk w9
 clear w3 w9
 have A8 := Aside0.mk w2
 have C2 := Aside0.mk w8
 clear w2 w8
 have A7 := Aside0.mk w0
 have C1 := Aside0.mk w6
 clear w0 w6
 have A6 := Aside0.mk v9
 have C0 := Aside0.mk w5
 clear v9 w5
 have v7 := Aside0.mk C5
 have v8 := Aside0.mk C8
 clear C5 C8
 have HB := Aside0.mk (Below.refl w.heap.size w)
 have H : ((scarfjointlaw18_awake.f k).bind fun o1 => (if o1 = true then (scarfjointlaw18_StatisticOrder.j0 k l1 (decide ((l1.length : Int) > 40)) e5 e4 e3 e2) else (scarfjointlaw18_StatisticOrder.j0 k l1 true e5 e4 e3 e2))) = some r := h
 clear h
 have y6 := Aside0.mk H
 clear H
 go_enter Tryz.func3, Tryz.ntmps3
 go_upto_region 1 with (first | ((with_reducible refine gate_dst (N := 2) rfl ?_); (try (refine gate_guard (by rfl) ?_; dsimp only)); refine be 2 #[.slice h7 e5.length h3, .slice h6 e4.length h2, .slice h5 e3.length h1, .slice h4 e2.length h0] 26 ?_; intro e1 hg w4 hbox hb; have a1 := Aside0.mk (hbox); have O8 := bsz HB hg; replace HB := bstep HB hb; clear hb hbox hg))
 (try simp only [Act.put, List.setIfInBounds_toArray, List.set_cons_zero, List.set_cons_succ])
 go_cut [19] (fun J6 wc => ∃ (kq : Nat) (n8 : Bool), J6 = .bool n8 ∧ Aside0 (scarfjointlaw18_StatisticOrder.j0 kq l1 n8 e5 e4 e3 e2 = some r) ∧ Aside0 (kq ≤ k) ∧ Aside0 (wc.heap[e1]? = some (.cells #[(.slice h7 e5.length h3), (.slice h6 e4.length h2), (.slice h5 e3.length h1), (.slice h4 e2.length h0)] 26 (0, 0))) ∧ Aside0 (Below w.heap.size w wc))
 case first =>
  have H := y6.out
  clear y6
  obtain ⟨o1, A5, H⟩ := obA H
  by_cases c6 : o1 = true
  subst c6
  replace H := ift H
  have H' := Aside0.mk H
  clear H
  rotate_left
  replace c6 := Bool.eq_false_iff.mpr c6
  subst c6
  replace H := iff_ H
  have H' := Aside0.mk H
  clear H
  all_goals
   go_wp2_with (first | ((with_reducible refine gate_callee (f := 10) rfl ?_); refine gl 13 Tryz.func10 #[] (h := ?_); (with_reducible refine (scarfjointlaw18_awake.calls _ _ _ A5.out).mono ?_); rintro e w7 ⟨rfl, hb⟩; refine ⟨_, rfl, ?_⟩; replace a1 := bkb a1 hb; replace HB := bstep HB hb; clear hb))
   go_meet
   case rel => exact ⟨_, _, eqs, H', ⟨by first | omega | exact Nat.le_refl _⟩, ⟨bk a1⟩, ⟨bb HB⟩⟩
 case rest =>
  clear y6
  obtain ⟨kq, n8, rfl, HA, Q8, a1, HB⟩ := hcut
  cases kq with
  | zero => exact absurd HA.out (by simp [scarfjointlaw18_StatisticOrder.j0])
  | succ Q7 =>
   have H := HA.out
   clear HA
   simp only [scarfjointlaw18_StatisticOrder.j0] at H
   by_cases c9 : n8 = true
   ·subst c9
    replace H := ift H
    obtain ⟨y0, L1, H⟩ := obA H
    obtain rfl := Option.some.inj H
    go_wp2_with (first | ((with_reducible refine gate_callee (f := 10) rfl ?_); refine gl 20 Tryz.func10 #[] (h := ?_); (with_reducible refine (scarfjointlaw18_awake.calls _ _ _ L1.out).mono ?_); rintro e Q6 ⟨rfl, hb⟩; refine ⟨_, rfl, ?_⟩; replace a1 := bkb a1 hb; replace HB := bstep HB hb; clear hb))
    go_ret
    exact ⟨by first | rfl | (simp <;> rfl) | (simp [*] <;> rfl), bb HB⟩
   replace c9 := Bool.eq_false_iff.mpr c9
   subst c9
   replace H := iff_ H
   obtain ⟨⟨c7, c0, b3, b4⟩, L0, H⟩ := obA H
   try dsimp only at H
   obtain ⟨g5, C9, H⟩ := obA H
   obtain ⟨g4, y7, H⟩ := obA H
   obtain ⟨⟨j4, j3, q3⟩, x3, H⟩ := obA H
   try dsimp only at H
   obtain ⟨⟨m5, m4, D4⟩, J9, H⟩ := obA H
   try dsimp only at H
   obtain ⟨⟨o0, n9, D3⟩, J8, H⟩ := obA H
   try dsimp only at H
   by_cases p9 : q3 = 0
   rotate_left
   ·rw [if_neg p9] at H
    have A4 := beq_eq_false_iff_ne.mpr p9
    have A3 := bne_iff_ne.mpr p9
    exact absurd (H.trans (congrArg some hr)) (by simp)
   rw [if_pos p9] at H
   have A4 := beq_iff_eq.mpr p9
   have A3 := bne_eq_false_iff_eq.mpr p9
   clear p9
   by_cases p8 : D4 = 0
   rotate_left
   ·rw [if_neg p8] at H
    have A2 := beq_eq_false_iff_ne.mpr p8
    have A0 := bne_iff_ne.mpr p8
    exact absurd (H.trans (congrArg some hr)) (by simp)
   rw [if_pos p8] at H
   have A2 := beq_iff_eq.mpr p8
   have A0 := bne_eq_false_iff_eq.mpr p8
   clear p8
   by_cases p7 : D3 = 0
   rotate_left
   ·rw [if_neg p7] at H
    have y9 := beq_eq_false_iff_ne.mpr p7
    have y8 := bne_iff_ne.mpr p7
    exact absurd (H.trans (congrArg some hr)) (by simp)
   rw [if_pos p7] at H
   have y9 := beq_iff_eq.mpr p7
   have y8 := bne_eq_false_iff_eq.mpr p7
   clear p7
   obtain ⟨x9, J7, H⟩ := obA H
   obtain rfl := Option.some.inj H
   obtain ⟨J0, I9, I8, I7, G8, G7, G6, G5⟩ := cz4 a1
   try go_wp2_with (first | ((with_reducible refine gate_callee (f := 11) rfl ?_); refine gl 23 Tryz.func11 #[.agg #[.slice h7 e5.length h3, .slice h6 e4.length h2, .slice h5 e3.length h1, .slice h4 e2.length h0]] (h := ?_); (with_reducible refine (scarfjointlaw18_made.calls _ _ _ _ _ _ _ _ _ _ _ _ _ _ _ _ _ _ (cb A9 HB) C3.out (cb A8 HB) C2.out (cb A7 HB) C1.out (cb A6 HB) C0.out L0.out).mono ?_); rintro e Q5 ⟨P5, D2, D1, D0, rfl, b2, e0, C7, C6, hb⟩; refine ⟨_, rfl, ?_⟩; have a6 := Aside0.mk (Kd.N_lower (Kd.N_mono (ok' := fun k_ => some k_ ≠ (D2 : Value).ownBlock ∧ some k_ ≠ (D1 : Value).ownBlock ∧ some k_ ≠ (D0 : Value).ownBlock ∧ k_ ≠ e1) b2 (fun k_ hk_ => ⟨hk_.2.1, hk_.2.2.1, hk_.2.2.2, (Kd.freshB (g := e1) (o := .cells #[.slice h7 e5.length h3, .slice h6 e4.length h2, .slice h5 e3.length h1, .slice h4 e2.length h0] 26 (0, 0)) (bk a1) k_ hk_.1)⟩)) (below_size (bb HB))); have a5 := Aside0.mk (Kd.R_lower (Kd.R_mono (ok' := fun k_ => True) e0 (fun _ hk_ => trivial)) (below_size (bb HB))); have a2 := Aside0.mk (Kd.R_lower (Kd.R_mono (ok' := fun k_ => True) C7 (fun _ hk_ => trivial)) (below_size (bb HB))); have a4 := Aside0.mk (Kd.R_lower (Kd.R_mono (ok' := fun k_ => True) C6 (fun _ hk_ => trivial)) (below_size (bb HB))); replace a1 := bkb a1 hb; replace HB := bstep HB hb; clear hb b2 e0 C7 C6) | ((with_reducible refine gate_dst (N := 5) rfl ?_); (try (refine gate_guard (by rfl) ?_; dsimp only)); refine be 5 #[.slice none 0 0, .slice none 0 0] 31 ?_; intro b1 hg Q4 hbox hb; replace a6 := Aside0.mk (Kd.N_below (Kd.N_elderB (kN a6) b1 (Nat.le_of_eq hg.symm)) hb); replace a5 := kRb a5 hb; replace a2 := kRb a2 hb; replace a4 := kRb a4 hb; have a3 := Aside0.mk (hbox); have O7 := bsz HB hg; replace HB := bstep HB hb; have v6 := blt a1 hg; have v2 := bgt a1 hg; replace a1 := bkb a1 hb; clear hb hbox hg) | ((with_reducible refine gate_dst (N := 6) rfl ?_); (try (refine gate_guard (by rfl) ?_; dsimp only)); refine be 6 #[.slice none 0 0, .slice none 0 0] 35 ?_; intro a8 hg m2 hbox hb; replace a6 := Aside0.mk (Kd.N_below (Kd.N_elderB (kN a6) a8 (Nat.le_of_eq hg.symm)) hb); replace a5 := kRb a5 hb; replace a2 := kRb a2 hb; replace a4 := kRb a4 hb; have a0 := Aside0.mk (hbox); have O6 := bsz HB hg; replace HB := bstep HB hb; have v5 := blt a1 hg; have t8 := bgt a1 hg; replace a1 := bkb a1 hb; have v1 := blt a3 hg; have t7 := bgt a3 hg; replace a3 := bkb a3 hb; clear hb hbox hg; obtain ⟨d9, d8, eo26⟩ := Kd.N_slice a6.out; subst eo26; have O1 := v2.out; have M6 := v6.out; have O0 := v1.out; have M5 := t7.out; obtain ⟨I6, I5, G4, G3⟩ := cz2 a3; obtain ⟨c8, c3, eo30⟩ := Kd.R_slice a5.out; subst eo30; obtain ⟨b6, b5, eo31⟩ := Kd.R_slice a2.out; subst eo31; have N9 := t8.out; have M4 := v5.out; obtain ⟨I4, I3, G2, G1⟩ := cz2 a0; obtain ⟨b9, b7, eo34⟩ := Kd.R_slice a4.out; subst eo34))
   have n7 : Aside0 (Kd.N k96 96 ((((m2.setCell ⟨b1, 0, none⟩ (.slice d9 c7.length d8)).setCell ⟨b1, 1, none⟩ (.slice c8 c0.length c3)).setCell ⟨a8, 0, none⟩ (.slice b6 b3.length b5)).setCell ⟨a8, 1, none⟩ (.slice b9 b4.length b7)) w.heap.size (fun k_ => some k_ ≠ (.slice c8 c0.length c3 : Value).ownBlock ∧ some k_ ≠ (.slice b6 b3.length b5 : Value).ownBlock ∧ some k_ ≠ (.slice b9 b4.length b7 : Value).ownBlock ∧ k_ ≠ e1 ∧ k_ ≠ b1 ∧ k_ ≠ a8) (.slice d9 c7.length d8) c7) := ⟨by (with_reducible repeat (first | apply Kd.N_alloc | apply Kd.N_drewN | apply Kd.N_drew)); exact Kd.N_mono (Kd.N_far (p := ⟨a8, 1, none⟩) (Kd.N_far (p := ⟨a8, 0, none⟩) (Kd.N_far (p := ⟨b1, 1, none⟩) (Kd.N_far (p := ⟨b1, 0, none⟩) (Kd.N_mono (Kd.N_mono a6.out (fun k_ hk => (⟨hk, hk.1.2⟩ : _ ∧ k_ ≠ b1))) (fun k_ hk => (⟨hk, hk.1.2⟩ : _ ∧ k_ ≠ a8))) (fun _ hk => hk.1.2) (.slice d9 c7.length d8)) (fun _ hk => hk.1.2) (.slice c8 c0.length c3)) (fun _ hk => hk.2) (.slice b6 b3.length b5)) (fun _ hk => hk.2) (.slice b9 b4.length b7)) (fun _ hk => ⟨hk.1.1.1.1.1, ⟨hk.1.1.1.1.2.1, ⟨hk.1.1.1.1.2.2.1, ⟨hk.1.1.1.1.2.2.2, ⟨hk.1.1.1.2, hk.1.1.2⟩⟩⟩⟩⟩)⟩
   have n6 : Aside0 (Kd.R k101 101 ((((m2.setCell ⟨b1, 0, none⟩ (.slice d9 c7.length d8)).setCell ⟨b1, 1, none⟩ (.slice c8 c0.length c3)).setCell ⟨a8, 0, none⟩ (.slice b6 b3.length b5)).setCell ⟨a8, 1, none⟩ (.slice b9 b4.length b7)) w.heap.size (fun _ => True) (.slice c8 c0.length c3) c0) := ⟨by (with_reducible repeat (first | apply Kd.R_alloc | apply Kd.R_drewN | apply Kd.R_drew)); exact Kd.R_mono (Kd.R_far (p := ⟨a8, 1, none⟩) (Kd.R_far (p := ⟨a8, 0, none⟩) (Kd.R_far (p := ⟨b1, 1, none⟩) (Kd.R_far (p := ⟨b1, 0, none⟩) (Kd.R_types (Kd.R_types a5.out a3.out (by decide)) a0.out (by decide)) (fun _ hk => hk.1.2) (.slice d9 c7.length d8)) (fun _ hk => hk.1.2) (.slice c8 c0.length c3)) (fun _ hk => hk.2) (.slice b6 b3.length b5)) (fun _ hk => hk.2) (.slice b9 b4.length b7)) (fun _ hk => trivial)⟩
   have n5 : Aside0 (Kd.R (Kd.int .i64) 3 ((((m2.setCell ⟨b1, 0, none⟩ (.slice d9 c7.length d8)).setCell ⟨b1, 1, none⟩ (.slice c8 c0.length c3)).setCell ⟨a8, 0, none⟩ (.slice b6 b3.length b5)).setCell ⟨a8, 1, none⟩ (.slice b9 b4.length b7)) w.heap.size (fun _ => True) (.slice b6 b3.length b5) b3) := ⟨by (with_reducible repeat (first | apply Kd.R_alloc | apply Kd.R_drewN | apply Kd.R_drew)); exact Kd.R_mono (Kd.R_far (p := ⟨a8, 1, none⟩) (Kd.R_far (p := ⟨a8, 0, none⟩) (Kd.R_far (p := ⟨b1, 1, none⟩) (Kd.R_far (p := ⟨b1, 0, none⟩) (Kd.R_types (Kd.R_types a2.out a3.out (by decide)) a0.out (by decide)) (fun _ hk => hk.1.2) (.slice d9 c7.length d8)) (fun _ hk => hk.1.2) (.slice c8 c0.length c3)) (fun _ hk => hk.2) (.slice b6 b3.length b5)) (fun _ hk => hk.2) (.slice b9 b4.length b7)) (fun _ hk => trivial)⟩
   have n4 : Aside0 (Kd.R k56 56 ((((m2.setCell ⟨b1, 0, none⟩ (.slice d9 c7.length d8)).setCell ⟨b1, 1, none⟩ (.slice c8 c0.length c3)).setCell ⟨a8, 0, none⟩ (.slice b6 b3.length b5)).setCell ⟨a8, 1, none⟩ (.slice b9 b4.length b7)) w.heap.size (fun _ => True) (.slice b9 b4.length b7) b4) := ⟨by (with_reducible repeat (first | apply Kd.R_alloc | apply Kd.R_drewN | apply Kd.R_drew)); exact Kd.R_mono (Kd.R_far (p := ⟨a8, 1, none⟩) (Kd.R_far (p := ⟨a8, 0, none⟩) (Kd.R_far (p := ⟨b1, 1, none⟩) (Kd.R_far (p := ⟨b1, 0, none⟩) (Kd.R_types (Kd.R_types a4.out a3.out (by decide)) a0.out (by decide)) (fun _ hk => hk.1.2) (.slice d9 c7.length d8)) (fun _ hk => hk.1.2) (.slice c8 c0.length c3)) (fun _ hk => hk.2) (.slice b6 b3.length b5)) (fun _ hk => hk.2) (.slice b9 b4.length b7)) (fun _ hk => trivial)⟩
   have n3 : Aside0 (((((m2.setCell ⟨b1, 0, none⟩ (.slice d9 c7.length d8)).setCell ⟨b1, 1, none⟩ (.slice c8 c0.length c3)).setCell ⟨a8, 0, none⟩ (.slice b6 b3.length b5)).setCell ⟨a8, 1, none⟩ (.slice b9 b4.length b7)).heap[e1]? = some (.cells #[.slice h7 e5.length h3, .slice h6 e4.length h2, .slice h5 e3.length h1, .slice h4 e2.length h0] 26 (0, 0))) := ⟨bkF a1⟩
   have n2 : Aside0 (((((m2.setCell ⟨b1, 0, none⟩ (.slice d9 c7.length d8)).setCell ⟨b1, 1, none⟩ (.slice c8 c0.length c3)).setCell ⟨a8, 0, none⟩ (.slice b6 b3.length b5)).setCell ⟨a8, 1, none⟩ (.slice b9 b4.length b7)).heap[b1]? = some (.cells #[.slice d9 c7.length d8, .slice c8 c0.length c3] 31 (0, 0))) := ⟨bkP a3⟩
   have n1 : Aside0 (((((m2.setCell ⟨b1, 0, none⟩ (.slice d9 c7.length d8)).setCell ⟨b1, 1, none⟩ (.slice c8 c0.length c3)).setCell ⟨a8, 0, none⟩ (.slice b6 b3.length b5)).setCell ⟨a8, 1, none⟩ (.slice b9 b4.length b7)).heap[a8]? = some (.cells #[.slice b6 b3.length b5, .slice b9 b4.length b7] 35 (0, 0))) := ⟨bkP a0⟩
   have n0 : Aside0 (Below w.heap.size w ((((m2.setCell ⟨b1, 0, none⟩ (.slice d9 c7.length d8)).setCell ⟨b1, 1, none⟩ (.slice c8 c0.length c3)).setCell ⟨a8, 0, none⟩ (.slice b6 b3.length b5)).setCell ⟨a8, 1, none⟩ (.slice b9 b4.length b7))) := ⟨bb HB⟩
   (try clear a6)
   (try clear a5)
   (try clear a2)
   (try clear a4)
   (try clear a1)
   (try clear a3)
   (try clear a0)
   (try clear HB)
   generalize ((((m2.setCell ⟨b1, 0, none⟩ (.slice d9 c7.length d8)).setCell ⟨b1, 1, none⟩ (.slice c8 c0.length c3)).setCell ⟨a8, 0, none⟩ (.slice b6 b3.length b5)).setCell ⟨a8, 1, none⟩ (.slice b9 b4.length b7)) = J5 at n7 n6 n5 n4 n3 n2 n1 n0 ⊢
   have a6 := n7
   have a5 := n6
   have a2 := n5
   have a4 := n4
   have a1 := n3
   have a3 := n2
   have a0 := n1
   have HB := n0
   clear n7 n6 n5 n4 n3 n2 n1 n0
   replace a6 := Aside0.mk (Kd.N_drew a6.out)
   replace a5 := Aside0.mk (Kd.R_drew a5.out)
   replace a2 := Aside0.mk (Kd.R_drew a2.out)
   replace a4 := Aside0.mk (Kd.R_drew a4.out)
   replace a1 := Aside0.mk (blk_drew a1.out)
   replace a3 := Aside0.mk (blk_drew a3.out)
   replace a0 := Aside0.mk (blk_drew a0.out)
   replace HB := Aside0.mk (below_drew1 HB.out)
   refine start_ (n := 19) (S := fun w' => w'.cell? ⟨a8, 0, none⟩ = some (.slice b6 b3.length b5) ∧ w'.cell? ⟨a8, 1, none⟩ = some (.slice b9 b4.length b7)) (ds := []) #[false, false, false, false, false, false, false, false, false, false, false, false, false, false, false, false, false, false, false] (by kernel_rfl) rfl rfl ⟨bc a0 0, bc a0 1⟩ (fun hHeld => ?_); refine with_tabW scarfjointlaw18_StatisticOrder.tab4 scarfjointlaw18_StatisticOrder.bits4 (fun HT_ HW_ => ?_)
   generalize J5.drew = Q3 at a6 a5 a2 a4 a1 a3 a0 HB hHeld ⊢
   refine pu 1 28 (bits 19 0x2) HT_ (h := ?_)
   refine pu 4 31 (bits 19 0x12) HT_ (h := ?_)
   refine pu 6 33 (bits 19 0x52) HT_ (h := ?_)
   refine pu 9 36 (bits 19 0x252) HT_ (h := ?_)
   refine tk 0 27 (bits 19 0x253) HT_ HW_ hHeld (hy := by rintro w' ⟨s0, s1⟩; go_simp; with_reducible rfl) (h := ?_)
   refine tk 2 29 (bits 19 0x257) HT_ HW_ hHeld (hy := by rintro w' ⟨s0, s1⟩; go_simp; with_reducible rfl) (h := ?_)
   refine pu 3 30 (bits 19 0x25f) HT_ (h := ?_)
   refine tk 7 34 (bits 19 0x2df) HT_ HW_ hHeld (hy := by rintro w' ⟨s0, s1⟩; go_simp; with_reducible rfl) (h := ?_)
   refine pu 8 35 (bits 19 0x3df) HT_ (h := ?_)
   refine join_ (σ := Value × Value × Value × Value × Nat) 2 #[true, true, true, true, true, true, true, true, true, true, true, true, true, true, true, true, true, false, false] (fun s_ => [(32, s_.1), (37, s_.2.1), (39, .tuple #[.agg #[s_.2.2.1, s_.2.2.2.1], .int .i64 q3]), (7, .pointer (some ⟨s_.2.2.2.2, 0, none⟩)), (38, .agg #[s_.1, s_.2.1]), (26, .tuple #[.agg #[s_.2.2.1, s_.2.2.2.1], .int .i64 q3]), (40, .agg #[s_.2.2.1, s_.2.2.2.1]), (41, .int .i64 q3)]) (fun s_ w' => (w'.cell? ⟨a8, 0, none⟩ = some (.slice b6 b3.length b5) ∧ w'.cell? ⟨a8, 1, none⟩ = some (.slice b9 b4.length b7)) ∧ (Kd.N k96 96 w' w.heap.size (fun k_ => some k_ ≠ (.slice c8 c0.length c3 : Value).ownBlock ∧ some k_ ≠ (.slice b6 b3.length b5 : Value).ownBlock ∧ some k_ ≠ (.slice b9 b4.length b7 : Value).ownBlock ∧ some k_ ≠ (s_.1 : Value).ownBlock ∧ some k_ ≠ (s_.2.1 : Value).ownBlock ∧ some k_ ≠ (s_.2.2.1 : Value).ownBlock ∧ some k_ ≠ (s_.2.2.2.1 : Value).ownBlock ∧ k_ ≠ e1 ∧ k_ ≠ b1 ∧ k_ ≠ a8 ∧ k_ ≠ s_.2.2.2.2) (.slice d9 c7.length d8) c7) ∧ (Kd.R k101 101 w' w.heap.size (fun _ => True) (.slice c8 c0.length c3) c0) ∧ (Kd.R (Kd.int .i64) 3 w' w.heap.size (fun k_ => some k_ ≠ (s_.1 : Value).ownBlock ∧ some k_ ≠ (s_.2.1 : Value).ownBlock ∧ some k_ ≠ (s_.2.2.1 : Value).ownBlock) (.slice b6 b3.length b5) b3) ∧ (Kd.R k56 56 w' w.heap.size (fun k_ => some k_ ≠ (s_.2.2.2.1 : Value).ownBlock) (.slice b9 b4.length b7) b4) ∧ (Kd.R (Kd.int .i64) 3 w' w.heap.size (fun k_ => some k_ ≠ (.slice b6 b3.length b5 : Value).ownBlock ∧ some k_ ≠ (s_.2.1 : Value).ownBlock ∧ some k_ ≠ (s_.2.2.1 : Value).ownBlock) s_.1 g5) ∧ (Kd.R (Kd.int .i64) 3 w' w.heap.size (fun k_ => some k_ ≠ (.slice b6 b3.length b5 : Value).ownBlock ∧ some k_ ≠ (s_.1 : Value).ownBlock ∧ some k_ ≠ (s_.2.2.1 : Value).ownBlock) s_.2.1 g4) ∧ (Kd.R (Kd.int .i64) 3 w' w.heap.size (fun k_ => some k_ ≠ (.slice b6 b3.length b5 : Value).ownBlock ∧ some k_ ≠ (s_.1 : Value).ownBlock ∧ some k_ ≠ (s_.2.1 : Value).ownBlock) s_.2.2.1 j4) ∧ (Kd.R k56 56 w' w.heap.size (fun k_ => some k_ ≠ (.slice b9 b4.length b7 : Value).ownBlock) s_.2.2.2.1 j3) ∧ (w'.heap[e1]? = some (.cells #[.slice h7 e5.length h3, .slice h6 e4.length h2, .slice h5 e3.length h1, .slice h4 e2.length h0] 26 (0, 0))) ∧ (w'.heap[b1]? = some (.cells #[.slice d9 c7.length d8, .slice c8 c0.length c3] 31 (0, 0))) ∧ (w'.heap[a8]? = some (.cells #[.slice b6 b3.length b5, .slice b9 b4.length b7] 35 (0, 0))) ∧ (w'.heap[s_.2.2.2.2]? = some (.cells #[.slice none 0 0, .slice none 0 0] 35 (0, 0))) ∧ (w.heap.size ≤ s_.2.2.2.2) ∧ (w.heap.size ≤ s_.2.2.2.2) ∧ (e1 ≠ s_.2.2.2.2) ∧ (s_.2.2.2.2 ≠ e1) ∧ (b1 ≠ s_.2.2.2.2) ∧ (s_.2.2.2.2 ≠ b1) ∧ (a8 ≠ s_.2.2.2.2) ∧ (s_.2.2.2.2 ≠ a8) ∧ (Below w.heap.size w w')) ?_ ?_
   rotate_left
   ·intro hCont
    refine two_ (i := 5) (j := 16) (Ni := some 32) (Nj := some 7) #[true, true, true, true, true, true, true, true, true, true, false, false, false, false, false, false, false, false, false] #[true, true, true, true, true, false, true, true, true, true, false, false, false, false, false, false, true, false, false] rfl rfl rfl rfl (two_of HT_.out (by kernel_rfl)) (by decide) (by decide) (fun K hK => ?_) (fun K hK => ?_)
    ·skip
     refine goes_ Tryz.func13 (by kernel_rfl) rfl #[.int .i64 (b3.length : Int), .slice A1 l1.length c1] (by rfl) rfl rfl (by (try simp only [List.map_toArray, List.map_cons, List.map_nil]); first | done | rfl | (simp only [List.length_drop, List.length_take]; rfl)) ?_
     with_reducible refine (q5_Shuffle.calls _ _ _ _ _ _ _ ?c5 ?c4 C9.out).mono ?_
     (case c5 => exact cb v7 HB)
     (case c4 => exact v8.out)
     rintro e J4 ⟨j9, rfl, b2, hb⟩
     refine ⟨_, rfl, ?_⟩
     replace a6 := Aside0.mk (Kd.N_elder' (kN a6) (Kd.R_base b2) hb)
     replace a5 := kRb a5 hb
     replace a4 := kRb a4 hb
     have a7 := Aside0.mk (Kd.R_lower (Kd.R_new' b2 (Kd.R_lt (kR a2))) (below_size (bb HB)))
     replace a2 := Aside0.mk (Kd.R_elder' (kR a2) (Kd.R_base b2) hb)
     replace a1 := bkb a1 hb
     replace a3 := bkb a3 hb
     replace a0 := bkb a0 hb
     replace HB := bstep HB hb
     (try clear hb)
     (try clear hb2)
     (try clear hk)
     (try clear hi)
     (try clear b2)
     refine hK.out _ _ ⟨bc a0 0, bc a0 1⟩ (fun hHeld => ?_)
     clear hK K
     refine norm_ (a' := ?_) ?_ ?_
     rotate_left
     ·show Act.put _ (some 32) _ = _
      simp only [Act.put, List.setIfInBounds_toArray, List.set_cons_zero, List.set_cons_succ, i64_w, i32_w]
      rfl
     refine two_ (i := 10) (j := 16) (Ni := some 37) (Nj := some 7) #[true, true, true, true, true, true, true, true, true, true, true, false, false, false, false, false, false, false, false] #[true, true, true, true, true, true, true, true, true, true, false, false, false, false, false, false, true, false, false] rfl rfl rfl rfl (two_of HT_.out (by kernel_rfl)) (by decide) (by decide) (fun K hK => ?_) (fun K hK => ?_)
     ·skip
      refine goes_ Tryz.func13 (by kernel_rfl) rfl #[.int .i64 (b4.length : Int), .slice A1 l1.length c1] (by rfl) rfl rfl (by (try simp only [List.map_toArray, List.map_cons, List.map_nil]); first | done | rfl | (simp only [List.length_drop, List.length_take]; rfl)) ?_
      with_reducible refine (q5_Shuffle.calls _ _ _ _ _ _ _ ?c5 ?c4 y7.out).mono ?_
      (case c5 => exact cb v7 HB)
      (case c4 => exact v8.out)
      rintro e C4 ⟨j6, rfl, b2, hb⟩
      refine ⟨_, rfl, ?_⟩
      replace a6 := Aside0.mk (Kd.N_elder' (kN a6) (Kd.R_base b2) hb)
      replace a5 := kRb a5 hb
      replace a4 := kRb a4 hb
      have b0 := Aside0.mk (Kd.R_lower (Kd.R_new' (Kd.R_new' b2 (Kd.R_lt (kR a2))) (Kd.R_lt (kR a7))) (below_size (bb HB)))
      replace a2 := Aside0.mk (Kd.R_elder' (kR a2) (Kd.R_base b2) hb)
      replace a7 := Aside0.mk (Kd.R_elder' (kR a7) (Kd.R_base b2) hb)
      replace a1 := bkb a1 hb
      replace a3 := bkb a3 hb
      replace a0 := bkb a0 hb
      replace HB := bstep HB hb
      (try clear hb)
      (try clear hb2)
      (try clear hk)
      (try clear hi)
      (try clear b2)
      obtain ⟨r8, r0, eo39⟩ := Kd.R_slice b0.out
      (first | subst eo39 | (injection eo39 with f1_ f2_ f3_; have f4_ := f1_.symm; have f5_ := f3_.symm; clear f1_ f2_ f3_; subst f4_; subst f5_))
      obtain ⟨j2, j1, eo40⟩ := Kd.R_slice a7.out
      (first | subst eo40 | (injection eo40 with f1_ f2_ f3_; have f4_ := f1_.symm; have f5_ := f3_.symm; clear f1_ f2_ f3_; subst f4_; subst f5_))
      refine hK.out _ _ ⟨bc a0 0, bc a0 1⟩ (fun hHeld => ?_)
      clear hK K
      refine norm_ (a' := ?_) ?_ ?_
      rotate_left
      ·show Act.put _ (some 37) _ = _
       simp only [Act.put, List.setIfInBounds_toArray, List.set_cons_zero, List.set_cons_succ, i64_w, i32_w]
       rfl
      refine pu 11 38 (bits 19 0xfff) HT_ (h := ?_)
      refine two_ (i := 12) (j := 16) (Ni := some 39) (Nj := some 7) #[true, true, true, true, true, true, true, true, true, true, true, true, true, false, false, false, false, false, false] #[true, true, true, true, true, true, true, true, true, true, true, true, false, false, false, false, true, false, false] rfl rfl rfl rfl (two_of HT_.out (by kernel_rfl)) (by decide) (by decide) (fun K hK => ?_) (fun K hK => ?_)
      ·skip
       refine goes_ Tryz.func12 (by kernel_rfl) rfl #[.agg #[.slice b6 b3.length b5, .slice b9 b4.length b7], .agg #[.slice j2 g5.length j1, .slice r8 g4.length r0]] (by rfl) rfl rfl (by (try simp only [List.map_toArray, List.map_cons, List.map_nil]); first | done | rfl | (simp only [List.length_drop, List.length_take]; rfl)) ?_
       with_reducible refine (graph_Reorder.calls _ _ _ _ _ _ _ _ _ _ _ _ _ _ _ _ _ ?c5 ?c4 ?g1 ?g0 ?e9 ?e8 ?e7 ?e6 x3.out).mono ?_
       (case c5 => repeat (first | exact (Kd.R_reads' a2.out).2.2 | (with_reducible refine Kd.C_alloc ?_ _) | (with_reducible refine Kd.C_drewN ?_ _) | (with_reducible refine Kd.C_drew ?_)))
       (case c4 => exact (Kd.R_reads' a2.out).2.1)
       (case g1 => repeat (first | exact (Kd.R_reads' a4.out).2.2 | (with_reducible refine Kd.C_alloc ?_ _) | (with_reducible refine Kd.C_drewN ?_ _) | (with_reducible refine Kd.C_drew ?_)))
       (case g0 => exact (Kd.R_reads' a4.out).2.1)
       (case e9 => repeat (first | exact (Kd.R_reads' a7.out).2.2 | (with_reducible refine Kd.C_alloc ?_ _) | (with_reducible refine Kd.C_drewN ?_ _) | (with_reducible refine Kd.C_drew ?_)))
       (case e8 => exact (Kd.R_reads' a7.out).2.1)
       (case e7 => repeat (first | exact (Kd.R_reads' b0.out).2.2 | (with_reducible refine Kd.C_alloc ?_ _) | (with_reducible refine Kd.C_drewN ?_ _) | (with_reducible refine Kd.C_drew ?_)))
       (case e6 => exact (Kd.R_reads' b0.out).2.1)
       rintro e J2 ⟨g6, g9, rfl, b2, e0, hb⟩
       refine ⟨_, rfl, ?_⟩
       replace a6 := Aside0.mk (Kd.N_mono (Kd.N_told (Kd.N_told (Kd.N_old (kN a6) hb) (Kd.R_base b2)) (Kd.R_base e0)) (fun _ h_ => h_.1))
       replace a5 := kRb a5 hb
       have d1 := Aside0.mk (Kd.R_lower (Kd.R_new' (Kd.R_new' (Kd.R_new' b2 (Kd.R_lt (kR a2))) (Kd.R_lt (kR a7))) (Kd.R_lt (kR b0))) (below_size (bb HB)))
       replace a2 := Aside0.mk (Kd.R_elder' (kR a2) (Kd.R_base b2) hb)
       replace a7 := Aside0.mk (Kd.R_elder' (kR a7) (Kd.R_base b2) hb)
       replace b0 := Aside0.mk (Kd.R_elder' (kR b0) (Kd.R_base b2) hb)
       have d0 := Aside0.mk (Kd.R_lower (Kd.R_new' e0 (Kd.R_lt (kR a4))) (below_size (bb HB)))
       replace a4 := Aside0.mk (Kd.R_elder' (kR a4) (Kd.R_base e0) hb)
       replace a1 := bkb a1 hb
       replace a3 := bkb a3 hb
       replace a0 := bkb a0 hb
       replace HB := bstep HB hb
       (try clear hb)
       (try clear hb2)
       (try clear hk)
       (try clear hi)
       (try clear b2)
       (try clear e0)
       refine hK.out _ _ ⟨bc a0 0, bc a0 1⟩ (fun hHeld => ?_)
       clear hK K
       refine norm_ (a' := ?_) ?_ ?_
       rotate_left
       ·show Act.put _ (some 39) _ = _
        simp only [Act.put, List.setIfInBounds_toArray, List.set_cons_zero, List.set_cons_succ, i64_w, i32_w]
        rfl
       refine pu 13 26 (bits 19 0x3fff) HT_ (h := ?_)
       refine pu 14 40 (bits 19 0x7fff) HT_ (h := ?_)
       refine pu 15 41 (bits 19 0xffff) HT_ (h := ?_)
       refine one_ (i := 16) (N := some 7) #[true, true, true, true, true, true, true, true, true, true, true, true, true, true, true, true, true, false, false] rfl rfl (one_of HT_.out (by kernel_rfl)) (by decide) (fun K hK => ?_)
       refine box_step ?hg (N := 7) ?hd (cs := #[.slice none 0 0, .slice none 0 0]) (t := 35) ?hr ?_; (case hd => rfl); (case hg => rfl); (case hr => first | (go_simp; done) | (go_simp; rfl))
       intro b8 hg x8 hbox hb
       replace a6 := Aside0.mk (Kd.N_below (Kd.N_elderB (kN a6) b8 (Nat.le_of_eq hg.symm)) hb)
       replace a5 := kRb a5 hb
       replace a2 := kRb a2 hb
       replace a4 := kRb a4 hb
       replace a7 := kRb a7 hb
       replace b0 := kRb b0 hb
       replace d1 := kRb d1 hb
       replace d0 := kRb d0 hb
       have a9 := Aside0.mk (hbox)
       have h8 := bsz HB hg
       have h9 := bsz HB hg
       replace HB := bstep HB hb
       have d7 := blt a1 hg
       have d4 := bgt a1 hg
       replace a1 := bkb a1 hb
       have d6 := blt a3 hg
       have d3 := bgt a3 hg
       replace a3 := bkb a3 hb
       have d5 := blt a0 hg
       have d2 := bgt a0 hg
       replace a0 := bkb a0 hb
       clear hb hbox hg
       refine hK.out _ _ ⟨bc a0 0, bc a0 1⟩ (fun hHeld => ?_)
       clear hK K
       refine norm_ (a' := ?_) ?_ ?_
       rotate_left
       ·show Act.put _ (some 7) _ = _
        simp only [Act.put, List.setIfInBounds_toArray, List.set_cons_zero, List.set_cons_succ, i64_w, i32_w]
        rfl
       exact norm_ (by simp only [putAll, Act.put, List.setIfInBounds_toArray, List.set_cons_zero, List.set_cons_succ]) (hCont (.slice j2 g5.length j1, .slice r8 g4.length r0, g6, g9, b8) _ ⟨hHeld, (kNmm a6 (fun _ hk => ⟨hk.1.1.1.1.1.1, ⟨hk.1.1.1.1.1.2.1, ⟨hk.1.1.1.1.1.2.2.1, ⟨hk.1.1.1.1.2, ⟨hk.1.1.1.2, ⟨hk.1.1.2, ⟨hk.1.2, ⟨hk.1.1.1.1.1.2.2.2.1, ⟨hk.1.1.1.1.1.2.2.2.2.1, ⟨hk.1.1.1.1.1.2.2.2.2.2, hk.2⟩⟩⟩⟩⟩⟩⟩⟩⟩⟩)), (kR a5), (kmm a2 (fun _ hk => ⟨hk.1.1.2, ⟨hk.1.2, hk.2⟩⟩)), (kmm a4 (fun _ hk => hk.2)), (kmm a7 (fun _ hk => ⟨hk.1.1.2, ⟨hk.1.2, hk.2⟩⟩)), (kmm b0 (fun _ hk => ⟨hk.1.1.2, ⟨hk.1.2, hk.2⟩⟩)), (kmm d1 (fun _ hk => ⟨hk.1.1.2, ⟨hk.1.2, hk.2⟩⟩)), (kmm d0 (fun _ hk => hk.2)), (bk a1), (bk a3), (bk a0), (bk a9), h8.out, h9.out, d7.out, d4.out, d6.out, d3.out, d5.out, d2.out, (bb HB)⟩)
      ·skip
       refine box_step ?hg (N := 7) ?hd (cs := #[.slice none 0 0, .slice none 0 0]) (t := 35) ?hr ?_; (case hd => rfl); (case hg => rfl); (case hr => first | (go_simp; done) | (go_simp; rfl))
       intro b8 hg J2 hbox hb
       replace a6 := Aside0.mk (Kd.N_below (Kd.N_elderB (kN a6) b8 (Nat.le_of_eq hg.symm)) hb)
       replace a5 := kRb a5 hb
       replace a2 := kRb a2 hb
       replace a4 := kRb a4 hb
       replace a7 := kRb a7 hb
       replace b0 := kRb b0 hb
       have a9 := Aside0.mk (hbox)
       have h8 := bsz HB hg
       have h9 := bsz HB hg
       replace HB := bstep HB hb
       have d7 := blt a1 hg
       have d4 := bgt a1 hg
       replace a1 := bkb a1 hb
       have d6 := blt a3 hg
       have d3 := bgt a3 hg
       replace a3 := bkb a3 hb
       have d5 := blt a0 hg
       have d2 := bgt a0 hg
       replace a0 := bkb a0 hb
       clear hb hbox hg
       refine hK.out _ _ ⟨bc a0 0, bc a0 1⟩ (fun hHeld => ?_)
       clear hK K
       refine norm_ (a' := ?_) ?_ ?_
       rotate_left
       ·show Act.put _ (some 7) _ = _
        simp only [Act.put, List.setIfInBounds_toArray, List.set_cons_zero, List.set_cons_succ, i64_w, i32_w]
        rfl
       refine one_ (i := 12) (N := some 39) #[true, true, true, true, true, true, true, true, true, true, true, true, true, false, false, false, true, false, false] rfl rfl (one_of HT_.out (by kernel_rfl)) (by decide) (fun K hK => ?_)
       refine goes_ Tryz.func12 (by kernel_rfl) rfl #[.agg #[.slice b6 b3.length b5, .slice b9 b4.length b7], .agg #[.slice j2 g5.length j1, .slice r8 g4.length r0]] (by rfl) rfl rfl (by (try simp only [List.map_toArray, List.map_cons, List.map_nil]); first | done | rfl | (simp only [List.length_drop, List.length_take]; rfl)) ?_
       with_reducible refine (graph_Reorder.calls _ _ _ _ _ _ _ _ _ _ _ _ _ _ _ _ _ ?c5 ?c4 ?g1 ?g0 ?e9 ?e8 ?e7 ?e6 x3.out).mono ?_
       (case c5 => repeat (first | exact (Kd.R_reads' a2.out).2.2 | (with_reducible refine Kd.C_alloc ?_ _) | (with_reducible refine Kd.C_drewN ?_ _) | (with_reducible refine Kd.C_drew ?_)))
       (case c4 => exact (Kd.R_reads' a2.out).2.1)
       (case g1 => repeat (first | exact (Kd.R_reads' a4.out).2.2 | (with_reducible refine Kd.C_alloc ?_ _) | (with_reducible refine Kd.C_drewN ?_ _) | (with_reducible refine Kd.C_drew ?_)))
       (case g0 => exact (Kd.R_reads' a4.out).2.1)
       (case e9 => repeat (first | exact (Kd.R_reads' a7.out).2.2 | (with_reducible refine Kd.C_alloc ?_ _) | (with_reducible refine Kd.C_drewN ?_ _) | (with_reducible refine Kd.C_drew ?_)))
       (case e8 => exact (Kd.R_reads' a7.out).2.1)
       (case e7 => repeat (first | exact (Kd.R_reads' b0.out).2.2 | (with_reducible refine Kd.C_alloc ?_ _) | (with_reducible refine Kd.C_drewN ?_ _) | (with_reducible refine Kd.C_drew ?_)))
       (case e6 => exact (Kd.R_reads' b0.out).2.1)
       rintro e x8 ⟨g6, g9, rfl, b2, e0, hb⟩
       refine ⟨_, rfl, ?_⟩
       replace a6 := Aside0.mk (Kd.N_mono (Kd.N_told (Kd.N_told (Kd.N_old (kN a6) hb) (Kd.R_base b2)) (Kd.R_base e0)) (fun _ h_ => h_.1))
       replace a5 := kRb a5 hb
       have d1 := Aside0.mk (Kd.R_lower (Kd.R_new' (Kd.R_new' (Kd.R_new' b2 (Kd.R_lt (kR a2))) (Kd.R_lt (kR a7))) (Kd.R_lt (kR b0))) (below_size (bb HB)))
       replace a2 := Aside0.mk (Kd.R_elder' (kR a2) (Kd.R_base b2) hb)
       replace a7 := Aside0.mk (Kd.R_elder' (kR a7) (Kd.R_base b2) hb)
       replace b0 := Aside0.mk (Kd.R_elder' (kR b0) (Kd.R_base b2) hb)
       have d0 := Aside0.mk (Kd.R_lower (Kd.R_new' e0 (Kd.R_lt (kR a4))) (below_size (bb HB)))
       replace a4 := Aside0.mk (Kd.R_elder' (kR a4) (Kd.R_base e0) hb)
       replace a1 := bkb a1 hb
       replace a3 := bkb a3 hb
       replace a0 := bkb a0 hb
       replace a9 := bkb a9 hb
       replace HB := bstep HB hb
       (try clear hb)
       (try clear hb2)
       (try clear hk)
       (try clear hi)
       (try clear b2)
       (try clear e0)
       refine hK.out _ _ ⟨bc a0 0, bc a0 1⟩ (fun hHeld => ?_)
       clear hK K
       refine norm_ (a' := ?_) ?_ ?_
       rotate_left
       ·show Act.put _ (some 39) _ = _
        simp only [Act.put, List.setIfInBounds_toArray, List.set_cons_zero, List.set_cons_succ, i64_w, i32_w]
        rfl
       refine pu 13 26 (bits 19 0x13fff) HT_ (h := ?_)
       refine pu 14 40 (bits 19 0x17fff) HT_ (h := ?_)
       refine pu 15 41 (bits 19 0x1ffff) HT_ (h := ?_)
       exact norm_ (by simp only [putAll, Act.put, List.setIfInBounds_toArray, List.set_cons_zero, List.set_cons_succ]) (hCont (.slice j2 g5.length j1, .slice r8 g4.length r0, g6, g9, b8) _ ⟨hHeld, (kNmm a6 (fun _ hk => ⟨hk.1.1.1.1.1.1, ⟨hk.1.1.1.1.1.2.1, ⟨hk.1.1.1.1.1.2.2.1, ⟨hk.1.1.1.1.2, ⟨hk.1.1.1.2, ⟨hk.1.2, ⟨hk.2, ⟨hk.1.1.1.1.1.2.2.2.1, ⟨hk.1.1.1.1.1.2.2.2.2.1, ⟨hk.1.1.1.1.1.2.2.2.2.2, hk.1.1.2⟩⟩⟩⟩⟩⟩⟩⟩⟩⟩)), (kR a5), (kmm a2 (fun _ hk => ⟨hk.1.1.2, ⟨hk.1.2, hk.2⟩⟩)), (kmm a4 (fun _ hk => hk.2)), (kmm a7 (fun _ hk => ⟨hk.1.1.2, ⟨hk.1.2, hk.2⟩⟩)), (kmm b0 (fun _ hk => ⟨hk.1.1.2, ⟨hk.1.2, hk.2⟩⟩)), (kmm d1 (fun _ hk => ⟨hk.1.1.2, ⟨hk.1.2, hk.2⟩⟩)), (kmm d0 (fun _ hk => hk.2)), (bk a1), (bk a3), (bk a0), (bk a9), h8.out, h9.out, d7.out, d4.out, d6.out, d3.out, d5.out, d2.out, (bb HB)⟩)
     ·skip
      refine box_step ?hg (N := 7) ?hd (cs := #[.slice none 0 0, .slice none 0 0]) (t := 35) ?hr ?_; (case hd => rfl); (case hg => rfl); (case hr => first | (go_simp; done) | (go_simp; rfl))
      intro b8 hg C4 hbox hb
      replace a6 := Aside0.mk (Kd.N_below (Kd.N_elderB (kN a6) b8 (Nat.le_of_eq hg.symm)) hb)
      replace a5 := kRb a5 hb
      replace a2 := kRb a2 hb
      replace a4 := kRb a4 hb
      replace a7 := kRb a7 hb
      have a9 := Aside0.mk (hbox)
      have h8 := bsz HB hg
      have h9 := bsz HB hg
      replace HB := bstep HB hb
      have d7 := blt a1 hg
      have d4 := bgt a1 hg
      replace a1 := bkb a1 hb
      have d6 := blt a3 hg
      have d3 := bgt a3 hg
      replace a3 := bkb a3 hb
      have d5 := blt a0 hg
      have d2 := bgt a0 hg
      replace a0 := bkb a0 hb
      clear hb hbox hg
      refine hK.out _ _ ⟨bc a0 0, bc a0 1⟩ (fun hHeld => ?_)
      clear hK K
      refine norm_ (a' := ?_) ?_ ?_
      rotate_left
      ·show Act.put _ (some 7) _ = _
       simp only [Act.put, List.setIfInBounds_toArray, List.set_cons_zero, List.set_cons_succ, i64_w, i32_w]
       rfl
      refine one_ (i := 10) (N := some 37) #[true, true, true, true, true, true, true, true, true, true, true, false, false, false, false, false, true, false, false] rfl rfl (one_of HT_.out (by kernel_rfl)) (by decide) (fun K hK => ?_)
      refine goes_ Tryz.func13 (by kernel_rfl) rfl #[.int .i64 (b4.length : Int), .slice A1 l1.length c1] (by rfl) rfl rfl (by (try simp only [List.map_toArray, List.map_cons, List.map_nil]); first | done | rfl | (simp only [List.length_drop, List.length_take]; rfl)) ?_
      with_reducible refine (q5_Shuffle.calls _ _ _ _ _ _ _ ?c5 ?c4 y7.out).mono ?_
      (case c5 => exact cb v7 HB)
      (case c4 => exact v8.out)
      rintro e J3 ⟨j6, rfl, b2, hb⟩
      refine ⟨_, rfl, ?_⟩
      replace a6 := Aside0.mk (Kd.N_elder' (kN a6) (Kd.R_base b2) hb)
      replace a5 := kRb a5 hb
      replace a4 := kRb a4 hb
      have b0 := Aside0.mk (Kd.R_lower (Kd.R_new' (Kd.R_new' b2 (Kd.R_lt (kR a2))) (Kd.R_lt (kR a7))) (below_size (bb HB)))
      replace a2 := Aside0.mk (Kd.R_elder' (kR a2) (Kd.R_base b2) hb)
      replace a7 := Aside0.mk (Kd.R_elder' (kR a7) (Kd.R_base b2) hb)
      replace a1 := bkb a1 hb
      replace a3 := bkb a3 hb
      replace a0 := bkb a0 hb
      replace a9 := bkb a9 hb
      replace HB := bstep HB hb
      (try clear hb)
      (try clear hb2)
      (try clear hk)
      (try clear hi)
      (try clear b2)
      obtain ⟨j2, j1, eo40⟩ := Kd.R_slice b0.out
      (first | subst eo40 | (injection eo40 with f1_ f2_ f3_; have f4_ := f1_.symm; have f5_ := f3_.symm; clear f1_ f2_ f3_; subst f4_; subst f5_))
      obtain ⟨q2, p6, eo41⟩ := Kd.R_slice a7.out
      (first | subst eo41 | (injection eo41 with f1_ f2_ f3_; have f4_ := f1_.symm; have f5_ := f3_.symm; clear f1_ f2_ f3_; subst f4_; subst f5_))
      refine hK.out _ _ ⟨bc a0 0, bc a0 1⟩ (fun hHeld => ?_)
      clear hK K
      refine norm_ (a' := ?_) ?_ ?_
      rotate_left
      ·show Act.put _ (some 37) _ = _
       simp only [Act.put, List.setIfInBounds_toArray, List.set_cons_zero, List.set_cons_succ, i64_w, i32_w]
       rfl
      refine pu 11 38 (bits 19 0x10fff) HT_ (h := ?_)
      refine one_ (i := 12) (N := some 39) #[true, true, true, true, true, true, true, true, true, true, true, true, true, false, false, false, true, false, false] rfl rfl (one_of HT_.out (by kernel_rfl)) (by decide) (fun K hK => ?_)
      refine goes_ Tryz.func12 (by kernel_rfl) rfl #[.agg #[.slice b6 b3.length b5, .slice b9 b4.length b7], .agg #[.slice q2 g5.length p6, .slice j2 g4.length j1]] (by rfl) rfl rfl (by (try simp only [List.map_toArray, List.map_cons, List.map_nil]); first | done | rfl | (simp only [List.length_drop, List.length_take]; rfl)) ?_
      with_reducible refine (graph_Reorder.calls _ _ _ _ _ _ _ _ _ _ _ _ _ _ _ _ _ ?c5 ?c4 ?g1 ?g0 ?e9 ?e8 ?e7 ?e6 x3.out).mono ?_
      (case c5 => repeat (first | exact (Kd.R_reads' a2.out).2.2 | (with_reducible refine Kd.C_alloc ?_ _) | (with_reducible refine Kd.C_drewN ?_ _) | (with_reducible refine Kd.C_drew ?_)))
      (case c4 => exact (Kd.R_reads' a2.out).2.1)
      (case g1 => repeat (first | exact (Kd.R_reads' a4.out).2.2 | (with_reducible refine Kd.C_alloc ?_ _) | (with_reducible refine Kd.C_drewN ?_ _) | (with_reducible refine Kd.C_drew ?_)))
      (case g0 => exact (Kd.R_reads' a4.out).2.1)
      (case e9 => repeat (first | exact (Kd.R_reads' a7.out).2.2 | (with_reducible refine Kd.C_alloc ?_ _) | (with_reducible refine Kd.C_drewN ?_ _) | (with_reducible refine Kd.C_drew ?_)))
      (case e8 => exact (Kd.R_reads' a7.out).2.1)
      (case e7 => repeat (first | exact (Kd.R_reads' b0.out).2.2 | (with_reducible refine Kd.C_alloc ?_ _) | (with_reducible refine Kd.C_drewN ?_ _) | (with_reducible refine Kd.C_drew ?_)))
      (case e6 => exact (Kd.R_reads' b0.out).2.1)
      rintro e x8 ⟨g6, g9, rfl, b2, e0, hb⟩
      refine ⟨_, rfl, ?_⟩
      replace a6 := Aside0.mk (Kd.N_mono (Kd.N_told (Kd.N_told (Kd.N_old (kN a6) hb) (Kd.R_base b2)) (Kd.R_base e0)) (fun _ h_ => h_.1))
      replace a5 := kRb a5 hb
      have d1 := Aside0.mk (Kd.R_lower (Kd.R_new' (Kd.R_new' (Kd.R_new' b2 (Kd.R_lt (kR a2))) (Kd.R_lt (kR a7))) (Kd.R_lt (kR b0))) (below_size (bb HB)))
      replace a2 := Aside0.mk (Kd.R_elder' (kR a2) (Kd.R_base b2) hb)
      replace a7 := Aside0.mk (Kd.R_elder' (kR a7) (Kd.R_base b2) hb)
      replace b0 := Aside0.mk (Kd.R_elder' (kR b0) (Kd.R_base b2) hb)
      have d0 := Aside0.mk (Kd.R_lower (Kd.R_new' e0 (Kd.R_lt (kR a4))) (below_size (bb HB)))
      replace a4 := Aside0.mk (Kd.R_elder' (kR a4) (Kd.R_base e0) hb)
      replace a1 := bkb a1 hb
      replace a3 := bkb a3 hb
      replace a0 := bkb a0 hb
      replace a9 := bkb a9 hb
      replace HB := bstep HB hb
      (try clear hb)
      (try clear hb2)
      (try clear hk)
      (try clear hi)
      (try clear b2)
      (try clear e0)
      refine hK.out _ _ ⟨bc a0 0, bc a0 1⟩ (fun hHeld => ?_)
      clear hK K
      refine norm_ (a' := ?_) ?_ ?_
      rotate_left
      ·show Act.put _ (some 39) _ = _
       simp only [Act.put, List.setIfInBounds_toArray, List.set_cons_zero, List.set_cons_succ, i64_w, i32_w]
       rfl
      refine pu 13 26 (bits 19 0x13fff) HT_ (h := ?_)
      refine pu 14 40 (bits 19 0x17fff) HT_ (h := ?_)
      refine pu 15 41 (bits 19 0x1ffff) HT_ (h := ?_)
      exact norm_ (by simp only [putAll, Act.put, List.setIfInBounds_toArray, List.set_cons_zero, List.set_cons_succ]) (hCont (.slice q2 g5.length p6, .slice j2 g4.length j1, g6, g9, b8) _ ⟨hHeld, (kNmm a6 (fun _ hk => ⟨hk.1.1.1.1.1.1, ⟨hk.1.1.1.1.1.2.1, ⟨hk.1.1.1.1.1.2.2.1, ⟨hk.1.1.1.1.2, ⟨hk.1.1.2, ⟨hk.1.2, ⟨hk.2, ⟨hk.1.1.1.1.1.2.2.2.1, ⟨hk.1.1.1.1.1.2.2.2.2.1, ⟨hk.1.1.1.1.1.2.2.2.2.2, hk.1.1.1.2⟩⟩⟩⟩⟩⟩⟩⟩⟩⟩)), (kR a5), (kmm a2 (fun _ hk => ⟨hk.1.1.2, ⟨hk.1.2, hk.2⟩⟩)), (kmm a4 (fun _ hk => hk.2)), (kmm a7 (fun _ hk => ⟨hk.1.1.2, ⟨hk.1.2, hk.2⟩⟩)), (kmm b0 (fun _ hk => ⟨hk.1.1.2, ⟨hk.1.2, hk.2⟩⟩)), (kmm d1 (fun _ hk => ⟨hk.1.1.2, ⟨hk.1.2, hk.2⟩⟩)), (kmm d0 (fun _ hk => hk.2)), (bk a1), (bk a3), (bk a0), (bk a9), h8.out, h9.out, d7.out, d4.out, d6.out, d3.out, d5.out, d2.out, (bb HB)⟩)
    ·skip
     refine box_step ?hg (N := 7) ?hd (cs := #[.slice none 0 0, .slice none 0 0]) (t := 35) ?hr ?_; (case hd => rfl); (case hg => rfl); (case hr => first | (go_simp; done) | (go_simp; rfl))
     intro b8 hg J4 hbox hb
     replace a6 := Aside0.mk (Kd.N_below (Kd.N_elderB (kN a6) b8 (Nat.le_of_eq hg.symm)) hb)
     replace a5 := kRb a5 hb
     replace a2 := kRb a2 hb
     replace a4 := kRb a4 hb
     have a9 := Aside0.mk (hbox)
     have h8 := bsz HB hg
     have h9 := bsz HB hg
     replace HB := bstep HB hb
     have d7 := blt a1 hg
     have d4 := bgt a1 hg
     replace a1 := bkb a1 hb
     have d6 := blt a3 hg
     have d3 := bgt a3 hg
     replace a3 := bkb a3 hb
     have d5 := blt a0 hg
     have d2 := bgt a0 hg
     replace a0 := bkb a0 hb
     clear hb hbox hg
     refine hK.out _ _ ⟨bc a0 0, bc a0 1⟩ (fun hHeld => ?_)
     clear hK K
     refine norm_ (a' := ?_) ?_ ?_
     rotate_left
     ·show Act.put _ (some 7) _ = _
      simp only [Act.put, List.setIfInBounds_toArray, List.set_cons_zero, List.set_cons_succ, i64_w, i32_w]
      rfl
     refine one_ (i := 5) (N := some 32) #[true, true, true, true, true, true, true, true, true, true, false, false, false, false, false, false, true, false, false] rfl rfl (one_of HT_.out (by kernel_rfl)) (by decide) (fun K hK => ?_)
     refine goes_ Tryz.func13 (by kernel_rfl) rfl #[.int .i64 (b3.length : Int), .slice A1 l1.length c1] (by rfl) rfl rfl (by (try simp only [List.map_toArray, List.map_cons, List.map_nil]); first | done | rfl | (simp only [List.length_drop, List.length_take]; rfl)) ?_
     with_reducible refine (q5_Shuffle.calls _ _ _ _ _ _ _ ?c5 ?c4 C9.out).mono ?_
     (case c5 => exact cb v7 HB)
     (case c4 => exact v8.out)
     rintro e C4 ⟨j9, rfl, b2, hb⟩
     refine ⟨_, rfl, ?_⟩
     replace a6 := Aside0.mk (Kd.N_elder' (kN a6) (Kd.R_base b2) hb)
     replace a5 := kRb a5 hb
     replace a4 := kRb a4 hb
     have a7 := Aside0.mk (Kd.R_lower (Kd.R_new' b2 (Kd.R_lt (kR a2))) (below_size (bb HB)))
     replace a2 := Aside0.mk (Kd.R_elder' (kR a2) (Kd.R_base b2) hb)
     replace a1 := bkb a1 hb
     replace a3 := bkb a3 hb
     replace a0 := bkb a0 hb
     replace a9 := bkb a9 hb
     replace HB := bstep HB hb
     (try clear hb)
     (try clear hb2)
     (try clear hk)
     (try clear hi)
     (try clear b2)
     refine hK.out _ _ ⟨bc a0 0, bc a0 1⟩ (fun hHeld => ?_)
     clear hK K
     refine norm_ (a' := ?_) ?_ ?_
     rotate_left
     ·show Act.put _ (some 32) _ = _
      simp only [Act.put, List.setIfInBounds_toArray, List.set_cons_zero, List.set_cons_succ, i64_w, i32_w]
      rfl
     refine one_ (i := 10) (N := some 37) #[true, true, true, true, true, true, true, true, true, true, true, false, false, false, false, false, true, false, false] rfl rfl (one_of HT_.out (by kernel_rfl)) (by decide) (fun K hK => ?_)
     refine goes_ Tryz.func13 (by kernel_rfl) rfl #[.int .i64 (b4.length : Int), .slice A1 l1.length c1] (by rfl) rfl rfl (by (try simp only [List.map_toArray, List.map_cons, List.map_nil]); first | done | rfl | (simp only [List.length_drop, List.length_take]; rfl)) ?_
     with_reducible refine (q5_Shuffle.calls _ _ _ _ _ _ _ ?c5 ?c4 y7.out).mono ?_
     (case c5 => exact cb v7 HB)
     (case c4 => exact v8.out)
     rintro e J3 ⟨j6, rfl, b2, hb⟩
     refine ⟨_, rfl, ?_⟩
     replace a6 := Aside0.mk (Kd.N_elder' (kN a6) (Kd.R_base b2) hb)
     replace a5 := kRb a5 hb
     replace a4 := kRb a4 hb
     have b0 := Aside0.mk (Kd.R_lower (Kd.R_new' (Kd.R_new' b2 (Kd.R_lt (kR a2))) (Kd.R_lt (kR a7))) (below_size (bb HB)))
     replace a2 := Aside0.mk (Kd.R_elder' (kR a2) (Kd.R_base b2) hb)
     replace a7 := Aside0.mk (Kd.R_elder' (kR a7) (Kd.R_base b2) hb)
     replace a1 := bkb a1 hb
     replace a3 := bkb a3 hb
     replace a0 := bkb a0 hb
     replace a9 := bkb a9 hb
     replace HB := bstep HB hb
     (try clear hb)
     (try clear hb2)
     (try clear hk)
     (try clear hi)
     (try clear b2)
     obtain ⟨j2, j1, eo40⟩ := Kd.R_slice b0.out
     (first | subst eo40 | (injection eo40 with f1_ f2_ f3_; have f4_ := f1_.symm; have f5_ := f3_.symm; clear f1_ f2_ f3_; subst f4_; subst f5_))
     obtain ⟨q2, p6, eo41⟩ := Kd.R_slice a7.out
     (first | subst eo41 | (injection eo41 with f1_ f2_ f3_; have f4_ := f1_.symm; have f5_ := f3_.symm; clear f1_ f2_ f3_; subst f4_; subst f5_))
     refine hK.out _ _ ⟨bc a0 0, bc a0 1⟩ (fun hHeld => ?_)
     clear hK K
     refine norm_ (a' := ?_) ?_ ?_
     rotate_left
     ·show Act.put _ (some 37) _ = _
      simp only [Act.put, List.setIfInBounds_toArray, List.set_cons_zero, List.set_cons_succ, i64_w, i32_w]
      rfl
     refine pu 11 38 (bits 19 0x10fff) HT_ (h := ?_)
     refine one_ (i := 12) (N := some 39) #[true, true, true, true, true, true, true, true, true, true, true, true, true, false, false, false, true, false, false] rfl rfl (one_of HT_.out (by kernel_rfl)) (by decide) (fun K hK => ?_)
     refine goes_ Tryz.func12 (by kernel_rfl) rfl #[.agg #[.slice b6 b3.length b5, .slice b9 b4.length b7], .agg #[.slice q2 g5.length p6, .slice j2 g4.length j1]] (by rfl) rfl rfl (by (try simp only [List.map_toArray, List.map_cons, List.map_nil]); first | done | rfl | (simp only [List.length_drop, List.length_take]; rfl)) ?_
     with_reducible refine (graph_Reorder.calls _ _ _ _ _ _ _ _ _ _ _ _ _ _ _ _ _ ?c5 ?c4 ?g1 ?g0 ?e9 ?e8 ?e7 ?e6 x3.out).mono ?_
     (case c5 => repeat (first | exact (Kd.R_reads' a2.out).2.2 | (with_reducible refine Kd.C_alloc ?_ _) | (with_reducible refine Kd.C_drewN ?_ _) | (with_reducible refine Kd.C_drew ?_)))
     (case c4 => exact (Kd.R_reads' a2.out).2.1)
     (case g1 => repeat (first | exact (Kd.R_reads' a4.out).2.2 | (with_reducible refine Kd.C_alloc ?_ _) | (with_reducible refine Kd.C_drewN ?_ _) | (with_reducible refine Kd.C_drew ?_)))
     (case g0 => exact (Kd.R_reads' a4.out).2.1)
     (case e9 => repeat (first | exact (Kd.R_reads' a7.out).2.2 | (with_reducible refine Kd.C_alloc ?_ _) | (with_reducible refine Kd.C_drewN ?_ _) | (with_reducible refine Kd.C_drew ?_)))
     (case e8 => exact (Kd.R_reads' a7.out).2.1)
     (case e7 => repeat (first | exact (Kd.R_reads' b0.out).2.2 | (with_reducible refine Kd.C_alloc ?_ _) | (with_reducible refine Kd.C_drewN ?_ _) | (with_reducible refine Kd.C_drew ?_)))
     (case e6 => exact (Kd.R_reads' b0.out).2.1)
     rintro e x8 ⟨g6, g9, rfl, b2, e0, hb⟩
     refine ⟨_, rfl, ?_⟩
     replace a6 := Aside0.mk (Kd.N_mono (Kd.N_told (Kd.N_told (Kd.N_old (kN a6) hb) (Kd.R_base b2)) (Kd.R_base e0)) (fun _ h_ => h_.1))
     replace a5 := kRb a5 hb
     have d1 := Aside0.mk (Kd.R_lower (Kd.R_new' (Kd.R_new' (Kd.R_new' b2 (Kd.R_lt (kR a2))) (Kd.R_lt (kR a7))) (Kd.R_lt (kR b0))) (below_size (bb HB)))
     replace a2 := Aside0.mk (Kd.R_elder' (kR a2) (Kd.R_base b2) hb)
     replace a7 := Aside0.mk (Kd.R_elder' (kR a7) (Kd.R_base b2) hb)
     replace b0 := Aside0.mk (Kd.R_elder' (kR b0) (Kd.R_base b2) hb)
     have d0 := Aside0.mk (Kd.R_lower (Kd.R_new' e0 (Kd.R_lt (kR a4))) (below_size (bb HB)))
     replace a4 := Aside0.mk (Kd.R_elder' (kR a4) (Kd.R_base e0) hb)
     replace a1 := bkb a1 hb
     replace a3 := bkb a3 hb
     replace a0 := bkb a0 hb
     replace a9 := bkb a9 hb
     replace HB := bstep HB hb
     (try clear hb)
     (try clear hb2)
     (try clear hk)
     (try clear hi)
     (try clear b2)
     (try clear e0)
     refine hK.out _ _ ⟨bc a0 0, bc a0 1⟩ (fun hHeld => ?_)
     clear hK K
     refine norm_ (a' := ?_) ?_ ?_
     rotate_left
     ·show Act.put _ (some 39) _ = _
      simp only [Act.put, List.setIfInBounds_toArray, List.set_cons_zero, List.set_cons_succ, i64_w, i32_w]
      rfl
     refine pu 13 26 (bits 19 0x13fff) HT_ (h := ?_)
     refine pu 14 40 (bits 19 0x17fff) HT_ (h := ?_)
     refine pu 15 41 (bits 19 0x1ffff) HT_ (h := ?_)
     exact norm_ (by simp only [putAll, Act.put, List.setIfInBounds_toArray, List.set_cons_zero, List.set_cons_succ]) (hCont (.slice q2 g5.length p6, .slice j2 g4.length j1, g6, g9, b8) _ ⟨hHeld, (kNmm a6 (fun _ hk => ⟨hk.1.1.1.1.1.1, ⟨hk.1.1.1.1.1.2.1, ⟨hk.1.1.1.1.1.2.2.1, ⟨hk.1.1.1.2, ⟨hk.1.1.2, ⟨hk.1.2, ⟨hk.2, ⟨hk.1.1.1.1.1.2.2.2.1, ⟨hk.1.1.1.1.1.2.2.2.2.1, ⟨hk.1.1.1.1.1.2.2.2.2.2, hk.1.1.1.1.2⟩⟩⟩⟩⟩⟩⟩⟩⟩⟩)), (kR a5), (kmm a2 (fun _ hk => ⟨hk.1.1.2, ⟨hk.1.2, hk.2⟩⟩)), (kmm a4 (fun _ hk => hk.2)), (kmm a7 (fun _ hk => ⟨hk.1.1.2, ⟨hk.1.2, hk.2⟩⟩)), (kmm b0 (fun _ hk => ⟨hk.1.1.2, ⟨hk.1.2, hk.2⟩⟩)), (kmm d1 (fun _ hk => ⟨hk.1.1.2, ⟨hk.1.2, hk.2⟩⟩)), (kmm d0 (fun _ hk => hk.2)), (bk a1), (bk a3), (bk a0), (bk a9), h8.out, h9.out, d7.out, d4.out, d6.out, d3.out, d5.out, d2.out, (bb HB)⟩)
   rintro ⟨j9, j6, g6, g9, b8⟩ g8 ⟨hS_, h0_, h1_, h2_, h3_, h4_, h5_, h6_, h7_, h8_, h9_, h10_, h11_, h12_, h13_, h14_, h15_, h16_, h17_, h18_, h19_, h20_⟩
   replace a6 : Aside0 (Kd.N k96 96 g8 w.heap.size (fun k_ => some k_ ≠ (.slice c8 c0.length c3 : Value).ownBlock ∧ some k_ ≠ (.slice b6 b3.length b5 : Value).ownBlock ∧ some k_ ≠ (.slice b9 b4.length b7 : Value).ownBlock ∧ some k_ ≠ (j9 : Value).ownBlock ∧ some k_ ≠ (j6 : Value).ownBlock ∧ some k_ ≠ (g6 : Value).ownBlock ∧ some k_ ≠ (g9 : Value).ownBlock ∧ k_ ≠ e1 ∧ k_ ≠ b1 ∧ k_ ≠ a8 ∧ k_ ≠ b8) (.slice d9 c7.length d8) c7) := ⟨h0_⟩
   replace a5 : Aside0 (Kd.R k101 101 g8 w.heap.size (fun _ => True) (.slice c8 c0.length c3) c0) := ⟨h1_⟩
   replace a2 : Aside0 (Kd.R (Kd.int .i64) 3 g8 w.heap.size (fun k_ => some k_ ≠ (j9 : Value).ownBlock ∧ some k_ ≠ (j6 : Value).ownBlock ∧ some k_ ≠ (g6 : Value).ownBlock) (.slice b6 b3.length b5) b3) := ⟨h2_⟩
   replace a4 : Aside0 (Kd.R k56 56 g8 w.heap.size (fun k_ => some k_ ≠ (g9 : Value).ownBlock) (.slice b9 b4.length b7) b4) := ⟨h3_⟩
   have a7 : Aside0 (Kd.R (Kd.int .i64) 3 g8 w.heap.size (fun k_ => some k_ ≠ (.slice b6 b3.length b5 : Value).ownBlock ∧ some k_ ≠ (j6 : Value).ownBlock ∧ some k_ ≠ (g6 : Value).ownBlock) j9 g5) := ⟨h4_⟩
   have b0 : Aside0 (Kd.R (Kd.int .i64) 3 g8 w.heap.size (fun k_ => some k_ ≠ (.slice b6 b3.length b5 : Value).ownBlock ∧ some k_ ≠ (j9 : Value).ownBlock ∧ some k_ ≠ (g6 : Value).ownBlock) j6 g4) := ⟨h5_⟩
   have d1 : Aside0 (Kd.R (Kd.int .i64) 3 g8 w.heap.size (fun k_ => some k_ ≠ (.slice b6 b3.length b5 : Value).ownBlock ∧ some k_ ≠ (j9 : Value).ownBlock ∧ some k_ ≠ (j6 : Value).ownBlock) g6 j4) := ⟨h6_⟩
   have d0 : Aside0 (Kd.R k56 56 g8 w.heap.size (fun k_ => some k_ ≠ (.slice b9 b4.length b7 : Value).ownBlock) g9 j3) := ⟨h7_⟩
   replace a1 : Aside0 (g8.heap[e1]? = some (.cells #[.slice h7 e5.length h3, .slice h6 e4.length h2, .slice h5 e3.length h1, .slice h4 e2.length h0] 26 (0, 0))) := ⟨h8_⟩
   replace a3 : Aside0 (g8.heap[b1]? = some (.cells #[.slice d9 c7.length d8, .slice c8 c0.length c3] 31 (0, 0))) := ⟨h9_⟩
   replace a0 : Aside0 (g8.heap[a8]? = some (.cells #[.slice b6 b3.length b5, .slice b9 b4.length b7] 35 (0, 0))) := ⟨h10_⟩
   have a9 : Aside0 (g8.heap[b8]? = some (.cells #[.slice none 0 0, .slice none 0 0] 35 (0, 0))) := ⟨h11_⟩
   have h8 : Aside0 (w.heap.size ≤ b8) := ⟨h12_⟩
   have h9 : Aside0 (w.heap.size ≤ b8) := ⟨h13_⟩
   have d7 : Aside0 (e1 ≠ b8) := ⟨h14_⟩
   have d4 : Aside0 (b8 ≠ e1) := ⟨h15_⟩
   have d6 : Aside0 (b1 ≠ b8) := ⟨h16_⟩
   have d3 : Aside0 (b8 ≠ b1) := ⟨h17_⟩
   have d5 : Aside0 (a8 ≠ b8) := ⟨h18_⟩
   have d2 : Aside0 (b8 ≠ a8) := ⟨h19_⟩
   replace HB : Aside0 (Below w.heap.size w g8) := ⟨h20_⟩
   clear h0_ h1_ h2_ h3_ h4_ h5_ h6_ h7_ h8_ h9_ h10_ h11_ h12_ h13_ h14_ h15_ h16_ h17_ h18_ h19_ h20_
   have hHeld : g8.cell? ⟨a8, 0, none⟩ = some (.slice b6 b3.length b5) ∧ g8.cell? ⟨a8, 1, none⟩ = some (.slice b9 b4.length b7) := hS_
   obtain ⟨r7, q9, eo44⟩ := Kd.R_slice b0.out
   (first | subst eo44 | (injection eo44 with f1_ f2_ f3_; have f4_ := f1_.symm; have f5_ := f3_.symm; clear f1_ f2_ f3_; subst f4_; subst f5_))
   obtain ⟨r6, q8, eo45⟩ := Kd.R_slice a7.out
   (first | subst eo45 | (injection eo45 with f1_ f2_ f3_; have f4_ := f1_.symm; have f5_ := f3_.symm; clear f1_ f2_ f3_; subst f4_; subst f5_))
   obtain ⟨m9, m1, eo46⟩ := Kd.R_slice d1.out
   (first | subst eo46 | (injection eo46 with f1_ f2_ f3_; have f4_ := f1_.symm; have f5_ := f3_.symm; clear f1_ f2_ f3_; subst f4_; subst f5_))
   obtain ⟨m8, m0, eo48⟩ := Kd.R_slice d0.out
   (first | subst eo48 | (injection eo48 with f1_ f2_ f3_; have f4_ := f1_.symm; have f5_ := f3_.symm; clear f1_ f2_ f3_; subst f4_; subst f5_))
   refine norm_ (a' := ?_) ?_ ?_
   rotate_left
   ·simp only [putAll, Act.put, List.setIfInBounds_toArray, List.set_cons_zero, List.set_cons_succ]
    rfl
   refine one_ (i := 17) (N := none) #[true, true, true, true, true, true, true, true, true, true, true, true, true, true, true, true, true, true, false] rfl rfl (one_of HT_.out (by kernel_rfl)) (by decide) (fun K hK => ?_)
   have P7 : g8.cell? ⟨b8, 0, none⟩ = some (.slice none 0 0) := bc a9 0
   have O3 := blk_frozen a9.out 0
   have E0 := d7.out
   have D9 := d6.out
   have D8 := d5.out
   have E6 := d4.out
   have E5 := d3.out
   have E4 := d2.out
   have P6 : g8.cell? ⟨b8, 1, none⟩ = some (.slice none 0 0) := bc a9 1
   have O2 := blk_frozen a9.out 1
   have D7 := d7.out
   have D6 := d6.out
   have D5 := d5.out
   have E3 := d4.out
   have E2 := d3.out
   have E1 := d2.out
   refine skip_ (w1 := ?_) (by rfl) rfl ?_ ?_
   rotate_left
   ·go_simp
    rfl
   refine hK.out _ _ ⟨(cfr hHeld.1), (cfr hHeld.2)⟩ (fun hHeld => ?_)
   clear hK K
   refine pu 18 8 (bits 19 0x7ffff) HT_ (h := ?_)
   refine done_ (done_of HT_.out (by kernel_rfl)) ?_
   have N8 := d6.out
   have M3 := d3.out
   obtain ⟨I2, I1, G0, F9⟩ := cz2 a3
   have N7 := d5.out
   have M2 := d2.out
   obtain ⟨I0, H9, F8, F7⟩ := cz2 a0
   try go_wp2_with (first | ((with_reducible refine gate_callee (f := 14) rfl ?_); refine gl 45 Tryz.func14 #[.agg #[.slice d9 c7.length d8, .slice c8 c0.length c3], .agg #[.slice b6 b3.length b5, .slice b9 b4.length b7]] (h := ?_); (with_reducible refine (statistic_Of.calls _ _ _ _ _ _ _ _ _ _ _ _ _ _ _ _ _ ?c5 ?c4 ?g1 ?g0 ?e9 ?e8 ?e7 ?e6 J9.out).mono ?_); (case c5 => refine (Kd.N_reads' (e := 96) (base := w.heap.size) (ok := fun k_ => (some k_ ≠ (.slice c8 c0.length c3 : Value).ownBlock ∧ (some k_ ≠ (.slice b6 b3.length b5 : Value).ownBlock ∧ (some k_ ≠ (.slice b9 b4.length b7 : Value).ownBlock ∧ (some k_ ≠ (.slice r6 g5.length q8 : Value).ownBlock ∧ (some k_ ≠ (.slice r7 g4.length q9 : Value).ownBlock ∧ (some k_ ≠ (.slice m9 j4.length m1 : Value).ownBlock ∧ (some k_ ≠ (.slice m8 j3.length m0 : Value).ownBlock ∧ (k_ ≠ e1 ∧ (k_ ≠ b1 ∧ (k_ ≠ a8 ∧ k_ ≠ b8))))))))))) (n := c7.length) (c := d8) ?_).2.2; exact (kNn (g := b8) a6 (fun _ hk => hk.2.2.2.2.2.2.2.2.2.2))); (case c4 => exact (Kd.N_reads' a6.out).2.1); (case g1 => refine (Kd.R_reads' (e := 101) (base := w.heap.size) (ok := fun k_ => True) (n := c0.length) (c := c3) ?_).2.2; exact (kt a5 a9)); (case g0 => exact (Kd.R_reads' a5.out).2.1); (case e9 => refine (Kd.R_reads' (e := 3) (base := w.heap.size) (ok := fun k_ => (some k_ ≠ (.slice r6 g5.length q8 : Value).ownBlock ∧ (some k_ ≠ (.slice r7 g4.length q9 : Value).ownBlock ∧ some k_ ≠ (.slice m9 j4.length m1 : Value).ownBlock))) (n := b3.length) (c := b5) ?_).2.2; exact (kt a2 a9)); (case e8 => exact (Kd.R_reads' a2.out).2.1); (case e7 => refine (Kd.R_reads' (e := 56) (base := w.heap.size) (ok := fun k_ => some k_ ≠ (.slice m8 j3.length m0 : Value).ownBlock) (n := b4.length) (c := b7) ?_).2.2; exact (kt a4 a9)); (case e6 => exact (Kd.R_reads' a4.out).2.1); rintro e Q2 ⟨P4, P3, rfl, b2, e0, hb⟩; refine ⟨_, rfl, ?_⟩; replace a6 := Aside0.mk (Kd.N_mono (Kd.N_told (Kd.N_told (Kd.N_old (kNn (g := b8) a6 (fun _ hk => hk.2.2.2.2.2.2.2.2.2.2)) hb) (Kd.R_base b2)) (Kd.R_base e0)) (fun _ h_ => h_.1)); replace a5 := Aside0.mk (Kd.R_below (kt a5 a9) hb); replace a2 := Aside0.mk (Kd.R_below (kt a2 a9) hb); replace a4 := Aside0.mk (Kd.R_below (kt a4 a9) hb); replace a7 := Aside0.mk (Kd.R_below (kt a7 a9) hb); replace b0 := Aside0.mk (Kd.R_below (kt b0 a9) hb); replace d1 := Aside0.mk (Kd.R_below (kt d1 a9) hb); replace d0 := Aside0.mk (Kd.R_below (kt d0 a9) hb); have g3 := Aside0.mk (Kd.R_lower b2 (below_size (bb HB))); have g2 := Aside0.mk (Kd.R_lower e0 (below_size (bb HB))); replace a1 := Aside0.mk (blk_below (g := e1) (o := .cells #[.slice h7 e5.length h3, .slice h6 e4.length h2, .slice h5 e3.length h1, .slice h4 e2.length h0] 26 (0, 0)) (bkF a1) hb); replace a3 := Aside0.mk (blk_below (g := b1) (o := .cells #[.slice d9 c7.length d8, .slice c8 c0.length c3] 31 (0, 0)) (bkF a3) hb); replace a0 := Aside0.mk (blk_below (g := a8) (o := .cells #[.slice b6 b3.length b5, .slice b9 b4.length b7] 35 (0, 0)) (bkF a0) hb); replace a9 := Aside0.mk (blk_below (g := b8) (o := .cells #[.slice m9 j4.length m1, .slice m8 j3.length m0] 35 (0, 0)) (bkP a9) hb); replace HB := bstep HB hb) | ((with_reducible refine gate_dst (N := 9) rfl ?_); (try (refine gate_guard (by rfl) ?_; dsimp only)); refine be 9 #[.slice none 0 0, .slice none 0 0] 46 ?_; intro m3 hg Q1 hbox hb; have n7 := Aside0.mk (Kd.N_below (Kd.N_elderB (kN a6) m3 (Nat.le_of_eq hg.symm)) hb); have n6 := kRb a5 hb; have n5 := kRb a2 hb; have n4 := kRb a4 hb; have n3 := kRb a7 hb; have n2 := kRb b0 hb; have n1 := kRb d1 hb; have n0 := kRb d0 hb; have s2 := kRb g3 hb; have r9 := kRb g2 hb; have p3 := bkb a1 hb; have p2 := bkb a3 hb; have q7 := bkb a0 hb; have q6 := bkb a9 hb; have q5 := bstep HB hb; have q4 := Aside0.mk (hbox); have p1 := bsz HB hg; have p0 := bsz HB hg; have o9 := blt a1 hg; have o8 := bgt a1 hg; have o7 := blt a3 hg; have o6 := bgt a3 hg; have o5 := blt a0 hg; have o4 := bgt a0 hg; have o3 := blt a9 hg; have o2 := bgt a9 hg; clear a6 a5; clear a2 a4; clear a7 b0; clear d1 d0; clear g3 g2; clear a1 a3; clear a0 a9; clear HB; have a6 := n7; have a5 := n6; have a2 := n5; have a4 := n4; have a7 := n3; have b0 := n2; have d1 := n1; have d0 := n0; have g3 := s2; have g2 := r9; have a1 := p3; have a3 := p2; have a0 := q7; have a9 := q6; have HB := q5; have c2 := q4; have O5 := p1; have P0 := p0; have v4 := o9; have t2 := o8; have v0 := o7; have t1 := o6; have t6 := o5; have t0 := o4; have t4 := o3; have s9 := o2; clear n7 n6 n5 n4 n3 n2 n1 n0 s2 r9 p3 p2 q7 q6 q5 q4 p1 p0 o9 o8 o7 o6 o5 o4 o3 o2; clear hb hbox hg; obtain ⟨q1, m7, eo56⟩ := Kd.R_slice g3.out; subst eo56; have N6 := t2.out; have M1 := v4.out; have N5 := t1.out; have M0 := v0.out; have N4 := t0.out; have L9 := t6.out; have N3 := s9.out; have L8 := t4.out; obtain ⟨H8, H7, F6, F5⟩ := cz2 c2; obtain ⟨q0, m6, eo62⟩ := Kd.R_slice g2.out; subst eo62; obtain ⟨H6, H5, F4, F3⟩ := cz2 a3; have N2 := d4.out; have L7 := d7.out; obtain ⟨H4, H3, F2, F1⟩ := cz2 a9) | ((with_reducible refine gate_callee (f := 14) rfl ?_); refine gl 51 Tryz.func14 #[.agg #[.slice d9 c7.length d8, .slice c8 c0.length c3], .agg #[.slice m9 j4.length m1, .slice m8 j3.length m0]] (h := ?_); (with_reducible refine (statistic_Of.calls _ _ _ _ _ _ _ _ _ _ _ _ _ _ _ _ _ ?c5 ?c4 ?g1 ?g0 ?e9 ?e8 ?e7 ?e6 J8.out).mono ?_); (case c5 => refine (Kd.N_reads' (e := 96) (base := w.heap.size) (ok := fun k_ => ((((some k_ ≠ (.slice c8 c0.length c3 : Value).ownBlock ∧ (some k_ ≠ (.slice b6 b3.length b5 : Value).ownBlock ∧ (some k_ ≠ (.slice b9 b4.length b7 : Value).ownBlock ∧ (some k_ ≠ (.slice r6 g5.length q8 : Value).ownBlock ∧ (some k_ ≠ (.slice r7 g4.length q9 : Value).ownBlock ∧ (some k_ ≠ (.slice m9 j4.length m1 : Value).ownBlock ∧ (some k_ ≠ (.slice m8 j3.length m0 : Value).ownBlock ∧ (k_ ≠ e1 ∧ (k_ ≠ b1 ∧ (k_ ≠ a8 ∧ k_ ≠ b8)))))))))) ∧ some k_ ≠ (.slice q1 m5.length m7 : Value).ownBlock) ∧ some k_ ≠ (.slice q0 m4.length m6 : Value).ownBlock) ∧ k_ ≠ m3)) (n := c7.length) (c := d8) ?_).2.2; exact (kNn (g := m3) a6 (fun _ hk => hk.2))); (case c4 => exact (Kd.N_reads' a6.out).2.1); (case g1 => refine (Kd.R_reads' (e := 101) (base := w.heap.size) (ok := fun k_ => True) (n := c0.length) (c := c3) ?_).2.2; exact (kt a5 c2)); (case g0 => exact (Kd.R_reads' a5.out).2.1); (case e9 => refine (Kd.R_reads' (e := 3) (base := w.heap.size) (ok := fun k_ => (some k_ ≠ (.slice b6 b3.length b5 : Value).ownBlock ∧ (some k_ ≠ (.slice r6 g5.length q8 : Value).ownBlock ∧ some k_ ≠ (.slice r7 g4.length q9 : Value).ownBlock))) (n := j4.length) (c := m1) ?_).2.2; exact (kt d1 c2)); (case e8 => exact (Kd.R_reads' d1.out).2.1); (case e7 => refine (Kd.R_reads' (e := 56) (base := w.heap.size) (ok := fun k_ => some k_ ≠ (.slice b9 b4.length b7 : Value).ownBlock) (n := j3.length) (c := m0) ?_).2.2; exact (kt d0 c2)); (case e6 => exact (Kd.R_reads' d0.out).2.1); rintro e Q0 ⟨P2, P1, rfl, b2, e0, hb⟩; refine ⟨_, rfl, ?_⟩; replace a6 := Aside0.mk (Kd.N_mono (Kd.N_told (Kd.N_told (Kd.N_old (kNn (g := m3) a6 (fun _ hk => hk.2)) hb) (Kd.R_base b2)) (Kd.R_base e0)) (fun _ h_ => h_.1)); replace a5 := Aside0.mk (Kd.R_below (kt a5 c2) hb); replace a2 := Aside0.mk (Kd.R_below (kt a2 c2) hb); replace a4 := Aside0.mk (Kd.R_below (kt a4 c2) hb); replace a7 := Aside0.mk (Kd.R_below (kt a7 c2) hb); replace b0 := Aside0.mk (Kd.R_below (kt b0 c2) hb); replace d1 := Aside0.mk (Kd.R_below (kt d1 c2) hb); replace d0 := Aside0.mk (Kd.R_below (kt d0 c2) hb); have j8 := Aside0.mk (Kd.R_lower (Kd.R_new' (Kd.R_new' b2 (Kd.R_lt (kt g3 c2))) (Kd.R_lt (kt g2 c2))) (below_size (bb HB))); have j7 := Aside0.mk (Kd.R_lower (Kd.R_new' (Kd.R_new' e0 (Kd.R_lt (kt g3 c2))) (Kd.R_lt (kt g2 c2))) (below_size (bb HB))); replace g3 := Aside0.mk (Kd.R_mono (Kd.R_told (Kd.R_told (Kd.R_old (kt g3 c2) hb) (Kd.R_base b2)) (Kd.R_base e0)) (fun _ h_ => h_.1)); replace g2 := Aside0.mk (Kd.R_mono (Kd.R_told (Kd.R_told (Kd.R_old (kt g2 c2) hb) (Kd.R_base b2)) (Kd.R_base e0)) (fun _ h_ => h_.1)); replace a1 := Aside0.mk (blk_below (g := e1) (o := .cells #[.slice h7 e5.length h3, .slice h6 e4.length h2, .slice h5 e3.length h1, .slice h4 e2.length h0] 26 (0, 0)) (bkF a1) hb); replace a3 := Aside0.mk (blk_below (g := b1) (o := .cells #[.slice d9 c7.length d8, .slice c8 c0.length c3] 31 (0, 0)) (bkF a3) hb); replace a0 := Aside0.mk (blk_below (g := a8) (o := .cells #[.slice b6 b3.length b5, .slice b9 b4.length b7] 35 (0, 0)) (bkF a0) hb); replace a9 := Aside0.mk (blk_below (g := b8) (o := .cells #[.slice m9 j4.length m1, .slice m8 j3.length m0] 35 (0, 0)) (bkF a9) hb); replace c2 := Aside0.mk (blk_below (g := m3) (o := .cells #[.slice q1 m5.length m7, .slice q0 m4.length m6] 46 (0, 0)) (bkP c2) hb); replace HB := bstep HB hb) | ((with_reducible refine gate_dst (N := 11) rfl ?_); (try (refine gate_guard (by rfl) ?_; dsimp only)); refine be 11 #[.slice none 0 0, .slice none 0 0] 46 ?_; intro x0 hg P9 hbox hb; have n7 := Aside0.mk (Kd.N_below (Kd.N_elderB (kN a6) x0 (Nat.le_of_eq hg.symm)) hb); have n6 := kRb a5 hb; have n5 := kRb a2 hb; have n4 := kRb a4 hb; have n3 := kRb a7 hb; have n2 := kRb b0 hb; have n1 := kRb d1 hb; have n0 := kRb d0 hb; have s2 := kRb g3 hb; have r9 := kRb g2 hb; have p3 := kRb j8 hb; have p2 := kRb j7 hb; have q7 := bkb a1 hb; have q6 := bkb a3 hb; have q5 := bkb a0 hb; have q4 := bkb a9 hb; have p1 := bkb c2 hb; have p0 := bstep HB hb; have o9 := Aside0.mk (hbox); have o8 := bsz HB hg; have o7 := bsz HB hg; have o6 := blt a1 hg; have o5 := bgt a1 hg; have o4 := blt a3 hg; have o3 := bgt a3 hg; have o2 := blt a0 hg; have y5 := bgt a0 hg; have y4 := blt a9 hg; have y3 := bgt a9 hg; have y2 := blt c2 hg; have y1 := bgt c2 hg; clear a6 a5; clear a2 a4; clear a7 b0; clear d1 d0; clear g3 g2; clear j8 j7; clear a1 a3; clear a0 a9; clear c2 HB; have g3 := s2; have g2 := r9; have j8 := p3; have j7 := p2; have c2 := p1; have HB := p0; have j5 := o9; have O4 := o8; have O9 := o7; have v3 := o6; have s7 := o5; have t9 := o4; have s6 := o3; have t5 := o2; have s5 := y5; have t3 := y4; have s4 := y3; have s8 := y2; have s3 := y1; clear n7 n6 n5 n4 n3 n2 n1 n0 s2 r9 p3 p2 q7 q6 q5 q4 p1 p0 o9 o8 o7 o6 o5 o4 o3 o2 y5 y4 y3 y2 y1; clear hb hbox hg; obtain ⟨r5, p5, eo68⟩ := Kd.R_slice j8.out; subst eo68; have N1 := s7.out; have L6 := v3.out; have N0 := s6.out; have L5 := t9.out; have M9 := s5.out; have L4 := t5.out; have M8 := s4.out; have L3 := t3.out; have M7 := s3.out; have L2 := s8.out; obtain ⟨H2, H1, F0, E9⟩ := cz2 j5; obtain ⟨r4, p4, eo75⟩ := Kd.R_slice j7.out; subst eo75; obtain ⟨H0, G9, E8, E7⟩ := cz2 c2) | (go_at_call 15; (with_reducible refine (scarfjointref18_Same.calls _ _ _ _ _ _ _ _ _ _ _ _ _ _ _ ?c5 ?c4 ?g1 ?g0 ?e9 ?e8 ?e7 ?e6 J7.out).mono ?_); (case c5 => refine (Kd.R_reads' (e := 75) (base := w.heap.size) (ok := fun k_ => ((some k_ ≠ (.slice q0 m4.length m6 : Value).ownBlock ∧ some k_ ≠ (.slice r5 o0.length p5 : Value).ownBlock) ∧ some k_ ≠ (.slice r4 n9.length p4 : Value).ownBlock)) (n := m5.length) (c := m7) ?_).2.2; exact (kt g3 j5)); (case c4 => exact (Kd.R_reads' g3.out).2.1); (case g1 => refine (Kd.R_reads' (e := 75) (base := w.heap.size) (ok := fun k_ => ((some k_ ≠ (.slice q1 m5.length m7 : Value).ownBlock ∧ some k_ ≠ (.slice r5 o0.length p5 : Value).ownBlock) ∧ some k_ ≠ (.slice r4 n9.length p4 : Value).ownBlock)) (n := m4.length) (c := m6) ?_).2.2; exact (kt g2 j5)); (case g0 => exact (Kd.R_reads' g2.out).2.1); (case e9 => refine (Kd.R_reads' (e := 75) (base := w.heap.size) (ok := fun k_ => ((some k_ ≠ (.slice r4 n9.length p4 : Value).ownBlock ∧ some k_ ≠ (.slice q1 m5.length m7 : Value).ownBlock) ∧ some k_ ≠ (.slice q0 m4.length m6 : Value).ownBlock)) (n := o0.length) (c := p5) ?_).2.2; exact (kt j8 j5)); (case e8 => exact (Kd.R_reads' j8.out).2.1); (case e7 => refine (Kd.R_reads' (e := 75) (base := w.heap.size) (ok := fun k_ => ((some k_ ≠ (.slice r5 o0.length p5 : Value).ownBlock ∧ some k_ ≠ (.slice q1 m5.length m7 : Value).ownBlock) ∧ some k_ ≠ (.slice q0 m4.length m6 : Value).ownBlock)) (n := n9.length) (c := p4) ?_).2.2; exact (kt j7 j5)); (case e6 => exact (Kd.R_reads' j7.out).2.1); rintro e P8 ⟨rfl, hb⟩; replace j5 := Aside0.mk (blk_below (g := x0) (o := .cells #[.slice r5 o0.length p5, .slice r4 n9.length p4] 46 (0, 0)) (bkP j5) hb); replace HB := bstep HB hb; clear hb))
   go_ret
   exact ⟨by first | rfl | (simp <;> rfl) | (simp [*] <;> rfl), bb HB⟩
end Go.Proofs.YtfpianecohobjaaGreat.P
