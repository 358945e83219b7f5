/- StatisticOf: a part of its proof. No condition. -/
import Derived.Test.YtfpianecohobjaaVPx0
import Derived.Test.YtfpianecohobjaaVPx38
import Derived.Test.YtfpianecohobjaaVPx41
import Derived.Test.YtfpianecohobjaaVPx42
import Derived.Test.YtfpianecohobjaaVPx43
import Derived.Test.YtfpianecohobjaaVPx45
namespace Go.Proofs.Ytfpianecohobjaa.P
open Go.RowKit Go.Proofs.YtfpianecohobjaaW.PrintWords Go.Proofs.YtfpianecohobjaaW.PrintLast Go.Proofs.YtfpianecohobjaaW.PrintMore
set_option maxHeartbeats 8000000
set_option maxRecDepth 100000
set_option linter.unusedVariables false
set_option linter.unusedSimpArgs false
mutual
def scarfjointlaw18_StatisticSums.l0 : Nat → Int → List (S68) → Int → Int → List (S68) → List (S71) → List Int → List (S39) → List (S88) → List (S88) → Option (Bool)
 | 0, _, _, _, _, _, _, _, _, _, _ => none
 | k + 1, x7, g5, j6, g0, b7, b6, c9, d8, c5, c4 => if g0 < j6 then (if 0 ≤ g0 then (if g0 < (g5.length : Int) then ((statistic_Nodes.f k b7 b6 c5 c4 g0).bind fun F3 => (scarfjointlaw18_StatisticSums.l1 k x7 g0 F3.1 F3.2 0 g5 j6 g0 c9 (c9.length : Int) 0 b7 b6 c9 d8 c5 c4 ((rd_T68 g5 g0).f0) ((rd_T68 g5 g0).f1) ((rd_T68 g5 g0).f2) ((rd_T68 g5 g0).f3))) else (none)) else (none)) else (some (x7 == (c9.length : Int)))
def scarfjointlaw18_StatisticSums.l1 : Nat → Int → Int → Int → Int → Int → List (S68) → Int → Int → List Int → Int → Int → List (S68) → List (S71) → List Int → List (S39) → List (S88) → List (S88) → ByteArray → Int → Bool → List (S77) → Option (Bool)
 | 0, _, _, _, _, _, _, _, _, _, _, _, _, _, _, _, _, _, _, _, _, _ => none
 | k + 1, x7, x8, n9, t0, s9, g5, j6, g0, D8, L0, v2, b7, b6, c9, d8, c5, c4, e4, e1, e3, e2 => if v2 < L0 then (if 0 ≤ v2 then (if v2 < (D8.length : Int) then (if (rd D8 v2) = x8 then (scarfjointlaw18_StatisticSums.l1 k x7 x8 n9 t0 (wrap64 (s9 + 1)) g5 j6 g0 D8 L0 (wrap64 (v2 + 1)) b7 b6 c9 d8 c5 c4 e4 e1 e3 e2) else (scarfjointlaw18_StatisticSums.l1 k x7 x8 n9 t0 s9 g5 j6 g0 D8 L0 (wrap64 (v2 + 1)) b7 b6 c9 d8 c5 c4 e4 e1 e3 e2)) else (none)) else (none)) else (scarfjointlaw18_StatisticSums.l2 k x7 x8 n9 t0 s9 g5 j6 g0 b7 (b7.length : Int) 0 b7 b6 c9 d8 c5 c4 e4 e1 e3 e2)
def scarfjointlaw18_StatisticSums.l2 : Nat → Int → Int → Int → Int → Int → List (S68) → Int → Int → List (S68) → Int → Int → List (S68) → List (S71) → List Int → List (S39) → List (S88) → List (S88) → ByteArray → Int → Bool → List (S77) → Option (Bool)
 | 0, _, _, _, _, _, _, _, _, _, _, _, _, _, _, _, _, _, _, _, _, _ => none
 | k + 1, x7, x8, n9, t0, s9, g5, j6, g0, D7, J9, s8, b7, b6, c9, d8, c5, c4, e4, e1, e3, e2 => if s8 < J9 then (if 0 ≤ s8 then (if s8 < (D7.length : Int) then (if ((rd_T68 D7 s8).f1) = x8 then ((statistic_Nodes.f k b7 b6 c5 c4 s8).bind fun F2 => (if F2.2 = 0 then (scarfjointlaw18_StatisticSums.l2 k x7 x8 n9 t0 (wrap64 (s9 + F2.1)) g5 j6 g0 D7 J9 (wrap64 (s8 + 1)) b7 b6 c9 d8 c5 c4 e4 e1 e3 e2) else (some false))) else (scarfjointlaw18_StatisticSums.l2 k x7 x8 n9 t0 s9 g5 j6 g0 D7 J9 (wrap64 (s8 + 1)) b7 b6 c9 d8 c5 c4 e4 e1 e3 e2)) else (none)) else (none)) else (if t0 = 0 then (scarfjointlaw18_StatisticSums.j3 k x7 x8 n9 g5 j6 g0 (n9 != s9) b7 b6 c9 d8 c5 c4 e4 e1 e3 e2) else (scarfjointlaw18_StatisticSums.j3 k x7 x8 n9 g5 j6 g0 true b7 b6 c9 d8 c5 c4 e4 e1 e3 e2))
def scarfjointlaw18_StatisticSums.j3 : Nat → Int → Int → Int → List (S68) → Int → Int → Bool → List (S68) → List (S71) → List Int → List (S39) → List (S88) → List (S88) → ByteArray → Int → Bool → List (S77) → Option (Bool)
 | 0, _, _, _, _, _, _, _, _, _, _, _, _, _, _, _, _, _ => none
 | k + 1, x7, x8, n9, g5, j6, g0, x99, b7, b6, c9, d8, c5, c4, e4, e1, e3, e2 => if x99 = true then (some false) else (if e1 < 0 then (scarfjointlaw18_StatisticSums.l0 k (wrap64 (x7 + n9)) g5 j6 (wrap64 (g0 + 1)) b7 b6 c9 d8 c5 c4) else (scarfjointlaw18_StatisticSums.l3 k x7 x8 g5 j6 g0 b6 (b6.length : Int) 0 b7 b6 c9 d8 c5 c4 e4 e1 e3 e2))
def scarfjointlaw18_StatisticSums.l3 : Nat → Int → Int → List (S68) → Int → Int → List (S71) → Int → Int → List (S68) → List (S71) → List Int → List (S39) → List (S88) → List (S88) → ByteArray → Int → Bool → List (S77) → Option (Bool)
 | 0, _, _, _, _, _, _, _, _, _, _, _, _, _, _, _, _, _, _ => none
 | k + 1, x7, x8, g5, j6, g0, w2, L1, n8, b7, b6, c9, d8, c5, c4, e4, e1, e3, e2 => if n8 < L1 then (if 0 ≤ n8 then (if n8 < (w2.length : Int) then ((statistic_Edges.f k b7 b6 c5 c4 n8 x8 ((rd_T71 w2 n8).f2)).bind fun F1 => ((statistic_Edges.f k b7 b6 c5 c4 n8 e1 ((rd_T71 w2 n8).f2)).bind fun F0 => (if F1.2 = 0 then (if F0.2 = 0 then (if F1.1 > F0.1 then (some false) else (scarfjointlaw18_StatisticSums.l3 k x7 x8 g5 j6 g0 w2 L1 (wrap64 (n8 + 1)) b7 b6 c9 d8 c5 c4 e4 e1 e3 e2)) else (some false)) else (some false)))) else (none)) else (none)) else (scarfjointlaw18_StatisticSums.l0 k x7 g5 j6 (wrap64 (g0 + 1)) b7 b6 c9 d8 c5 c4)
end
def scarfjointlaw18_StatisticSums.f (k : Nat) (e9 : List (S81)) (e8 : List (S81)) (e7 : List Int) (e6 : List (S35)) : Option (Bool) := (scarfjointlaw18_awake.f k).bind fun t1 => (if t1 = true then ((scarfjointlaw18_made.f k e9 e8 e7 e6).bind fun d9 => ((statistic_Of.f k d9.1 d9.2.1 d9.2.2.1 d9.2.2.2).bind fun n5 => (if n5.2.2 = 0 then (scarfjointlaw18_StatisticSums.l0 k 0 d9.1 (d9.1.length : Int) 0 d9.1 d9.2.1 d9.2.2.1 d9.2.2.2 n5.1 n5.2.1) else (some false)))) else (some false))
theorem scarfjointlaw18_StatisticSums.calls (k : Nat) (j2 : Option Addr) (h8 : Nat) (e9 : List (S81)) (j1 : Option Addr) (h7 : Nat) (e8 : List (S81)) (j0 : Option Addr) (h6 : Nat) (e7 : List Int) (h9 : Option Addr) (h5 : Nat) (e6 : List (S35)) (r : Bool) (hr : r = true) (w : World) (E2 : Kd.C k81 w j2 e9.length e9) (E6 : e9.length ≤ h8) (E1 : Kd.C k81 w j1 e8.length e8) (E5 : e8.length ≤ h7) (E0 : Kd.C (Kd.int .u8) w j0 e7.length e7) (E4 : e7.length ≤ h6) (D9 : Kd.C k35 w h9 e6.length e6) (E3 : e6.length ≤ h5) (h : scarfjointlaw18_StatisticSums.f k e9 e8 e7 e6 = some r) :
  Calls Try.prog 11 #[.agg #[.slice j2 e9.length h8, .slice j1 e8.length h7, .slice j0 e7.length h6, .slice h9 e6.length h5]] w fun e w' => e = .returned (.bool r) ∧ Below w.heap.size w w' := by
 have hu56 := Try.underlying56
 have hu25 := Try.underlying25
 have hu59 := Try.underlying59
 have hu64 := Try.underlying64
 have hu68 := Try.underlying68
 have hu71 := Try.underlying71
 have O6 := Aside0.mk E2
 have P0 := Aside0.mk E6
 clear E2 E6
 have O5 := Aside0.mk E1
 have O9 := Aside0.mk E5
 clear E1 E5
 have O4 := Aside0.mk E0
 have O8 := Aside0.mk E4
 clear E0 E4
 have O3 := Aside0.mk D9
 have O7 := Aside0.mk E3
 clear D9 E3
 have HB := Aside0.mk (Below.refl w.heap.size w)
 have H : ((scarfjointlaw18_awake.f k).bind fun t1 => (if t1 = true then ((scarfjointlaw18_made.f k e9 e8 e7 e6).bind fun d9 => ((statistic_Of.f k d9.1 d9.2.1 d9.2.2.1 d9.2.2.2).bind fun n5 => (if n5.2.2 = 0 then (scarfjointlaw18_StatisticSums.l0 k 0 d9.1 (d9.1.length : Int) 0 d9.1 d9.2.1 d9.2.2.1 d9.2.2.2 n5.1 n5.2.1) else (some false)))) else (some false))) = some r := h
 clear h
 obtain ⟨t1, A2, H⟩ := obA H
 by_cases c3 : t1 = true
 rotate_left
 ·replace c3 := Bool.eq_false_iff.mpr c3
  subst c3
  replace H := iff_ H
  exact absurd (H.trans (congrArg some hr)) (by simp)
 subst c3
 replace H := ift H
 obtain ⟨⟨a0, a4, a9, b3⟩, A4, H⟩ := obA H
 try dsimp only at H
 obtain ⟨⟨a8, a7, Q7⟩, A5, H⟩ := obA H
 try dsimp only at H
 by_cases c6 : Q7 = 0
 rotate_left
 ·rw [if_neg c6] at H
  have M4 := beq_eq_false_iff_ne.mpr c6
  have M3 := bne_iff_ne.mpr c6
  exact absurd (H.trans (congrArg some hr)) (by simp)
 rw [if_pos c6] at H
 have M4 := beq_iff_eq.mpr c6
 have M3 := bne_eq_false_iff_eq.mpr c6
 clear c6
 have H' := Aside0.mk H
 clear H
 go_enter Try.func11, Try.ntmps11
 go_wp2_with (first | ((with_reducible refine gate_dst (N := 1) rfl ?_); refine be 1 #[.slice j2 e9.length h8, .slice j1 e8.length h7, .slice j0 e7.length h6, .slice h9 e6.length h5] 56 ?_; intro d1 hg w7 hbox hb; have a3 := Aside0.mk (hbox); have b4e := bsz HB hg; replace HB := bstep HB hb; clear hb hbox hg) | ((with_reducible refine gate_callee (f := 33) rfl ?_); refine gl 25 Try.func33 #[] (h := ?_); (with_reducible refine (scarfjointlaw18_awake.calls _ _ _ A2.out).mono ?_); rintro e w8 ⟨rfl, hb⟩; refine ⟨_, rfl, ?_⟩; replace a3 := bkb a3 hb; replace HB := bstep HB hb; clear hb; obtain ⟨M2, M1, M0, L9, L8, L7, L6, L5⟩ := cz4 a3) | ((with_reducible refine gate_callee (f := 34) rfl ?_); refine gl 29 Try.func34 #[.agg #[.slice j2 e9.length h8, .slice j1 e8.length h7, .slice j0 e7.length h6, .slice h9 e6.length h5]] (h := ?_); (with_reducible refine (scarfjointlaw18_made.calls _ _ _ _ _ _ _ _ _ _ _ _ _ _ _ _ _ _ (cb O6 HB) P0.out (cb O5 HB) O9.out (cb O4 HB) O8.out (cb O3 HB) O7.out A4.out).mono ?_); rintro e w10 ⟨b5e, Q1, Q0, P9, rfl, x1, x0, P2, P1, hb⟩; refine ⟨_, rfl, ?_⟩; have g4 := Aside0.mk (Kd.N_lower (Kd.N_mono (ok' := fun k_ => some k_ ≠ (Q1 : Value).ownBlock ∧ some k_ ≠ (Q0 : Value).ownBlock ∧ some k_ ≠ (P9 : Value).ownBlock ∧ k_ ≠ d1) x1 (fun k_ hk_ => ⟨hk_.2.1, hk_.2.2.1, hk_.2.2.2, (Kd.freshB (g := d1) (o := .cells #[.slice j2 e9.length h8, .slice j1 e8.length h7, .slice j0 e7.length h6, .slice h9 e6.length h5] 56 (0, 0)) (bk a3) k_ hk_.1)⟩)) (below_size (bb HB))); have g9 := Aside0.mk (Kd.R_lower (Kd.R_mono (ok' := fun k_ => True) x0 (fun _ hk_ => trivial)) (below_size (bb HB))); have g8 := Aside0.mk (Kd.R_lower (Kd.R_mono (ok' := fun k_ => True) P2 (fun _ hk_ => trivial)) (below_size (bb HB))); have g7 := Aside0.mk (Kd.R_lower (Kd.R_mono (ok' := fun k_ => True) P1 (fun _ hk_ => trivial)) (below_size (bb HB))); replace a3 := bkb a3 hb; replace HB := bstep HB hb; clear hb x1 x0 P2 P1) | ((with_reducible refine gate_dst (N := 3) rfl ?_); refine be 3 #[.slice none 0 0, .slice none 0 0] 25 ?_; intro b9 hg w11 hbox hb; replace g4 := Aside0.mk (Kd.N_below (Kd.N_elderB (kN g4) b9 (Nat.le_of_eq hg.symm)) hb); replace g9 := kRb g9 hb; replace g8 := kRb g8 hb; replace g7 := kRb g7 hb; have a2 := Aside0.mk (hbox); have b4d := bsz HB hg; replace HB := bstep HB hb; have h3 := blt a3 hg; have h2 := bgt a3 hg; replace a3 := bkb a3 hb; clear hb hbox hg) | ((with_reducible refine gate_dst (N := 4) rfl ?_); refine be 4 #[.slice none 0 0, .slice none 0 0] 59 ?_; intro b8 hg w12 hbox hb; replace g4 := Aside0.mk (Kd.N_below (Kd.N_elderB (kN g4) b8 (Nat.le_of_eq hg.symm)) hb); replace g9 := kRb g9 hb; replace g8 := kRb g8 hb; replace g7 := kRb g7 hb; have a5 := Aside0.mk (hbox); have b4c := bsz HB hg; replace HB := bstep HB hb; have q1 := blt a3 hg; have p9 := bgt a3 hg; replace a3 := bkb a3 hb; have g2 := blt a2 hg; have g1 := bgt a2 hg; replace a2 := bkb a2 hb; clear hb hbox hg; obtain ⟨q9, d5, eo13⟩ := Kd.N_slice g4.out; subst eo13; have b3c := h2.out; have b0f := h3.out; have b3b := g2.out; have b0e := g1.out; obtain ⟨J8, J7, H8, H7⟩ := cz2 a2; obtain ⟨c8, b2, eo17⟩ := Kd.R_slice g9.out; subst eo17; obtain ⟨c7, c2, eo18⟩ := Kd.R_slice g8.out; subst eo18; have b3a := p9.out; have b0d := q1.out; obtain ⟨J6, J5, H6, H5⟩ := cz2 a5; obtain ⟨d2, d0, eo21⟩ := Kd.R_slice g7.out; subst eo21) | ((with_reducible refine gate_callee (f := 35) rfl ?_); refine gl 35 Try.func35 #[.agg #[.slice q9 a0.length d5, .slice c8 a4.length b2], .agg #[.slice c7 a9.length c2, .slice d2 b3.length d0]] (h := ?_); (with_reducible refine (statistic_Of.calls _ _ _ _ _ _ _ _ _ _ _ _ _ _ _ _ _ ?m9 ?m8 ?m7 ?m6 ?m5 ?m4 ?m3 ?m2 A5.out).mono ?_); (case m9 => refine (Kd.N_reads' (e := 68) (base := w.heap.size) (ok := fun k_ => (((some k_ ≠ (.slice c8 a4.length b2 : Value).ownBlock ∧ (some k_ ≠ (.slice c7 a9.length c2 : Value).ownBlock ∧ (some k_ ≠ (.slice d2 b3.length d0 : Value).ownBlock ∧ k_ ≠ d1))) ∧ k_ ≠ b9) ∧ k_ ≠ b8)) (n := a0.length) (c := d5) ?_).2.2; exact (by (with_reducible repeat (first | apply Kd.N_alloc | apply Kd.N_drewN | apply Kd.N_drew)); exact (Kd.N_mono (Kd.N_mono (Kd.N_far (p := ⟨b8, 1, none⟩) (Kd.N_far (p := ⟨b8, 0, none⟩) (Kd.N_far (p := ⟨b9, 1, none⟩) (Kd.N_far (p := ⟨b9, 0, none⟩) (Kd.N_mono (Kd.N_mono g4.out (fun k_ hk => (⟨hk, hk.1.2⟩ : _ ∧ k_ ≠ b9))) (fun k_ hk => (⟨hk, hk.1.2⟩ : _ ∧ k_ ≠ b8))) (fun _ hk => hk.1.2) (.slice q9 a0.length d5)) (fun _ hk => hk.1.2) (.slice c8 a4.length b2)) (fun _ hk => hk.2) (.slice c7 a9.length c2)) (fun _ hk => hk.2) (.slice d2 b3.length d0)) (fun _ h_ => h_.1)) (fun _ h_ => h_.1)))); (case m8 => exact (Kd.N_reads' g4.out).2.1); (case m7 => refine (Kd.R_reads' (e := 71) (base := w.heap.size) (ok := fun k_ => True) (n := a4.length) (c := b2) ?_).2.2; exact (kt2 g9 a2 a5)); (case m6 => exact (Kd.R_reads' g9.out).2.1); (case m5 => refine (Kd.R_reads' (e := 3) (base := w.heap.size) (ok := fun k_ => True) (n := a9.length) (c := c2) ?_).2.2; exact (kt2 g8 a2 a5)); (case m4 => exact (Kd.R_reads' g8.out).2.1); (case m3 => refine (Kd.R_reads' (e := 39) (base := w.heap.size) (ok := fun k_ => True) (n := b3.length) (c := d0) ?_).2.2; exact (kt2 g7 a2 a5)); (case m2 => exact (Kd.R_reads' g7.out).2.1); rintro e w22 ⟨b5d, b5c, rfl, x1, x0, hb⟩; refine ⟨_, rfl, ?_⟩; replace g4 := Aside0.mk (Kd.N_mono (Kd.N_told (Kd.N_told (Kd.N_old (by (with_reducible repeat (first | apply Kd.N_alloc | apply Kd.N_drewN | apply Kd.N_drew)); exact (Kd.N_mono (Kd.N_mono (Kd.N_far (p := ⟨b8, 1, none⟩) (Kd.N_far (p := ⟨b8, 0, none⟩) (Kd.N_far (p := ⟨b9, 1, none⟩) (Kd.N_far (p := ⟨b9, 0, none⟩) (Kd.N_mono (Kd.N_mono g4.out (fun k_ hk => (⟨hk, hk.1.2⟩ : _ ∧ k_ ≠ b9))) (fun k_ hk => (⟨hk, hk.1.2⟩ : _ ∧ k_ ≠ b8))) (fun _ hk => hk.1.2) (.slice q9 a0.length d5)) (fun _ hk => hk.1.2) (.slice c8 a4.length b2)) (fun _ hk => hk.2) (.slice c7 a9.length c2)) (fun _ hk => hk.2) (.slice d2 b3.length d0)) (fun _ h_ => h_.1)) (fun _ h_ => h_.1))) hb) (Kd.R_base x1)) (Kd.R_base x0)) (fun _ h_ => h_.1)); replace g9 := Aside0.mk (Kd.R_below (kt2 g9 a2 a5) hb); replace g8 := Aside0.mk (Kd.R_below (kt2 g8 a2 a5) hb); replace g7 := Aside0.mk (Kd.R_below (kt2 g7 a2 a5) hb); have s7 := Aside0.mk (Kd.R_lower x1 (below_size (bb HB))); have s6 := Aside0.mk (Kd.R_lower x0 (below_size (bb HB))); replace a3 := Aside0.mk (blk_below (g := d1) (o := .cells #[.slice j2 e9.length h8, .slice j1 e8.length h7, .slice j0 e7.length h6, .slice h9 e6.length h5] 56 (0, 0)) (bkF a3) hb); replace a2 := Aside0.mk (blk_below (g := b9) (o := .cells #[.slice q9 a0.length d5, .slice c8 a4.length b2] 25 (0, 0)) (bkP a2) hb); replace a5 := Aside0.mk (blk_below (g := b8) (o := .cells #[.slice c7 a9.length c2, .slice d2 b3.length d0] 59 (0, 0)) (bkP a5) hb); replace HB := bstep HB hb) | ((with_reducible refine gate_dst (N := 5) rfl ?_); refine be 5 #[.slice none 0 0, .slice none 0 0] 64 ?_; intro d4 hg w23 hbox hb; replace g4 := Aside0.mk (Kd.N_below (Kd.N_elderB (kN g4) d4 (Nat.le_of_eq hg.symm)) hb); replace g9 := kRb g9 hb; replace g8 := kRb g8 hb; replace g7 := kRb g7 hb; replace s7 := kRb s7 hb; replace s6 := kRb s6 hb; have a6 := Aside0.mk (hbox); have b4b := bsz HB hg; replace HB := bstep HB hb; have n3 := blt a3 hg; have n2 := bgt a3 hg; replace a3 := bkb a3 hb; have h1 := blt a2 hg; have h0 := bgt a2 hg; replace a2 := bkb a2 hb; have j9 := blt a5 hg; have j8 := bgt a5 hg; replace a5 := bkb a5 hb; clear hb hbox hg; obtain ⟨c1, b5, eo24⟩ := Kd.R_slice s7.out; subst eo24; have b2j := n2.out; have b0c := n3.out; have b2i := h0.out; have b0b := h1.out; have b2h := j8.out; have b0a := j9.out; obtain ⟨J4, J3, H4, H3⟩ := cz2 a6; obtain ⟨c0, b4, eo29⟩ := Kd.R_slice s6.out; subst eo29; obtain ⟨J2, J1, H2, H1⟩ := cz2 a2))
 go_loopg [7, 43] k (fun kq v7 v43 w' => ∃ (n4 : Int) (a1 : Int), v7 = .int .i64 n4 ∧ v43 = .int .i64 a1 ∧ Aside0 (scarfjointlaw18_StatisticSums.l0 kq n4 a0 (a0.length : Int) a1 a0 a4 a9 b3 a8 a7 = some r) ∧ Aside0 (kq ≤ k) ∧ Aside0 (Kd.N k68 68 w' w.heap.size (fun k_ => some k_ ≠ ((.slice c8 a4.length b2) : Value).ownBlock ∧ some k_ ≠ ((.slice c7 a9.length c2) : Value).ownBlock ∧ some k_ ≠ ((.slice d2 b3.length d0) : Value).ownBlock ∧ some k_ ≠ ((.slice c1 a8.length b5) : Value).ownBlock ∧ some k_ ≠ ((.slice c0 a7.length b4) : Value).ownBlock ∧ k_ ≠ d1 ∧ k_ ≠ b9 ∧ k_ ≠ b8 ∧ k_ ≠ d4) (.slice q9 a0.length d5) a0) ∧ Aside0 (Kd.N k68 68 w' w.heap.size (fun k_ => some k_ ≠ ((.slice c8 a4.length b2) : Value).ownBlock ∧ some k_ ≠ ((.slice c7 a9.length c2) : Value).ownBlock ∧ some k_ ≠ ((.slice d2 b3.length d0) : Value).ownBlock ∧ some k_ ≠ ((.slice c1 a8.length b5) : Value).ownBlock ∧ some k_ ≠ ((.slice c0 a7.length b4) : Value).ownBlock ∧ k_ ≠ d1 ∧ k_ ≠ b9 ∧ k_ ≠ b8 ∧ k_ ≠ d4) (.slice q9 a0.length d5) a0) ∧ Aside0 (Kd.R k71 71 w' w.heap.size (fun _ => True) (.slice c8 a4.length b2) a4) ∧ Aside0 (Kd.R (Kd.int .i64) 3 w' w.heap.size (fun _ => True) (.slice c7 a9.length c2) a9) ∧ Aside0 (Kd.R k39 39 w' w.heap.size (fun _ => True) (.slice d2 b3.length d0) b3) ∧ Aside0 (Kd.R k88 88 w' w.heap.size (fun k_ => some k_ ≠ ((.slice c0 a7.length b4) : Value).ownBlock) (.slice c1 a8.length b5) a8) ∧ Aside0 (Kd.R k88 88 w' w.heap.size (fun k_ => some k_ ≠ ((.slice c1 a8.length b5) : Value).ownBlock) (.slice c0 a7.length b4) a7) ∧ Aside0 (w'.heap[d1]? = some (.cells #[(.slice j2 e9.length h8), (.slice j1 e8.length h7), (.slice j0 e7.length h6), (.slice h9 e6.length h5)] 56 (0, 0))) ∧ Aside0 (w'.heap[b9]? = some (.cells #[(.slice q9 a0.length d5), (.slice c8 a4.length b2)] 25 (0, 0))) ∧ Aside0 (w'.heap[b8]? = some (.cells #[(.slice c7 a9.length c2), (.slice d2 b3.length d0)] 59 (0, 0))) ∧ Aside0 (w'.heap[d4]? = some (.cells #[(.slice c1 a8.length b5), (.slice c0 a7.length b4)] 64 (0, 0))) ∧ Aside0 (Below w.heap.size w w'))
 case atStart => exact ⟨(0), (0), eqs, eqs, H', ⟨Nat.le_refl _⟩, ⟨kNm (g := d4) g4 (fun _ hk => hk.2) (fun _ hk => ⟨hk.1.1.1.1.1.1.1, ⟨hk.1.1.1.1.1.1.2.1, ⟨hk.1.1.1.1.1.1.2.2.1, ⟨hk.1.1.1.2, ⟨hk.1.1.2, ⟨hk.1.1.1.1.1.1.2.2.2, ⟨hk.1.1.1.1.1.2, ⟨hk.1.1.1.1.2, hk.1.2⟩⟩⟩⟩⟩⟩⟩⟩)⟩, ⟨kNm (g := d4) g4 (fun _ hk => hk.2) (fun _ hk => ⟨hk.1.1.1.1.1.1.1, ⟨hk.1.1.1.1.1.1.2.1, ⟨hk.1.1.1.1.1.1.2.2.1, ⟨hk.1.1.1.2, ⟨hk.1.1.2, ⟨hk.1.1.1.1.1.1.2.2.2, ⟨hk.1.1.1.1.1.2, ⟨hk.1.1.1.1.2, hk.1.2⟩⟩⟩⟩⟩⟩⟩⟩)⟩, ⟨ktm g9 a6 (fun _ hk => trivial)⟩, ⟨ktm g8 a6 (fun _ hk => trivial)⟩, ⟨ktm g7 a6 (fun _ hk => trivial)⟩, ⟨ktm s7 a6 (fun _ hk => hk.1)⟩, ⟨ktm s6 a6 (fun _ hk => hk.1)⟩, ⟨bkF a3⟩, ⟨bkF a2⟩, ⟨bkF a5⟩, ⟨bkP a6⟩, ⟨bb HB⟩⟩
 case round =>
  clear H'
  try clear M4 M3 J8 J7 J6 J5 J4 J3 J2 J1 M2 M1 M0 L9 H8 H7 H6 H5 H4 H3 H2 H1 L8 L7 L6 L5
  obtain ⟨n4, a1, rfl, rfl, HA, n7, HO_41, HO_803000, HO_803001, HO_804000, HO_804001, HO_812000, HO_812001, a3, a2, a5, a6, HB⟩ := hrel
  cases gk with
  | zero => exact absurd HA.out (by simp [scarfjointlaw18_StatisticSums.l0])
  | succ k1 =>
   have H := HA.out
   clear HA
   simp only [scarfjointlaw18_StatisticSums.l0] at H
   by_cases w1 : a1 < (a0.length : Int)
   rotate_left
   ·rw [if_neg w1] at H
    have E9 := decide_eq_false w1
    clear w1
    obtain rfl := Option.some.inj H
    have a5a := p9.out
    have a2b := q1.out
    have a4j := g1.out
    have a2a := g2.out
    have a4i := j9.out
    have a1j := j8.out
    obtain ⟨W1, W0, Q9, Q8⟩ := cz2 a5
    go_wp2
    go_ret
    exact ⟨by first | rfl | (simp <;> rfl) | (simp [*] <;> rfl), bb HB⟩
   rw [if_pos w1] at H
   have E9 := decide_eq_true w1
   clear w1
   obtain ⟨P8, H⟩ := itn H
   have O1 := decide_eq_true P8
   clear P8
   obtain ⟨P7, H⟩ := itn H
   have O0 := decide_eq_true P7
   clear P7
   obtain ⟨⟨w3, C0⟩, A34, H⟩ := obA H
   try dsimp only at H
   have H' := Aside0.mk H
   clear H
   have t3 : 0 ≤ a1 := odt
   have t2 : a1 < (a0.length : Int) := odt
   obtain ⟨e0, g6, h4, Z5, F8, F7, F6, v3, v5, v8⟩ := at_T68 (Kd.N_reads' HO_41.out).2.2 a1 t3 t2
   cases Z5
   obtain ⟨ce812, hce812, hMe812, hcc812⟩ := Kd.N_get HO_41.out z68 a1 t3 (by first | exact t2 | exact odt | (have e_ := (Kd.N_reads' HO_41.out).1; omega))
   obtain ⟨ua812_3, uc812_3, rfl, ul812_3, ge812_3⟩ := k68_openF hMe812
   have hv812_3 := hcc812 3 _ rfl
   rw [add_field _ _ 3 (by omega)] at hv812_3
   replace hv812_3 := Option.some.inj (hv812_3.symm.trans v3)
   injection hv812_3 with hva_ hvn_ hvc_
   rw [hva_] at ge812_3
   rw [hvc_] at ul812_3
   have HL812_3 := Aside0.mk (show Kd.V k77 77 _ w.heap.size _ _ ((rd_T68 a0 a1).f3) from Kd.V_mk ul812_3 ge812_3)
   clear hva_ hvn_ hvc_ ge812_3 ul812_3 hcc812 hce812
   have j4 := Aside0.mk v8
   have a1i := Aside0.mk v5
   clear v8 v5
   replace t3 := eq_true t3
   replace t2 := eq_true t2
   go_wp2_with (first | ((with_reducible refine gate_dst (N := 9) rfl ?_); refine be 9 #[.string (⟨#[]⟩ : ByteArray), .int .i64 0, .bool false, .slice none 0 0] 68 ?_; intro b1 hg w35 hbox hb; have s4 := Aside0.mk (Kd.N_below (Kd.N_elderB (kN HO_41) b1 (Nat.le_of_eq hg.symm)) hb); have s3 := Aside0.mk (Kd.N_below (Kd.N_elderB (kN HO_803000) b1 (Nat.le_of_eq hg.symm)) hb); have s2 := kRb HO_803001 hb; have s1 := kRb HO_804000 hb; have s0 := kRb HO_804001 hb; have r9 := kRb HO_812000 hb; have r8 := kRb HO_812001 hb; have r7 := Aside0.mk (Kd.V_below (Kd.V_elderB (kV HL812_3) b1 (Nat.le_of_eq hg.symm)) hb); have r6 := bkb a3 hb; have r5 := bkb a2 hb; have p4 := bkb a5 hb; have p3 := bkb a6 hb; have p2 := kCb j4 hb; have p1 := bstep HB hb; have p0 := Aside0.mk (hbox); have o9 := bsz HB hg; have o8 := bsz HB hg; have o7 := blt a3 hg; have o6 := bgt a3 hg; have o5 := blt a2 hg; have o4 := bgt a2 hg; have o3 := blt a5 hg; have o2 := bgt a5 hg; have o1 := blt a6 hg; have o0 := bgt a6 hg; clear HO_41 HO_803000; clear HO_803001 HO_804000; clear HO_804001 HO_812000; clear HO_812001 HL812_3; clear a3 a2; clear a5 a6; clear j4 HB; have HO_41 := s4; have HO_803000 := s3; have HO_803001 := s2; have HO_804000 := s1; have HO_804001 := s0; have HO_812000 := r9; have HO_812001 := r8; have HL812_3 := r7; have a3 := r6; have a2 := r5; have a5 := p4; have a6 := p3; have j4 := p2; have HB := p1; have b0 := p0; have b4a := o9; have b4h := o8; have q0 := o7; have p7 := o6; have m0 := o5; have j7 := o4; have p8 := o3; have p6 := o2; have n1 := o1; have n0 := o0; clear s4 s3 s2 s1 s0 r9 r8 r7 r6 r5 p4 p3 p2 p1 p0 o9 o8 o7 o6 o5 o4 o3 o2 o1 o0; clear hb hbox hg; have b2g := p7.out; have a9j := q0.out; have b2f := j7.out; have a9i := m0.out; have b2e := p6.out; have a9h := p8.out; have b2d := n0.out; have a9g := n1.out; obtain ⟨J0, I9, I8, I7, H0, G9, G8, G7⟩ := cz4 b0; have b2c := h2.out; have a9f := h3.out; have b2b := g2.out; have a9e := g1.out; have b2a := h1.out; have a9d := h0.out; obtain ⟨I6, I5, G6, G5⟩ := cz2 a2; have b1j := n2.out; have a9c := n3.out; have b1i := j8.out; have a9b := j9.out; obtain ⟨I4, I3, G4, G3⟩ := cz2 a6) | ((with_reducible refine gate_callee (f := 36) rfl ?_); refine gl 52 Try.func36 #[.agg #[.slice (some e0) a0.length d5, .slice c8 a4.length b2], .agg #[.slice c1 a8.length b5, .slice c0 a7.length b4], .int .i64 a1] (h := ?_); (with_reducible refine (statistic_Nodes.calls _ _ _ _ _ _ _ _ _ _ _ _ _ _ _ _ _ ?m9 ?m8 ?m7 ?m6 ?m5 ?m4 ?m3 ?m2 A34.out).mono ?_); (case m9 => refine (Kd.N_reads' (e := 68) (base := w.heap.size) (ok := fun k_ => ((some k_ ≠ (.slice c8 a4.length b2 : Value).ownBlock ∧ (some k_ ≠ (.slice c7 a9.length c2 : Value).ownBlock ∧ (some k_ ≠ (.slice d2 b3.length d0 : Value).ownBlock ∧ (some k_ ≠ (.slice c1 a8.length b5 : Value).ownBlock ∧ (some k_ ≠ (.slice c0 a7.length b4 : Value).ownBlock ∧ (k_ ≠ d1 ∧ (k_ ≠ b9 ∧ (k_ ≠ b8 ∧ k_ ≠ d4)))))))) ∧ k_ ≠ b1)) (n := a0.length) (c := d5) ?_).2.2; exact (kNn (g := b1) HO_803000 (fun _ hk => hk.2))); (case m8 => exact (Kd.N_reads' HO_803000.out).2.1); (case m7 => refine (Kd.R_reads' (e := 71) (base := w.heap.size) (ok := fun k_ => True) (n := a4.length) (c := b2) ?_).2.2; exact (kt HO_803001 b0)); (case m6 => exact (Kd.R_reads' HO_803001.out).2.1); (case m5 => refine (Kd.R_reads' (e := 88) (base := w.heap.size) (ok := fun k_ => some k_ ≠ (.slice c0 a7.length b4 : Value).ownBlock) (n := a8.length) (c := b5) ?_).2.2; exact (kt HO_812000 b0)); (case m4 => exact (Kd.R_reads' HO_812000.out).2.1); (case m3 => refine (Kd.R_reads' (e := 88) (base := w.heap.size) (ok := fun k_ => some k_ ≠ (.slice c1 a8.length b5 : Value).ownBlock) (n := a7.length) (c := b4) ?_).2.2; exact (kt HO_812001 b0)); (case m2 => exact (Kd.R_reads' HO_812001.out).2.1); rintro e w48 ⟨rfl, hb⟩; refine ⟨_, rfl, ?_⟩; replace HO_41 := Aside0.mk (Kd.N_below (kNn (g := b1) HO_41 (fun _ hk => hk.2)) hb); replace HO_803000 := Aside0.mk (Kd.N_below (kNn (g := b1) HO_803000 (fun _ hk => hk.2)) hb); replace HO_803001 := Aside0.mk (Kd.R_below (kt HO_803001 b0) hb); replace HO_804000 := Aside0.mk (Kd.R_below (kt HO_804000 b0) hb); replace HO_804001 := Aside0.mk (Kd.R_below (kt HO_804001 b0) hb); replace HO_812000 := Aside0.mk (Kd.R_below (kt HO_812000 b0) hb); replace HO_812001 := Aside0.mk (Kd.R_below (kt HO_812001 b0) hb); replace a3 := Aside0.mk (blk_below (g := d1) (o := .cells #[.slice j2 e9.length h8, .slice j1 e8.length h7, .slice j0 e7.length h6, .slice h9 e6.length h5] 56 (0, 0)) (bkF a3) hb); replace a2 := Aside0.mk (blk_below (g := b9) (o := .cells #[.slice (some e0) a0.length d5, .slice c8 a4.length b2] 25 (0, 0)) (bkF a2) hb); replace a5 := Aside0.mk (blk_below (g := b8) (o := .cells #[.slice c7 a9.length c2, .slice d2 b3.length d0] 59 (0, 0)) (bkF a5) hb); replace a6 := Aside0.mk (blk_below (g := d4) (o := .cells #[.slice c1 a8.length b5, .slice c0 a7.length b4] 64 (0, 0)) (bkF a6) hb); replace j4 := Aside0.mk (Kd.C_below ((Kd.V_reads' (by (with_reducible repeat (first | apply Kd.V_alloc | apply Kd.V_drewN | apply Kd.V_drew)); exact (Kd.V_mono (Kd.V_far (p := ⟨b1, 3, none⟩) (Kd.V_far (p := ⟨b1, 2, none⟩) (Kd.V_far (p := ⟨b1, 1, none⟩) (Kd.V_far (p := ⟨b1, 0, none⟩) (Kd.V_mono HL812_3.out (fun k_ hk => (⟨hk, hk.2⟩ : _ ∧ k_ ≠ b1))) (fun _ hk => hk.2) (.string ((rd_T68 a0 a1).f0))) (fun _ hk => hk.2) (.int .i64 ((rd_T68 a0 a1).f1))) (fun _ hk => hk.2) (.bool ((rd_T68 a0 a1).f2))) (fun _ hk => hk.2) (.slice g6 ((rd_T68 a0 a1).f3).length h4)) (fun _ h_ => h_.1)))).2.2) hb); replace HL812_3 := Aside0.mk (Kd.V_below (by (with_reducible repeat (first | apply Kd.V_alloc | apply Kd.V_drewN | apply Kd.V_drew)); exact (Kd.V_mono (Kd.V_far (p := ⟨b1, 3, none⟩) (Kd.V_far (p := ⟨b1, 2, none⟩) (Kd.V_far (p := ⟨b1, 1, none⟩) (Kd.V_far (p := ⟨b1, 0, none⟩) (Kd.V_mono HL812_3.out (fun k_ hk => (⟨hk, hk.2⟩ : _ ∧ k_ ≠ b1))) (fun _ hk => hk.2) (.string ((rd_T68 a0 a1).f0))) (fun _ hk => hk.2) (.int .i64 ((rd_T68 a0 a1).f1))) (fun _ hk => hk.2) (.bool ((rd_T68 a0 a1).f2))) (fun _ hk => hk.2) (.slice g6 ((rd_T68 a0 a1).f3).length h4)) (fun _ h_ => h_.1))) hb); replace b0 := Aside0.mk (blk_below (g := b1) (o := .cells #[.string ((rd_T68 a0 a1).f0), .int .i64 ((rd_T68 a0 a1).f1), .bool ((rd_T68 a0 a1).f2), .slice g6 ((rd_T68 a0 a1).f3).length h4] 68 (0, 0)) (bkP b0) hb); replace HB := bstep HB hb; have b1h := p9.out; have a9a := q1.out; obtain ⟨I2, I1, G2, G1⟩ := cz2 a5))
   go_loopg [12, 58] k1 (fun kq L2 v58 w' => ∃ (s5 : Int) (m1 : Int), L2 = .int .i64 s5 ∧ v58 = .int .i64 m1 ∧ Aside0 (scarfjointlaw18_StatisticSums.l1 kq n4 a1 w3 C0 s5 a0 (a0.length : Int) a1 a9 (a9.length : Int) m1 a0 a4 a9 b3 a8 a7 ((rd_T68 a0 a1).f0) ((rd_T68 a0 a1).f1) ((rd_T68 a0 a1).f2) ((rd_T68 a0 a1).f3) = some r) ∧ Aside0 (kq ≤ k1) ∧ Aside0 (Kd.N k68 68 w' w.heap.size (fun k_ => some k_ ≠ ((.slice c7 a9.length c2) : Value).ownBlock ∧ some k_ ≠ ((.slice c8 a4.length b2) : Value).ownBlock ∧ some k_ ≠ ((.slice c7 a9.length c2) : Value).ownBlock ∧ some k_ ≠ ((.slice d2 b3.length d0) : Value).ownBlock ∧ some k_ ≠ ((.slice c1 a8.length b5) : Value).ownBlock ∧ some k_ ≠ ((.slice c0 a7.length b4) : Value).ownBlock ∧ k_ ≠ d1 ∧ k_ ≠ b9 ∧ k_ ≠ b8 ∧ k_ ≠ d4 ∧ k_ ≠ b1) (.slice (some e0) a0.length d5) a0) ∧ Aside0 (Kd.R (Kd.int .i64) 3 w' w.heap.size (fun _ => True) (.slice c7 a9.length c2) a9) ∧ Aside0 (Kd.N k68 68 w' w.heap.size (fun k_ => some k_ ≠ ((.slice c7 a9.length c2) : Value).ownBlock ∧ some k_ ≠ ((.slice c8 a4.length b2) : Value).ownBlock ∧ some k_ ≠ ((.slice c7 a9.length c2) : Value).ownBlock ∧ some k_ ≠ ((.slice d2 b3.length d0) : Value).ownBlock ∧ some k_ ≠ ((.slice c1 a8.length b5) : Value).ownBlock ∧ some k_ ≠ ((.slice c0 a7.length b4) : Value).ownBlock ∧ k_ ≠ d1 ∧ k_ ≠ b9 ∧ k_ ≠ b8 ∧ k_ ≠ d4 ∧ k_ ≠ b1) (.slice (some e0) a0.length d5) a0) ∧ Aside0 (Kd.R k71 71 w' w.heap.size (fun _ => True) (.slice c8 a4.length b2) a4) ∧ Aside0 (Kd.R (Kd.int .i64) 3 w' w.heap.size (fun _ => True) (.slice c7 a9.length c2) a9) ∧ Aside0 (Kd.R k39 39 w' w.heap.size (fun _ => True) (.slice d2 b3.length d0) b3) ∧ Aside0 (Kd.R k88 88 w' w.heap.size (fun k_ => some k_ ≠ ((.slice c0 a7.length b4) : Value).ownBlock) (.slice c1 a8.length b5) a8) ∧ Aside0 (Kd.R k88 88 w' w.heap.size (fun k_ => some k_ ≠ ((.slice c1 a8.length b5) : Value).ownBlock) (.slice c0 a7.length b4) a7) ∧ Aside0 (w'.heap[d1]? = some (.cells #[(.slice j2 e9.length h8), (.slice j1 e8.length h7), (.slice j0 e7.length h6), (.slice h9 e6.length h5)] 56 (0, 0))) ∧ Aside0 (w'.heap[b9]? = some (.cells #[(.slice (some e0) a0.length d5), (.slice c8 a4.length b2)] 25 (0, 0))) ∧ Aside0 (w'.heap[b8]? = some (.cells #[(.slice c7 a9.length c2), (.slice d2 b3.length d0)] 59 (0, 0))) ∧ Aside0 (w'.heap[d4]? = some (.cells #[(.slice c1 a8.length b5), (.slice c0 a7.length b4)] 64 (0, 0))) ∧ Aside0 (w'.heap[b1]? = some (.cells #[.string ((rd_T68 a0 a1).f0), .int .i64 ((rd_T68 a0 a1).f1), .bool ((rd_T68 a0 a1).f2), (.slice g6 ((rd_T68 a0 a1).f3).length h4)] 68 (0, 0))) ∧ Aside0 (Kd.C k77 w' g6 ((rd_T68 a0 a1).f3).length ((rd_T68 a0 a1).f3)) ∧ Aside0 (Below w.heap.size w w'))
   case atStart => exact ⟨(0), (0), eqs, eqs, H', ⟨Nat.le_refl _⟩, ⟨kNmm HO_41 (fun _ hk => ⟨hk.1.2.1, ⟨hk.1.1, ⟨hk.1.2.1, ⟨hk.1.2.2.1, ⟨hk.1.2.2.2.1, ⟨hk.1.2.2.2.2.1, ⟨hk.1.2.2.2.2.2.1, ⟨hk.1.2.2.2.2.2.2.1, ⟨hk.1.2.2.2.2.2.2.2.1, ⟨hk.1.2.2.2.2.2.2.2.2, hk.2⟩⟩⟩⟩⟩⟩⟩⟩⟩⟩)⟩, ⟨kR HO_804000⟩, ⟨kNmm HO_803000 (fun _ hk => ⟨hk.1.2.1, ⟨hk.1.1, ⟨hk.1.2.1, ⟨hk.1.2.2.1, ⟨hk.1.2.2.2.1, ⟨hk.1.2.2.2.2.1, ⟨hk.1.2.2.2.2.2.1, ⟨hk.1.2.2.2.2.2.2.1, ⟨hk.1.2.2.2.2.2.2.2.1, ⟨hk.1.2.2.2.2.2.2.2.2, hk.2⟩⟩⟩⟩⟩⟩⟩⟩⟩⟩)⟩, ⟨kR HO_803001⟩, ⟨kR HO_804000⟩, ⟨kR HO_804001⟩, ⟨kR HO_812000⟩, ⟨kR HO_812001⟩, ⟨bk a3⟩, ⟨bk a2⟩, ⟨bk a5⟩, ⟨bk a6⟩, ⟨bk b0⟩, ⟨kC j4⟩, ⟨bb HB⟩⟩
   case round =>
    clear H'
    try clear E9 O1 O0 J0 I9 I8 I7 I6 I5 I4 I3 I2 I1 H0 G9 G8 G7 G6 G5 G4 G3 G2 G1 F8 F7 F6 v3 t3 t2
    obtain ⟨s5, m1, rfl, rfl, HA, n6, HO_41, HO_56, HO_803000, HO_803001, HO_804000, HO_804001, HO_812000, HO_812001, a3, a2, a5, a6, b0, j4, HB⟩ := hrel
    cases gk with
    | zero => exact absurd HA.out (by simp [scarfjointlaw18_StatisticSums.l1])
    | succ k2 =>
     have H := HA.out
     clear HA
     simp only [scarfjointlaw18_StatisticSums.l1] at H
     by_cases w0 : m1 < (a9.length : Int)
     ·rw [if_pos w0] at H
      have E8 := decide_eq_true w0
      clear w0
      obtain ⟨P6, H⟩ := itn H
      have b3g := decide_eq_true P6
      clear P6
      obtain ⟨P5, H⟩ := itn H
      have b3f := decide_eq_true P5
      clear P5
      by_cases t9 : (rd a9 m1) = a1
      rw [if_pos t9] at H
      have N9 := beq_iff_eq.mpr t9
      have N8 := bne_eq_false_iff_eq.mpr t9
      clear t9
      have H' := Aside0.mk H
      clear H
      rotate_left
      rw [if_neg t9] at H
      have N9 := beq_eq_false_iff_ne.mpr t9
      have N8 := bne_iff_ne.mpr t9
      have H' := Aside0.mk H
      clear H
      all_goals
       have C4 : 0 ≤ m1 := odt
       have C2 : m1 < (a9.length : Int) := odt
       obtain ⟨b3h, Z4, a0i⟩ := Kd.at_int (Kd.R_reads' HO_56.out).2.2 m1 C4 C2
       cases Z4
       replace C4 := eq_true C4
       replace C2 := eq_true C2
       go_wp2
       go_roundg k2
       case measure => have := n7.out; have := n6.out; omega
       case rel => exact ⟨_, (wrap64 (m1 + 1)), eqs, eqs, H', ⟨by have := n7.out; have := n6.out; omega⟩, ⟨kN HO_41⟩, ⟨kR HO_56⟩, ⟨kN HO_803000⟩, ⟨kR HO_803001⟩, ⟨kR HO_804000⟩, ⟨kR HO_804001⟩, ⟨kR HO_812000⟩, ⟨kR HO_812001⟩, ⟨bk a3⟩, ⟨bk a2⟩, ⟨bk a5⟩, ⟨bk a6⟩, ⟨bk b0⟩, ⟨kC j4⟩, ⟨bb HB⟩⟩
     rw [if_neg w0] at H
     have E8 := decide_eq_false w0
     clear w0
     have H' := Aside0.mk H
     clear H
     have b1g := h2.out
     have a8j := h3.out
     have b1f := g2.out
     have a8i := g1.out
     have b1e := h1.out
     have a8h := h0.out
     have b1d := m0.out
     have a8g := j7.out
     obtain ⟨I0, H9, G0, F9⟩ := cz2 a2
     go_wp2
     go_loopg [12, 71] k2 (fun kq L2 v71 w' => ∃ (r0 : Int) (d3 : Int), L2 = .int .i64 r0 ∧ v71 = .int .i64 d3 ∧ Aside0 (scarfjointlaw18_StatisticSums.l2 kq n4 a1 w3 C0 r0 a0 (a0.length : Int) a1 a0 (a0.length : Int) d3 a0 a4 a9 b3 a8 a7 ((rd_T68 a0 a1).f0) ((rd_T68 a0 a1).f1) ((rd_T68 a0 a1).f2) ((rd_T68 a0 a1).f3) = some r) ∧ Aside0 (kq ≤ k2) ∧ Aside0 (Kd.N k68 68 w' w.heap.size (fun k_ => some k_ ≠ ((.slice c8 a4.length b2) : Value).ownBlock ∧ some k_ ≠ ((.slice c7 a9.length c2) : Value).ownBlock ∧ some k_ ≠ ((.slice d2 b3.length d0) : Value).ownBlock ∧ some k_ ≠ ((.slice c1 a8.length b5) : Value).ownBlock ∧ some k_ ≠ ((.slice c0 a7.length b4) : Value).ownBlock ∧ k_ ≠ d1 ∧ k_ ≠ b9 ∧ k_ ≠ b8 ∧ k_ ≠ d4 ∧ k_ ≠ b1) (.slice (some e0) a0.length d5) a0) ∧ Aside0 (Kd.N k68 68 w' w.heap.size (fun k_ => some k_ ≠ ((.slice c8 a4.length b2) : Value).ownBlock ∧ some k_ ≠ ((.slice c7 a9.length c2) : Value).ownBlock ∧ some k_ ≠ ((.slice d2 b3.length d0) : Value).ownBlock ∧ some k_ ≠ ((.slice c1 a8.length b5) : Value).ownBlock ∧ some k_ ≠ ((.slice c0 a7.length b4) : Value).ownBlock ∧ k_ ≠ d1 ∧ k_ ≠ b9 ∧ k_ ≠ b8 ∧ k_ ≠ d4 ∧ k_ ≠ b1) (.slice (some e0) a0.length d5) a0) ∧ Aside0 (Kd.N k68 68 w' w.heap.size (fun k_ => some k_ ≠ ((.slice c8 a4.length b2) : Value).ownBlock ∧ some k_ ≠ ((.slice c7 a9.length c2) : Value).ownBlock ∧ some k_ ≠ ((.slice d2 b3.length d0) : Value).ownBlock ∧ some k_ ≠ ((.slice c1 a8.length b5) : Value).ownBlock ∧ some k_ ≠ ((.slice c0 a7.length b4) : Value).ownBlock ∧ k_ ≠ d1 ∧ k_ ≠ b9 ∧ k_ ≠ b8 ∧ k_ ≠ d4 ∧ k_ ≠ b1) (.slice (some e0) a0.length d5) a0) ∧ Aside0 (Kd.R k71 71 w' w.heap.size (fun _ => True) (.slice c8 a4.length b2) a4) ∧ Aside0 (Kd.R (Kd.int .i64) 3 w' w.heap.size (fun _ => True) (.slice c7 a9.length c2) a9) ∧ Aside0 (Kd.R k39 39 w' w.heap.size (fun _ => True) (.slice d2 b3.length d0) b3) ∧ Aside0 (Kd.R k88 88 w' w.heap.size (fun k_ => some k_ ≠ ((.slice c0 a7.length b4) : Value).ownBlock) (.slice c1 a8.length b5) a8) ∧ Aside0 (Kd.R k88 88 w' w.heap.size (fun k_ => some k_ ≠ ((.slice c1 a8.length b5) : Value).ownBlock) (.slice c0 a7.length b4) a7) ∧ Aside0 (w'.heap[d1]? = some (.cells #[(.slice j2 e9.length h8), (.slice j1 e8.length h7), (.slice j0 e7.length h6), (.slice h9 e6.length h5)] 56 (0, 0))) ∧ Aside0 (w'.heap[b9]? = some (.cells #[(.slice (some e0) a0.length d5), (.slice c8 a4.length b2)] 25 (0, 0))) ∧ Aside0 (w'.heap[b8]? = some (.cells #[(.slice c7 a9.length c2), (.slice d2 b3.length d0)] 59 (0, 0))) ∧ Aside0 (w'.heap[d4]? = some (.cells #[(.slice c1 a8.length b5), (.slice c0 a7.length b4)] 64 (0, 0))) ∧ Aside0 (w'.heap[b1]? = some (.cells #[.string ((rd_T68 a0 a1).f0), .int .i64 ((rd_T68 a0 a1).f1), .bool ((rd_T68 a0 a1).f2), (.slice g6 ((rd_T68 a0 a1).f3).length h4)] 68 (0, 0))) ∧ Aside0 (Below w.heap.size w w'))
     case atStart => exact ⟨(s5), (0), eqs, eqs, H', ⟨Nat.le_refl _⟩, ⟨kNmm HO_41 (fun _ hk => ⟨hk.2.1, ⟨hk.2.2.1, ⟨hk.2.2.2.1, ⟨hk.2.2.2.2.1, ⟨hk.2.2.2.2.2.1, ⟨hk.2.2.2.2.2.2.1, ⟨hk.2.2.2.2.2.2.2.1, ⟨hk.2.2.2.2.2.2.2.2.1, ⟨hk.2.2.2.2.2.2.2.2.2.1, hk.2.2.2.2.2.2.2.2.2.2⟩⟩⟩⟩⟩⟩⟩⟩⟩)⟩, ⟨kNmm HO_803000 (fun _ hk => ⟨hk.2.1, ⟨hk.2.2.1, ⟨hk.2.2.2.1, ⟨hk.2.2.2.2.1, ⟨hk.2.2.2.2.2.1, ⟨hk.2.2.2.2.2.2.1, ⟨hk.2.2.2.2.2.2.2.1, ⟨hk.2.2.2.2.2.2.2.2.1, ⟨hk.2.2.2.2.2.2.2.2.2.1, hk.2.2.2.2.2.2.2.2.2.2⟩⟩⟩⟩⟩⟩⟩⟩⟩)⟩, ⟨kNmm HO_803000 (fun _ hk => ⟨hk.2.1, ⟨hk.2.2.1, ⟨hk.2.2.2.1, ⟨hk.2.2.2.2.1, ⟨hk.2.2.2.2.2.1, ⟨hk.2.2.2.2.2.2.1, ⟨hk.2.2.2.2.2.2.2.1, ⟨hk.2.2.2.2.2.2.2.2.1, ⟨hk.2.2.2.2.2.2.2.2.2.1, hk.2.2.2.2.2.2.2.2.2.2⟩⟩⟩⟩⟩⟩⟩⟩⟩)⟩, ⟨kR HO_803001⟩, ⟨kR HO_804000⟩, ⟨kR HO_804001⟩, ⟨kR HO_812000⟩, ⟨kR HO_812001⟩, ⟨bk a3⟩, ⟨bk a2⟩, ⟨bk a5⟩, ⟨bk a6⟩, ⟨bk b0⟩, ⟨bb HB⟩⟩
     case round =>
      clear H'
      try clear E8 I0 H9 G0 F9
      obtain ⟨r0, d3, rfl, rfl, HA, q5, HO_41, HO_69, HO_803000, HO_803001, HO_804000, HO_804001, HO_812000, HO_812001, a3, a2, a5, a6, b0, HB⟩ := hrel
      cases gk with
      | zero => exact absurd HA.out (by simp [scarfjointlaw18_StatisticSums.l2])
      | succ k3 =>
       have H := HA.out
       clear HA
       simp only [scarfjointlaw18_StatisticSums.l2] at H
       by_cases v9 : d3 < (a0.length : Int)
       ·rw [if_pos v9] at H
        have E7 := decide_eq_true v9
        clear v9
        obtain ⟨P4, H⟩ := itn H
        have b3e := decide_eq_true P4
        clear P4
        obtain ⟨P3, H⟩ := itn H
        have b3d := decide_eq_true P3
        clear P3
        by_cases t8 : ((rd_T68 a0 d3).f1) = a1
        rw [if_pos t8] at H
        have N7 := beq_iff_eq.mpr t8
        have N6 := bne_eq_false_iff_eq.mpr t8
        clear t8
        obtain ⟨⟨Q6, Q5⟩, A64, H⟩ := obA H
        try dsimp only at H
        by_cases t7 : Q5 = 0
        rotate_left
        rw [if_neg t7] at H
        have N5 := beq_eq_false_iff_ne.mpr t7
        have N4 := bne_iff_ne.mpr t7
        exact absurd (H.trans (congrArg some hr)) (by simp)
        rotate_left
        rw [if_pos t7] at H
        have N5 := beq_iff_eq.mpr t7
        have N4 := bne_eq_false_iff_eq.mpr t7
        clear t7
        have H' := Aside0.mk H
        clear H
        rotate_left
        rw [if_neg t8] at H
        have N7 := beq_eq_false_iff_ne.mpr t8
        have N6 := bne_iff_ne.mpr t8
        have H' := Aside0.mk H
        clear H
        all_goals
         have w5 : 0 ≤ d3 := odt
         have w4 : d3 < (a0.length : Int) := odt
         obtain ⟨O2, v1, t6, Z3, a0h, a0g, a0f, F5, v4, v6⟩ := at_T68 (Kd.N_reads' HO_69.out).2.2 d3 w5 w4
         obtain rfl : e0 = O2 := (by injection Z3)
         obtain ⟨ce817, hce817, hMe817, hcc817⟩ := Kd.N_get HO_69.out z68 d3 w5 (by first | exact w4 | exact odt | (have e_ := (Kd.N_reads' HO_69.out).1; omega))
         obtain ⟨ua817_3, uc817_3, rfl, ul817_3, ge817_3⟩ := k68_openF hMe817
         have hv817_3 := hcc817 3 _ rfl
         rw [add_field _ _ 3 (by omega)] at hv817_3
         replace hv817_3 := Option.some.inj (hv817_3.symm.trans F5)
         injection hv817_3 with hva_ hvn_ hvc_
         rw [hva_] at ge817_3
         rw [hvc_] at ul817_3
         have HL817_3 := Aside0.mk (show Kd.V k77 77 _ w.heap.size _ _ ((rd_T68 a0 d3).f3) from Kd.V_mk ul817_3 ge817_3)
         clear hva_ hvn_ hvc_ ge817_3 ul817_3 hcc817 hce817
         have q3 := Aside0.mk v6
         have a1h := Aside0.mk v4
         clear v6 v4
         replace w5 := eq_true w5
         replace w4 := eq_true w4
         go_wp2_with (first | ((with_reducible refine gate_dst (N := 16) rfl ?_); refine be 16 #[.string (⟨#[]⟩ : ByteArray), .int .i64 0, .bool false, .slice none 0 0] 68 ?_; intro d7 hg b5b hbox hb; have s4 := Aside0.mk (Kd.N_below (Kd.N_elderB (kN HO_41) d7 (Nat.le_of_eq hg.symm)) hb); have s3 := Aside0.mk (Kd.N_below (Kd.N_elderB (kN HO_69) d7 (Nat.le_of_eq hg.symm)) hb); have s2 := Aside0.mk (Kd.N_below (Kd.N_elderB (kN HO_803000) d7 (Nat.le_of_eq hg.symm)) hb); have s1 := kRb HO_803001 hb; have s0 := kRb HO_804000 hb; have r9 := kRb HO_804001 hb; have r8 := kRb HO_812000 hb; have r7 := kRb HO_812001 hb; have r6 := Aside0.mk (Kd.V_below (Kd.V_elderB (kV HL817_3) d7 (Nat.le_of_eq hg.symm)) hb); have r5 := bkb a3 hb; have p4 := bkb a2 hb; have p3 := bkb a5 hb; have p2 := bkb a6 hb; have p1 := bkb b0 hb; have p0 := kCb q3 hb; have o9 := bstep HB hb; have o8 := Aside0.mk (hbox); have o7 := bsz HB hg; have o6 := bsz HB hg; have o5 := blt a3 hg; have o4 := bgt a3 hg; have o3 := blt a2 hg; have o2 := bgt a2 hg; have o1 := blt a5 hg; have o0 := bgt a5 hg; have t5 := blt a6 hg; have t4 := bgt a6 hg; have L4 := blt b0 hg; have L3 := bgt b0 hg; clear HO_41 HO_69; clear HO_803000 HO_803001; clear HO_804000 HO_804001; clear HO_812000 HO_812001; clear HL817_3 a3; clear a2 a5; clear a6 b0; clear q3 HB; have HO_41 := s4; have HO_69 := s3; have HO_803000 := s2; have HO_803001 := s1; have HO_804000 := s0; have HO_804001 := r9; have HO_812000 := r8; have HO_812001 := r7; have HL817_3 := r6; have a3 := r5; have a2 := p4; have a5 := p3; have a6 := p2; have b0 := p1; have q3 := p0; have HB := o9; have e5 := o8; have b3j := o7; have b4g := o6; have A7 := o5; have y4 := o4; have A3 := o3; have y3 := o2; have A0 := o1; have y2 := o0; have y8 := t5; have y1 := t4; have y6 := L4; have y0 := L3; clear s4 s3 s2 s1 s0 r9 r8 r7 r6 r5 p4 p3 p2 p1 p0 o9 o8 o7 o6 o5 o4 o3 o2 o1 o0 t5 t4 L4 L3; clear hb hbox hg; have a7g := y4.out; have a4h := A7.out; have a7f := y3.out; have a4g := A3.out; have a7e := y2.out; have a4f := A0.out; have a7d := y1.out; have a4e := y8.out; have a7c := y0.out; have a4d := y6.out; obtain ⟨Z1, Z0, Y9, Y8, V9, V8, V7, V6⟩ := cz4 e5; have b1c := h2.out; have a8f := h3.out; have b1b := g2.out; have a8e := g1.out; have b1a := h1.out; have a8d := h0.out; have b0j := m0.out; have a8c := j7.out; obtain ⟨a1g, a1f, a1c, a1b⟩ := cz2 a2; have b0i := n2.out; have a8b := n3.out; have b0h := j8.out; have a8a := j9.out; have b0g := n1.out; have a7j := n0.out; obtain ⟨a1e, a1d, a1a, a0j⟩ := cz2 a6) | ((with_reducible refine gate_callee (f := 36) rfl ?_); refine gl 84 Try.func36 #[.agg #[.slice (some e0) a0.length d5, .slice c8 a4.length b2], .agg #[.slice c1 a8.length b5, .slice c0 a7.length b4], .int .i64 d3] (h := ?_); (with_reducible refine (statistic_Nodes.calls _ _ _ _ _ _ _ _ _ _ _ _ _ _ _ _ _ ?m9 ?m8 ?m7 ?m6 ?m5 ?m4 ?m3 ?m2 A64.out).mono ?_); (case m9 => refine (Kd.N_reads' (e := 68) (base := w.heap.size) (ok := fun k_ => ((some k_ ≠ (.slice c8 a4.length b2 : Value).ownBlock ∧ (some k_ ≠ (.slice c7 a9.length c2 : Value).ownBlock ∧ (some k_ ≠ (.slice d2 b3.length d0 : Value).ownBlock ∧ (some k_ ≠ (.slice c1 a8.length b5 : Value).ownBlock ∧ (some k_ ≠ (.slice c0 a7.length b4 : Value).ownBlock ∧ (k_ ≠ d1 ∧ (k_ ≠ b9 ∧ (k_ ≠ b8 ∧ (k_ ≠ d4 ∧ k_ ≠ b1))))))))) ∧ k_ ≠ d7)) (n := a0.length) (c := d5) ?_).2.2; exact (kNn (g := d7) HO_803000 (fun _ hk => hk.2))); (case m8 => exact (Kd.N_reads' HO_803000.out).2.1); (case m7 => refine (Kd.R_reads' (e := 71) (base := w.heap.size) (ok := fun k_ => True) (n := a4.length) (c := b2) ?_).2.2; exact (kt HO_803001 e5)); (case m6 => exact (Kd.R_reads' HO_803001.out).2.1); (case m5 => refine (Kd.R_reads' (e := 88) (base := w.heap.size) (ok := fun k_ => some k_ ≠ (.slice c0 a7.length b4 : Value).ownBlock) (n := a8.length) (c := b5) ?_).2.2; exact (kt HO_812000 e5)); (case m4 => exact (Kd.R_reads' HO_812000.out).2.1); (case m3 => refine (Kd.R_reads' (e := 88) (base := w.heap.size) (ok := fun k_ => some k_ ≠ (.slice c1 a8.length b5 : Value).ownBlock) (n := a7.length) (c := b4) ?_).2.2; exact (kt HO_812001 e5)); (case m2 => exact (Kd.R_reads' HO_812001.out).2.1); rintro e w82 ⟨rfl, hb⟩; refine ⟨_, rfl, ?_⟩; replace HO_41 := Aside0.mk (Kd.N_below (kNn (g := d7) HO_41 (fun _ hk => hk.2)) hb); replace HO_69 := Aside0.mk (Kd.N_below (kNn (g := d7) HO_69 (fun _ hk => hk.2)) hb); replace HO_803000 := Aside0.mk (Kd.N_below (kNn (g := d7) HO_803000 (fun _ hk => hk.2)) hb); replace HO_803001 := Aside0.mk (Kd.R_below (kt HO_803001 e5) hb); replace HO_804000 := Aside0.mk (Kd.R_below (kt HO_804000 e5) hb); replace HO_804001 := Aside0.mk (Kd.R_below (kt HO_804001 e5) hb); replace HO_812000 := Aside0.mk (Kd.R_below (kt HO_812000 e5) hb); replace HO_812001 := Aside0.mk (Kd.R_below (kt HO_812001 e5) hb); replace a3 := Aside0.mk (blk_below (g := d1) (o := .cells #[.slice j2 e9.length h8, .slice j1 e8.length h7, .slice j0 e7.length h6, .slice h9 e6.length h5] 56 (0, 0)) (bkF a3) hb); replace a2 := Aside0.mk (blk_below (g := b9) (o := .cells #[.slice (some e0) a0.length d5, .slice c8 a4.length b2] 25 (0, 0)) (bkF a2) hb); replace a5 := Aside0.mk (blk_below (g := b8) (o := .cells #[.slice c7 a9.length c2, .slice d2 b3.length d0] 59 (0, 0)) (bkF a5) hb); replace a6 := Aside0.mk (blk_below (g := d4) (o := .cells #[.slice c1 a8.length b5, .slice c0 a7.length b4] 64 (0, 0)) (bkF a6) hb); replace b0 := Aside0.mk (blk_below (g := b1) (o := .cells #[.string ((rd_T68 a0 a1).f0), .int .i64 ((rd_T68 a0 a1).f1), .bool ((rd_T68 a0 a1).f2), .slice g6 ((rd_T68 a0 a1).f3).length h4] 68 (0, 0)) (bkF b0) hb); replace q3 := Aside0.mk (Kd.C_below ((Kd.V_reads' (by (with_reducible repeat (first | apply Kd.V_alloc | apply Kd.V_drewN | apply Kd.V_drew)); exact (Kd.V_mono (Kd.V_far (p := ⟨d7, 3, none⟩) (Kd.V_far (p := ⟨d7, 2, none⟩) (Kd.V_far (p := ⟨d7, 1, none⟩) (Kd.V_far (p := ⟨d7, 0, none⟩) (Kd.V_mono HL817_3.out (fun k_ hk => (⟨hk, hk.2⟩ : _ ∧ k_ ≠ d7))) (fun _ hk => hk.2) (.string ((rd_T68 a0 d3).f0))) (fun _ hk => hk.2) (.int .i64 ((rd_T68 a0 d3).f1))) (fun _ hk => hk.2) (.bool ((rd_T68 a0 d3).f2))) (fun _ hk => hk.2) (.slice v1 ((rd_T68 a0 d3).f3).length t6)) (fun _ h_ => h_.1)))).2.2) hb); replace HL817_3 := Aside0.mk (Kd.V_below (by (with_reducible repeat (first | apply Kd.V_alloc | apply Kd.V_drewN | apply Kd.V_drew)); exact (Kd.V_mono (Kd.V_far (p := ⟨d7, 3, none⟩) (Kd.V_far (p := ⟨d7, 2, none⟩) (Kd.V_far (p := ⟨d7, 1, none⟩) (Kd.V_far (p := ⟨d7, 0, none⟩) (Kd.V_mono HL817_3.out (fun k_ hk => (⟨hk, hk.2⟩ : _ ∧ k_ ≠ d7))) (fun _ hk => hk.2) (.string ((rd_T68 a0 d3).f0))) (fun _ hk => hk.2) (.int .i64 ((rd_T68 a0 d3).f1))) (fun _ hk => hk.2) (.bool ((rd_T68 a0 d3).f2))) (fun _ hk => hk.2) (.slice v1 ((rd_T68 a0 d3).f3).length t6)) (fun _ h_ => h_.1))) hb); replace e5 := Aside0.mk (blk_below (g := d7) (o := .cells #[.string ((rd_T68 a0 d3).f0), .int .i64 ((rd_T68 a0 d3).f1), .bool ((rd_T68 a0 d3).f2), .slice v1 ((rd_T68 a0 d3).f3).length t6] 68 (0, 0)) (bkP e5) hb); replace HB := bstep HB hb))
         go_roundg k3
         case measure => have := n7.out; have := n6.out; have := q5.out; omega
        ·case rel => exact ⟨(r0), (wrap64 (d3 + 1)), eqs, eqs, H', ⟨by have := n7.out; have := n6.out; have := q5.out; omega⟩, ⟨kNm (g := d7) HO_41 (fun _ hk => hk.2) (fun _ hk => ⟨hk.1.1.1, ⟨hk.1.1.2.1, ⟨hk.1.1.2.2.1, ⟨hk.1.1.2.2.2.1, ⟨hk.1.1.2.2.2.2.1, ⟨hk.1.1.2.2.2.2.2.1, ⟨hk.1.1.2.2.2.2.2.2.1, ⟨hk.1.1.2.2.2.2.2.2.2.1, ⟨hk.1.1.2.2.2.2.2.2.2.2.1, hk.1.1.2.2.2.2.2.2.2.2.2⟩⟩⟩⟩⟩⟩⟩⟩⟩)⟩, ⟨kNm (g := d7) HO_69 (fun _ hk => hk.2) (fun _ hk => ⟨hk.1.1.1, ⟨hk.1.1.2.1, ⟨hk.1.1.2.2.1, ⟨hk.1.1.2.2.2.1, ⟨hk.1.1.2.2.2.2.1, ⟨hk.1.1.2.2.2.2.2.1, ⟨hk.1.1.2.2.2.2.2.2.1, ⟨hk.1.1.2.2.2.2.2.2.2.1, ⟨hk.1.1.2.2.2.2.2.2.2.2.1, hk.1.1.2.2.2.2.2.2.2.2.2⟩⟩⟩⟩⟩⟩⟩⟩⟩)⟩, ⟨kNm (g := d7) HO_803000 (fun _ hk => hk.2) (fun _ hk => ⟨hk.1.1.1, ⟨hk.1.1.2.1, ⟨hk.1.1.2.2.1, ⟨hk.1.1.2.2.2.1, ⟨hk.1.1.2.2.2.2.1, ⟨hk.1.1.2.2.2.2.2.1, ⟨hk.1.1.2.2.2.2.2.2.1, ⟨hk.1.1.2.2.2.2.2.2.2.1, ⟨hk.1.1.2.2.2.2.2.2.2.2.1, hk.1.1.2.2.2.2.2.2.2.2.2⟩⟩⟩⟩⟩⟩⟩⟩⟩)⟩, ⟨ktm HO_803001 e5 (fun _ hk => trivial)⟩, ⟨ktm HO_804000 e5 (fun _ hk => trivial)⟩, ⟨ktm HO_804001 e5 (fun _ hk => trivial)⟩, ⟨ktm HO_812000 e5 (fun _ hk => hk.1)⟩, ⟨ktm HO_812001 e5 (fun _ hk => hk.1)⟩, ⟨bkF a3⟩, ⟨bkF a2⟩, ⟨bkF a5⟩, ⟨bkF a6⟩, ⟨bkF b0⟩, ⟨bb HB⟩⟩
        ·case rel => exact ⟨(wrap64 (r0 + Q6)), (wrap64 (d3 + 1)), eqs, eqs, H', ⟨by have := n7.out; have := n6.out; have := q5.out; omega⟩, ⟨kNmm HO_41 (fun _ hk => ⟨hk.1.1, ⟨hk.1.2.1, ⟨hk.1.2.2.1, ⟨hk.1.2.2.2.1, ⟨hk.1.2.2.2.2.1, ⟨hk.1.2.2.2.2.2.1, ⟨hk.1.2.2.2.2.2.2.1, ⟨hk.1.2.2.2.2.2.2.2.1, ⟨hk.1.2.2.2.2.2.2.2.2.1, hk.1.2.2.2.2.2.2.2.2.2⟩⟩⟩⟩⟩⟩⟩⟩⟩)⟩, ⟨kNmm HO_69 (fun _ hk => ⟨hk.1.1, ⟨hk.1.2.1, ⟨hk.1.2.2.1, ⟨hk.1.2.2.2.1, ⟨hk.1.2.2.2.2.1, ⟨hk.1.2.2.2.2.2.1, ⟨hk.1.2.2.2.2.2.2.1, ⟨hk.1.2.2.2.2.2.2.2.1, ⟨hk.1.2.2.2.2.2.2.2.2.1, hk.1.2.2.2.2.2.2.2.2.2⟩⟩⟩⟩⟩⟩⟩⟩⟩)⟩, ⟨kNmm HO_803000 (fun _ hk => ⟨hk.1.1, ⟨hk.1.2.1, ⟨hk.1.2.2.1, ⟨hk.1.2.2.2.1, ⟨hk.1.2.2.2.2.1, ⟨hk.1.2.2.2.2.2.1, ⟨hk.1.2.2.2.2.2.2.1, ⟨hk.1.2.2.2.2.2.2.2.1, ⟨hk.1.2.2.2.2.2.2.2.2.1, hk.1.2.2.2.2.2.2.2.2.2⟩⟩⟩⟩⟩⟩⟩⟩⟩)⟩, ⟨kR HO_803001⟩, ⟨kR HO_804000⟩, ⟨kR HO_804001⟩, ⟨kR HO_812000⟩, ⟨kR HO_812001⟩, ⟨bk a3⟩, ⟨bk a2⟩, ⟨bk a5⟩, ⟨bk a6⟩, ⟨bk b0⟩, ⟨bb HB⟩⟩
       rw [if_neg v9] at H
       have E7 := decide_eq_false v9
       clear v9
       have w9 := Aside0.mk H
       clear H
       go_upto_region 28 with (fail)
       go_cut [99] (fun v99 wc => ∃ (kq : Nat) (q2 : Bool), v99 = .bool q2 ∧ Aside0 (scarfjointlaw18_StatisticSums.j3 kq n4 a1 w3 a0 (a0.length : Int) a1 q2 a0 a4 a9 b3 a8 a7 ((rd_T68 a0 a1).f0) ((rd_T68 a0 a1).f1) ((rd_T68 a0 a1).f2) ((rd_T68 a0 a1).f3) = some r) ∧ Aside0 (kq ≤ k3) ∧ Aside0 (Kd.N k68 68 wc w.heap.size (fun k_ => some k_ ≠ ((.slice c8 a4.length b2) : Value).ownBlock ∧ some k_ ≠ ((.slice c7 a9.length c2) : Value).ownBlock ∧ some k_ ≠ ((.slice d2 b3.length d0) : Value).ownBlock ∧ some k_ ≠ ((.slice c1 a8.length b5) : Value).ownBlock ∧ some k_ ≠ ((.slice c0 a7.length b4) : Value).ownBlock ∧ k_ ≠ d1 ∧ k_ ≠ b9 ∧ k_ ≠ b8 ∧ k_ ≠ d4 ∧ k_ ≠ b1) (.slice (some e0) a0.length d5) a0) ∧ Aside0 (Kd.N k68 68 wc w.heap.size (fun k_ => some k_ ≠ ((.slice c8 a4.length b2) : Value).ownBlock ∧ some k_ ≠ ((.slice c7 a9.length c2) : Value).ownBlock ∧ some k_ ≠ ((.slice d2 b3.length d0) : Value).ownBlock ∧ some k_ ≠ ((.slice c1 a8.length b5) : Value).ownBlock ∧ some k_ ≠ ((.slice c0 a7.length b4) : Value).ownBlock ∧ k_ ≠ d1 ∧ k_ ≠ b9 ∧ k_ ≠ b8 ∧ k_ ≠ d4 ∧ k_ ≠ b1) (.slice (some e0) a0.length d5) a0) ∧ Aside0 (Kd.R k71 71 wc w.heap.size (fun _ => True) (.slice c8 a4.length b2) a4) ∧ Aside0 (Kd.R (Kd.int .i64) 3 wc w.heap.size (fun _ => True) (.slice c7 a9.length c2) a9) ∧ Aside0 (Kd.R k39 39 wc w.heap.size (fun _ => True) (.slice d2 b3.length d0) b3) ∧ Aside0 (Kd.R k88 88 wc w.heap.size (fun k_ => some k_ ≠ ((.slice c0 a7.length b4) : Value).ownBlock) (.slice c1 a8.length b5) a8) ∧ Aside0 (Kd.R k88 88 wc w.heap.size (fun k_ => some k_ ≠ ((.slice c1 a8.length b5) : Value).ownBlock) (.slice c0 a7.length b4) a7) ∧ Aside0 (wc.heap[d1]? = some (.cells #[(.slice j2 e9.length h8), (.slice j1 e8.length h7), (.slice j0 e7.length h6), (.slice h9 e6.length h5)] 56 (0, 0))) ∧ Aside0 (wc.heap[b9]? = some (.cells #[(.slice (some e0) a0.length d5), (.slice c8 a4.length b2)] 25 (0, 0))) ∧ Aside0 (wc.heap[b8]? = some (.cells #[(.slice c7 a9.length c2), (.slice d2 b3.length d0)] 59 (0, 0))) ∧ Aside0 (wc.heap[d4]? = some (.cells #[(.slice c1 a8.length b5), (.slice c0 a7.length b4)] 64 (0, 0))) ∧ Aside0 (wc.heap[b1]? = some (.cells #[.string ((rd_T68 a0 a1).f0), .int .i64 ((rd_T68 a0 a1).f1), .bool ((rd_T68 a0 a1).f2), (.slice g6 ((rd_T68 a0 a1).f3).length h4)] 68 (0, 0))) ∧ Aside0 (Below w.heap.size w wc))
       case first =>
        have H := w9.out
        clear w9
        by_cases q8 : C0 = 0
        rw [if_pos q8] at H
        have p5 := beq_iff_eq.mpr q8
        have N3 := bne_eq_false_iff_eq.mpr q8
        clear q8
        (first | rw [p5] | (simp only [i64_w, i32_w]; rw [p5]) | skip)
        have H' := Aside0.mk H
        clear H
        rotate_left
        rw [if_neg q8] at H
        have p5 := beq_eq_false_iff_ne.mpr q8
        have N3 := bne_iff_ne.mpr q8
        (first | rw [p5] | (simp only [i64_w, i32_w]; rw [p5]) | skip)
        have H' := Aside0.mk H
        clear H
        all_goals
         go_wp2
         go_meet
         case rel => exact ⟨_, _, eqs, H', ⟨by have := n7.out; have := n6.out; have := q5.out; first | omega | exact Nat.le_refl _⟩, ⟨kN HO_41⟩, ⟨kN HO_803000⟩, ⟨kR HO_803001⟩, ⟨kR HO_804000⟩, ⟨kR HO_804001⟩, ⟨kR HO_812000⟩, ⟨kR HO_812001⟩, ⟨bk a3⟩, ⟨bk a2⟩, ⟨bk a5⟩, ⟨bk a6⟩, ⟨bk b0⟩, ⟨bb HB⟩⟩
       case rest =>
        clear w9
        try clear E7
        obtain ⟨kq, q2, rfl, HA, q4, HO_41, HO_803000, HO_803001, HO_804000, HO_804001, HO_812000, HO_812001, a3, a2, a5, a6, b0, HB⟩ := hcut
        cases kq with
        | zero => exact absurd HA.out (by simp [scarfjointlaw18_StatisticSums.j3])
        | succ w6 =>
         have H := HA.out
         clear HA
         simp only [scarfjointlaw18_StatisticSums.j3] at H
         by_cases v0 : q2 = true
         ·subst v0
          replace H := ift H
          exact absurd (H.trans (congrArg some hr)) (by simp)
         replace v0 := Bool.eq_false_iff.mpr v0
         subst v0
         replace H := iff_ H
         by_cases r4 : ((rd_T68 a0 a1).f1) < 0
         rw [if_pos r4] at H
         have x2 := decide_eq_true r4
         clear r4
         have H' := Aside0.mk H
         clear H
         rotate_left
         rw [if_neg r4] at H
         have x2 := decide_eq_false r4
         clear r4
         have H' := Aside0.mk H
         clear H
         all_goals
          have a7b := p7.out
          have a4c := q0.out
          have a7a := j7.out
          have a4b := m0.out
          have a6j := p6.out
          have a4a := p8.out
          have a6i := n0.out
          have a3j := n1.out
          obtain ⟨D6, D5, D4, D3, D0, C9, C8, C7⟩ := cz4 b0
          have a6h := h2.out
          have a3i := h3.out
          have a6g := g2.out
          have a3h := g1.out
          have a6f := h1.out
          have a3g := h0.out
          obtain ⟨D2, D1, C6, C5⟩ := cz2 a2
          go_wp2
         ·go_loopg [109] w6 (fun kq Q2 w' => ∃ (d6 : Int), Q2 = .int .i64 d6 ∧ Aside0 (scarfjointlaw18_StatisticSums.l3 kq n4 a1 a0 (a0.length : Int) a1 a4 (a4.length : Int) d6 a0 a4 a9 b3 a8 a7 ((rd_T68 a0 a1).f0) ((rd_T68 a0 a1).f1) ((rd_T68 a0 a1).f2) ((rd_T68 a0 a1).f3) = some r) ∧ Aside0 (kq ≤ w6) ∧ Aside0 (Kd.N k68 68 w' w.heap.size (fun k_ => some k_ ≠ ((.slice c8 a4.length b2) : Value).ownBlock ∧ some k_ ≠ ((.slice c8 a4.length b2) : Value).ownBlock ∧ some k_ ≠ ((.slice c7 a9.length c2) : Value).ownBlock ∧ some k_ ≠ ((.slice d2 b3.length d0) : Value).ownBlock ∧ some k_ ≠ ((.slice c1 a8.length b5) : Value).ownBlock ∧ some k_ ≠ ((.slice c0 a7.length b4) : Value).ownBlock ∧ k_ ≠ d1 ∧ k_ ≠ b9 ∧ k_ ≠ b8 ∧ k_ ≠ d4 ∧ k_ ≠ b1) (.slice (some e0) a0.length d5) a0) ∧ Aside0 (Kd.R k71 71 w' w.heap.size (fun _ => True) (.slice c8 a4.length b2) a4) ∧ Aside0 (Kd.N k68 68 w' w.heap.size (fun k_ => some k_ ≠ ((.slice c8 a4.length b2) : Value).ownBlock ∧ some k_ ≠ ((.slice c8 a4.length b2) : Value).ownBlock ∧ some k_ ≠ ((.slice c7 a9.length c2) : Value).ownBlock ∧ some k_ ≠ ((.slice d2 b3.length d0) : Value).ownBlock ∧ some k_ ≠ ((.slice c1 a8.length b5) : Value).ownBlock ∧ some k_ ≠ ((.slice c0 a7.length b4) : Value).ownBlock ∧ k_ ≠ d1 ∧ k_ ≠ b9 ∧ k_ ≠ b8 ∧ k_ ≠ d4 ∧ k_ ≠ b1) (.slice (some e0) a0.length d5) a0) ∧ Aside0 (Kd.R k71 71 w' w.heap.size (fun _ => True) (.slice c8 a4.length b2) a4) ∧ Aside0 (Kd.R (Kd.int .i64) 3 w' w.heap.size (fun _ => True) (.slice c7 a9.length c2) a9) ∧ Aside0 (Kd.R k39 39 w' w.heap.size (fun _ => True) (.slice d2 b3.length d0) b3) ∧ Aside0 (Kd.R k88 88 w' w.heap.size (fun k_ => some k_ ≠ ((.slice c0 a7.length b4) : Value).ownBlock) (.slice c1 a8.length b5) a8) ∧ Aside0 (Kd.R k88 88 w' w.heap.size (fun k_ => some k_ ≠ ((.slice c1 a8.length b5) : Value).ownBlock) (.slice c0 a7.length b4) a7) ∧ Aside0 (w'.heap[d1]? = some (.cells #[(.slice j2 e9.length h8), (.slice j1 e8.length h7), (.slice j0 e7.length h6), (.slice h9 e6.length h5)] 56 (0, 0))) ∧ Aside0 (w'.heap[b9]? = some (.cells #[(.slice (some e0) a0.length d5), (.slice c8 a4.length b2)] 25 (0, 0))) ∧ Aside0 (w'.heap[b8]? = some (.cells #[(.slice c7 a9.length c2), (.slice d2 b3.length d0)] 59 (0, 0))) ∧ Aside0 (w'.heap[d4]? = some (.cells #[(.slice c1 a8.length b5), (.slice c0 a7.length b4)] 64 (0, 0))) ∧ Aside0 (w'.heap[b1]? = some (.cells #[.string ((rd_T68 a0 a1).f0), .int .i64 ((rd_T68 a0 a1).f1), .bool ((rd_T68 a0 a1).f2), (.slice g6 ((rd_T68 a0 a1).f3).length h4)] 68 (0, 0))) ∧ Aside0 (Below w.heap.size w w'))
          case atStart => exact ⟨(0), eqs, H', ⟨Nat.le_refl _⟩, ⟨kNmm HO_41 (fun _ hk => ⟨hk.1, ⟨hk.1, ⟨hk.2.1, ⟨hk.2.2.1, ⟨hk.2.2.2.1, ⟨hk.2.2.2.2.1, ⟨hk.2.2.2.2.2.1, ⟨hk.2.2.2.2.2.2.1, ⟨hk.2.2.2.2.2.2.2.1, ⟨hk.2.2.2.2.2.2.2.2.1, hk.2.2.2.2.2.2.2.2.2⟩⟩⟩⟩⟩⟩⟩⟩⟩⟩)⟩, ⟨kR HO_803001⟩, ⟨kNmm HO_803000 (fun _ hk => ⟨hk.1, ⟨hk.1, ⟨hk.2.1, ⟨hk.2.2.1, ⟨hk.2.2.2.1, ⟨hk.2.2.2.2.1, ⟨hk.2.2.2.2.2.1, ⟨hk.2.2.2.2.2.2.1, ⟨hk.2.2.2.2.2.2.2.1, ⟨hk.2.2.2.2.2.2.2.2.1, hk.2.2.2.2.2.2.2.2.2⟩⟩⟩⟩⟩⟩⟩⟩⟩⟩)⟩, ⟨kR HO_803001⟩, ⟨kR HO_804000⟩, ⟨kR HO_804001⟩, ⟨kR HO_812000⟩, ⟨kR HO_812001⟩, ⟨bk a3⟩, ⟨bk a2⟩, ⟨bk a5⟩, ⟨bk a6⟩, ⟨bk b0⟩, ⟨bb HB⟩⟩
          case round =>
           clear H'
           try clear v0 x2 D6 D5 D4 D3 D2 D1 D0 C9 C8 C7 C6 C5
           obtain ⟨d6, rfl, HA, F4, HO_41, HO_107, HO_803000, HO_803001, HO_804000, HO_804001, HO_812000, HO_812001, a3, a2, a5, a6, b0, HB⟩ := hrel
           cases gk with
           | zero => exact absurd HA.out (by simp [scarfjointlaw18_StatisticSums.l3])
           | succ k5 =>
            have H := HA.out
            clear HA
            simp only [scarfjointlaw18_StatisticSums.l3] at H
            by_cases r3 : d6 < (a4.length : Int)
            rotate_left
            ·rw [if_neg r3] at H
             have N2 := decide_eq_false r3
             clear r3
             have H' := Aside0.mk H
             clear H
             go_wp2
             go_roundg k5
             case measure => have := n7.out; have := n6.out; have := q5.out; have := q4.out; have := F4.out; omega
             case rel => exact ⟨(n4), (wrap64 (a1 + 1)), eqs, eqs, H', ⟨by have := n7.out; have := n6.out; have := q5.out; have := q4.out; have := F4.out; omega⟩, ⟨kNmm HO_41 (fun _ hk => ⟨hk.2.1, ⟨hk.2.2.1, ⟨hk.2.2.2.1, ⟨hk.2.2.2.2.1, ⟨hk.2.2.2.2.2.1, ⟨hk.2.2.2.2.2.2.1, ⟨hk.2.2.2.2.2.2.2.1, ⟨hk.2.2.2.2.2.2.2.2.1, hk.2.2.2.2.2.2.2.2.2.1⟩⟩⟩⟩⟩⟩⟩⟩)⟩, ⟨kNmm HO_803000 (fun _ hk => ⟨hk.2.1, ⟨hk.2.2.1, ⟨hk.2.2.2.1, ⟨hk.2.2.2.2.1, ⟨hk.2.2.2.2.2.1, ⟨hk.2.2.2.2.2.2.1, ⟨hk.2.2.2.2.2.2.2.1, ⟨hk.2.2.2.2.2.2.2.2.1, hk.2.2.2.2.2.2.2.2.2.1⟩⟩⟩⟩⟩⟩⟩⟩)⟩, ⟨kR HO_803001⟩, ⟨kR HO_804000⟩, ⟨kR HO_804001⟩, ⟨kR HO_812000⟩, ⟨kR HO_812001⟩, ⟨bk a3⟩, ⟨bk a2⟩, ⟨bk a5⟩, ⟨bk a6⟩, ⟨bb HB⟩⟩
            rw [if_pos r3] at H
            have N2 := decide_eq_true r3
            clear r3
            obtain ⟨N1, H⟩ := itn H
            have a7i := decide_eq_true N1
            clear N1
            obtain ⟨N0, H⟩ := itn H
            have a7h := decide_eq_true N0
            clear N0
            obtain ⟨⟨A9, Q4⟩, Z7, H⟩ := obA H
            try dsimp only at H
            obtain ⟨⟨A8, Q3⟩, Z6, H⟩ := obA H
            try dsimp only at H
            by_cases q7 : Q4 = 0
            rotate_left
            ·rw [if_neg q7] at H
             have M9 := beq_eq_false_iff_ne.mpr q7
             have M8 := bne_iff_ne.mpr q7
             exact absurd (H.trans (congrArg some hr)) (by simp)
            rw [if_pos q7] at H
            have M9 := beq_iff_eq.mpr q7
            have M8 := bne_eq_false_iff_eq.mpr q7
            clear q7
            by_cases q6 : Q3 = 0
            rotate_left
            ·rw [if_neg q6] at H
             have M7 := beq_eq_false_iff_ne.mpr q6
             have M6 := bne_iff_ne.mpr q6
             exact absurd (H.trans (congrArg some hr)) (by simp)
            rw [if_pos q6] at H
            have M7 := beq_iff_eq.mpr q6
            have M6 := bne_eq_false_iff_eq.mpr q6
            clear q6
            by_cases r2 : A9 > A8
            ·rw [if_pos r2] at H
             have M5 : decide (A8 < A9) = true := decide_eq_true r2
             clear r2
             exact absurd (H.trans (congrArg some hr)) (by simp)
            rw [if_neg r2] at H
            have M5 : decide (A8 < A9) = false := decide_eq_false r2
            clear r2
            have H' := Aside0.mk H
            clear H
            have C3 : 0 ≤ d6 := odt
            have C1 : d6 < (a4.length : Int) := odt
            obtain ⟨r1, Z2, a0e, a0d, a0c, a0b, a0a, Z9, Z8⟩ := at_T71 (Kd.R_reads' HO_107.out).2.2 d6 C3 C1
            cases Z2
            replace C3 := eq_true C3
            replace C1 := eq_true C1
            go_wp2_with (first | ((with_reducible refine gate_dst (N := 20) rfl ?_); refine be 20 #[.string (⟨#[]⟩ : ByteArray), .int .i64 0, .int .i64 0, .int .i64 0, .int .i64 0, .int .i64 0, .int .i64 0] 71 ?_; intro g3 hg b5a hbox hb; have s4 := Aside0.mk (Kd.N_below (Kd.N_elderB (kN HO_41) g3 (Nat.le_of_eq hg.symm)) hb); have s3 := Aside0.mk (Kd.R_below (Kd.R_elderB (kR HO_107) g3 (Nat.le_of_eq hg.symm)) hb); have s2 := Aside0.mk (Kd.N_below (Kd.N_elderB (kN HO_803000) g3 (Nat.le_of_eq hg.symm)) hb); have s1 := Aside0.mk (Kd.R_below (Kd.R_elderB (kR HO_803001) g3 (Nat.le_of_eq hg.symm)) hb); have s0 := kRb HO_804000 hb; have r9 := kRb HO_804001 hb; have r8 := kRb HO_812000 hb; have r7 := kRb HO_812001 hb; have r6 := bkb a3 hb; have r5 := bkb a2 hb; have p4 := bkb a5 hb; have p3 := bkb a6 hb; have p2 := bkb b0 hb; have p1 := bstep HB hb; have p0 := Aside0.mk (hbox); have o9 := bsz HB hg; have o8 := bsz HB hg; have o7 := blt a3 hg; have o6 := bgt a3 hg; have o5 := blt a2 hg; have o4 := bgt a2 hg; have o3 := blt a5 hg; have o2 := bgt a5 hg; have o1 := blt a6 hg; have o0 := bgt a6 hg; have t5 := blt b0 hg; have t4 := bgt b0 hg; clear HO_41 HO_107; clear HO_803000 HO_803001; clear HO_804000 HO_804001; clear HO_812000 HO_812001; clear a3 a2; clear a5 a6; clear b0 HB; have HO_41 := s4; have HO_107 := s3; have HO_803000 := s2; have HO_803001 := s1; have HO_804000 := s0; have HO_804001 := r9; have HO_812000 := r8; have HO_812001 := r7; have a3 := r6; have a2 := r5; have a5 := p4; have a6 := p3; have b0 := p2; have HB := p1; have j5 := p0; have b3i := o9; have b4f := o8; have A6 := o7; have x9 := o6; have A1 := o5; have x6 := o4; have y9 := o3; have x5 := o2; have y7 := o1; have x4 := o0; have y5 := t5; have x3 := t4; clear s4 s3 s2 s1 s0 r9 r8 r7 r6 r5 p4 p3 p2 p1 p0 o9 o8 o7 o6 o5 o4 o3 o2 o1 o0 t5 t4; clear hb hbox hg; have a6e := x9.out; have a3f := A6.out; have a6d := x6.out; have a3e := A1.out; have a6c := x5.out; have a3d := y9.out; have a6b := x4.out; have a3c := y7.out; have a6a := x3.out; have a3b := y5.out; obtain ⟨Y7, Y6, Y5, Y4, Y3, Y2, Y1, V5, V4, V3, V2, V1, V0, U9⟩ := cz7 j5; have a5j := h2.out; have a3a := h3.out; have a5i := g2.out; have a2j := g1.out; have a5h := h1.out; have a2i := h0.out; have a5g := m0.out; have a2h := j7.out; obtain ⟨Y0, X9, U8, U7⟩ := cz2 a2; have a5f := n2.out; have a2g := n3.out; have a5e := j8.out; have a2f := j9.out; have a5d := n1.out; have a2e := n0.out; obtain ⟨X8, X7, U6, U5⟩ := cz2 a6) | ((with_reducible refine gate_callee (f := 37) rfl ?_); refine gl 121 Try.func37 #[.agg #[.slice (some e0) a0.length d5, .slice (some r1) a4.length b2], .agg #[.slice c1 a8.length b5, .slice c0 a7.length b4], .int .i64 d6, .int .i64 a1, .int .i64 ((rd_T71 a4 d6).f2)] (h := ?_); (with_reducible refine (statistic_Edges.calls _ _ _ _ _ _ _ _ _ _ _ _ _ _ _ _ _ _ _ ?m9 ?m8 ?m7 ?m6 ?m5 ?m4 ?m3 ?m2 Z7.out).mono ?_); (case m9 => refine (Kd.N_reads' (e := 68) (base := w.heap.size) (ok := fun k_ => ((some k_ ≠ (.slice (some r1) a4.length b2 : Value).ownBlock ∧ (some k_ ≠ (.slice (some r1) a4.length b2 : Value).ownBlock ∧ (some k_ ≠ (.slice c7 a9.length c2 : Value).ownBlock ∧ (some k_ ≠ (.slice d2 b3.length d0 : Value).ownBlock ∧ (some k_ ≠ (.slice c1 a8.length b5 : Value).ownBlock ∧ (some k_ ≠ (.slice c0 a7.length b4 : Value).ownBlock ∧ (k_ ≠ d1 ∧ (k_ ≠ b9 ∧ (k_ ≠ b8 ∧ (k_ ≠ d4 ∧ k_ ≠ b1)))))))))) ∧ k_ ≠ g3)) (n := a0.length) (c := d5) ?_).2.2; exact (kNn (g := g3) HO_803000 (fun _ hk => hk.2))); (case m8 => exact (Kd.N_reads' HO_803000.out).2.1); (case m7 => refine (Kd.R_reads' (e := 71) (base := w.heap.size) (ok := fun k_ => (True ∧ k_ ≠ g3)) (n := a4.length) (c := b2) ?_).2.2; exact (kn (g := g3) HO_803001 (fun _ hk => hk.2))); (case m6 => exact (Kd.R_reads' HO_803001.out).2.1); (case m5 => refine (Kd.R_reads' (e := 88) (base := w.heap.size) (ok := fun k_ => some k_ ≠ (.slice c0 a7.length b4 : Value).ownBlock) (n := a8.length) (c := b5) ?_).2.2; exact (kt HO_812000 j5)); (case m4 => exact (Kd.R_reads' HO_812000.out).2.1); (case m3 => refine (Kd.R_reads' (e := 88) (base := w.heap.size) (ok := fun k_ => some k_ ≠ (.slice c1 a8.length b5 : Value).ownBlock) (n := a7.length) (c := b4) ?_).2.2; exact (kt HO_812001 j5)); (case m2 => exact (Kd.R_reads' HO_812001.out).2.1); rintro e b4j ⟨rfl, hb⟩; refine ⟨_, rfl, ?_⟩; replace HO_41 := Aside0.mk (Kd.N_below (kNn (g := g3) HO_41 (fun _ hk => hk.2)) hb); replace HO_107 := Aside0.mk (Kd.R_below (kn (g := g3) HO_107 (fun _ hk => hk.2)) hb); replace HO_803000 := Aside0.mk (Kd.N_below (kNn (g := g3) HO_803000 (fun _ hk => hk.2)) hb); replace HO_803001 := Aside0.mk (Kd.R_below (kn (g := g3) HO_803001 (fun _ hk => hk.2)) hb); replace HO_804000 := Aside0.mk (Kd.R_below (kt HO_804000 j5) hb); replace HO_804001 := Aside0.mk (Kd.R_below (kt HO_804001 j5) hb); replace HO_812000 := Aside0.mk (Kd.R_below (kt HO_812000 j5) hb); replace HO_812001 := Aside0.mk (Kd.R_below (kt HO_812001 j5) hb); replace a3 := Aside0.mk (blk_below (g := d1) (o := .cells #[.slice j2 e9.length h8, .slice j1 e8.length h7, .slice j0 e7.length h6, .slice h9 e6.length h5] 56 (0, 0)) (bkF a3) hb); replace a2 := Aside0.mk (blk_below (g := b9) (o := .cells #[.slice (some e0) a0.length d5, .slice (some r1) a4.length b2] 25 (0, 0)) (bkF a2) hb); replace a5 := Aside0.mk (blk_below (g := b8) (o := .cells #[.slice c7 a9.length c2, .slice d2 b3.length d0] 59 (0, 0)) (bkF a5) hb); replace a6 := Aside0.mk (blk_below (g := d4) (o := .cells #[.slice c1 a8.length b5, .slice c0 a7.length b4] 64 (0, 0)) (bkF a6) hb); replace b0 := Aside0.mk (blk_below (g := b1) (o := .cells #[.string ((rd_T68 a0 a1).f0), .int .i64 ((rd_T68 a0 a1).f1), .bool ((rd_T68 a0 a1).f2), .slice g6 ((rd_T68 a0 a1).f3).length h4] 68 (0, 0)) (bkF b0) hb); replace j5 := Aside0.mk (blk_below (g := g3) (o := .cells #[.string ((rd_T71 a4 d6).f0), .int .i64 ((rd_T71 a4 d6).f1), .int .i64 ((rd_T71 a4 d6).f2), .int .i64 ((rd_T71 a4 d6).f3), .int .i64 ((rd_T71 a4 d6).f4), .int .i64 ((rd_T71 a4 d6).f5), .int .i64 ((rd_T71 a4 d6).f6)] 71 (0, 0)) (bkP j5) hb); replace HB := bstep HB hb; obtain ⟨X6, X5, U4, U3⟩ := cz2 a2; obtain ⟨X4, X3, U2, U1⟩ := cz2 a6; have a5c := p7.out; have a2d := q0.out; have a5b := p6.out; have a2c := p8.out; obtain ⟨X2, X1, X0, W9, U0, R9, R8, R7⟩ := cz4 b0; obtain ⟨W8, W7, W6, W5, W4, W3, W2, R6, R5, R4, R3, R2, R1, R0⟩ := cz7 j5) | ((with_reducible refine gate_callee (f := 37) rfl ?_); refine gl 132 Try.func37 #[.agg #[.slice (some e0) a0.length d5, .slice (some r1) a4.length b2], .agg #[.slice c1 a8.length b5, .slice c0 a7.length b4], .int .i64 d6, .int .i64 ((rd_T68 a0 a1).f1), .int .i64 ((rd_T71 a4 d6).f2)] (h := ?_); (with_reducible refine (statistic_Edges.calls _ _ _ _ _ _ _ _ _ _ _ _ _ _ _ _ _ _ _ ?m9 ?m8 ?m7 ?m6 ?m5 ?m4 ?m3 ?m2 Z6.out).mono ?_); (case m9 => repeat (first | exact (Kd.N_reads' HO_803000.out).2.2 | (with_reducible refine Kd.C_alloc ?_ _) | (with_reducible refine Kd.C_drewN ?_ _) | (with_reducible refine Kd.C_drew ?_))); (case m8 => exact (Kd.N_reads' HO_803000.out).2.1); (case m7 => repeat (first | exact (Kd.R_reads' HO_803001.out).2.2 | (with_reducible refine Kd.C_alloc ?_ _) | (with_reducible refine Kd.C_drewN ?_ _) | (with_reducible refine Kd.C_drew ?_))); (case m6 => exact (Kd.R_reads' HO_803001.out).2.1); (case m5 => repeat (first | exact (Kd.R_reads' HO_812000.out).2.2 | (with_reducible refine Kd.C_alloc ?_ _) | (with_reducible refine Kd.C_drewN ?_ _) | (with_reducible refine Kd.C_drew ?_))); (case m4 => exact (Kd.R_reads' HO_812000.out).2.1); (case m3 => repeat (first | exact (Kd.R_reads' HO_812001.out).2.2 | (with_reducible refine Kd.C_alloc ?_ _) | (with_reducible refine Kd.C_drewN ?_ _) | (with_reducible refine Kd.C_drew ?_))); (case m2 => exact (Kd.R_reads' HO_812001.out).2.1); rintro e b4i ⟨rfl, hb⟩; refine ⟨_, rfl, ?_⟩; replace HO_41 := kNb HO_41 hb; replace HO_107 := kRb HO_107 hb; replace HO_803000 := kNb HO_803000 hb; replace HO_803001 := kRb HO_803001 hb; replace HO_804000 := kRb HO_804000 hb; replace HO_804001 := kRb HO_804001 hb; replace HO_812000 := kRb HO_812000 hb; replace HO_812001 := kRb HO_812001 hb; replace a3 := bkb a3 hb; replace a2 := bkb a2 hb; replace a5 := bkb a5 hb; replace a6 := bkb a6 hb; replace b0 := bkb b0 hb; replace HB := bstep HB hb; clear hb))
            go_roundg k5
            case measure => have := n7.out; have := n6.out; have := q5.out; have := q4.out; have := F4.out; omega
            case rel => exact ⟨(wrap64 (d6 + 1)), eqs, H', ⟨by have := n7.out; have := n6.out; have := q5.out; have := q4.out; have := F4.out; omega⟩, ⟨kNmm HO_41 (fun _ hk => ⟨hk.1.1, ⟨hk.1.2.1, ⟨hk.1.2.2.1, ⟨hk.1.2.2.2.1, ⟨hk.1.2.2.2.2.1, ⟨hk.1.2.2.2.2.2.1, ⟨hk.1.2.2.2.2.2.2.1, ⟨hk.1.2.2.2.2.2.2.2.1, ⟨hk.1.2.2.2.2.2.2.2.2.1, ⟨hk.1.2.2.2.2.2.2.2.2.2.1, hk.1.2.2.2.2.2.2.2.2.2.2⟩⟩⟩⟩⟩⟩⟩⟩⟩⟩)⟩, ⟨kmm HO_107 (fun _ hk => trivial)⟩, ⟨kNmm HO_803000 (fun _ hk => ⟨hk.1.1, ⟨hk.1.2.1, ⟨hk.1.2.2.1, ⟨hk.1.2.2.2.1, ⟨hk.1.2.2.2.2.1, ⟨hk.1.2.2.2.2.2.1, ⟨hk.1.2.2.2.2.2.2.1, ⟨hk.1.2.2.2.2.2.2.2.1, ⟨hk.1.2.2.2.2.2.2.2.2.1, ⟨hk.1.2.2.2.2.2.2.2.2.2.1, hk.1.2.2.2.2.2.2.2.2.2.2⟩⟩⟩⟩⟩⟩⟩⟩⟩⟩)⟩, ⟨kmm HO_803001 (fun _ hk => trivial)⟩, ⟨kR HO_804000⟩, ⟨kR HO_804001⟩, ⟨kR HO_812000⟩, ⟨kR HO_812001⟩, ⟨bk a3⟩, ⟨bk a2⟩, ⟨bk a5⟩, ⟨bk a6⟩, ⟨bk b0⟩, ⟨bb HB⟩⟩
         ·go_roundg w6
          case measure => have := n7.out; have := n6.out; have := q5.out; have := q4.out; omega
          case rel => exact ⟨(wrap64 (n4 + w3)), (wrap64 (a1 + 1)), eqs, eqs, H', ⟨by have := n7.out; have := n6.out; have := q5.out; have := q4.out; omega⟩, ⟨kNmm HO_41 (fun _ hk => ⟨hk.1, ⟨hk.2.1, ⟨hk.2.2.1, ⟨hk.2.2.2.1, ⟨hk.2.2.2.2.1, ⟨hk.2.2.2.2.2.1, ⟨hk.2.2.2.2.2.2.1, ⟨hk.2.2.2.2.2.2.2.1, hk.2.2.2.2.2.2.2.2.1⟩⟩⟩⟩⟩⟩⟩⟩)⟩, ⟨kNmm HO_803000 (fun _ hk => ⟨hk.1, ⟨hk.2.1, ⟨hk.2.2.1, ⟨hk.2.2.2.1, ⟨hk.2.2.2.2.1, ⟨hk.2.2.2.2.2.1, ⟨hk.2.2.2.2.2.2.1, ⟨hk.2.2.2.2.2.2.2.1, hk.2.2.2.2.2.2.2.2.1⟩⟩⟩⟩⟩⟩⟩⟩)⟩, ⟨kR HO_803001⟩, ⟨kR HO_804000⟩, ⟨kR HO_804001⟩, ⟨kR HO_812000⟩, ⟨kR HO_812001⟩, ⟨bk a3⟩, ⟨bk a2⟩, ⟨bk a5⟩, ⟨bk a6⟩, ⟨bb HB⟩⟩
end Go.Proofs.Ytfpianecohobjaa.P
