/- StatisticOf: a part of its proof. No condition. -/
import Derived.Test.YtfpianecohobjaaVPx0
import Derived.Test.YtfpianecohobjaaVH0
namespace Go.Proofs.Ytfpianecohobjaa.P
open Go.RowKit Go.Proofs.YtfpianecohobjaaW.PrintWords Go.Proofs.YtfpianecohobjaaW.PrintLast Go.Proofs.YtfpianecohobjaaW.PrintMore
set_option maxHeartbeats 8000000
set_option maxRecDepth 100000
set_option linter.unusedVariables false
set_option linter.unusedSimpArgs false
def q4_attrs.f : Nat → List (S68) → List (S71) → Int → Option ((List (S77)))
 | 0, _, _, _ => none
 | k + 1, a0, a6, a1 => if a1 < 0 then (some ([] : List (S77))) else ((some (([] : List (S77)) : List (S77))).bind fun c0 => (if 0 ≤ a1 then (if a1 < (a0.length : Int) then ((q4_attrs.f k a0 a6 ((rd_T68 a0 a1).f1)).bind fun a8 => (if c0.length + a8.length < 2513169434916 then ((some (c0 ++ a8 : List (S77))).bind fun b7 => (if b7.length + ((rd_T68 a0 a1).f3).length < 2513169434916 then (some (b7 ++ ((rd_T68 a0 a1).f3))) else (none))) else (none))) else (none)) else (none)))
def q4_attrs.T3 : Bool × List (List Nat × List Nat) := (true, [([], []), ([], []), ([], []), ([2], [2]), ([], []), ([3, 4], [3, 4]), ([5], [5]), ([6], [6]), ([1, 7], [1, 7]), ([0, 8, 8], [0, 8]), ([], []), ([10], [10]), ([], []), ([11, 12], [11, 12]), ([13], [13]), ([14], [14]), ([9, 15, 9], [9, 15]), ([16, 16, 0, 1, 2, 3, 4, 5, 6, 7, 8, 9, 10, 11, 12, 13, 14, 15, 16], [16])])
def q4_attrs.B3 : List Nat := [0, 0, 0, 4, 0, 28, 60, 124, 254, 511, 0, 1024, 0, 7168, 15360, 31744, 65535, 131071]
theorem q4_attrs.tab3 : rtab .any (opsOf Try.f51 3) = q4_attrs.T3 := by kernel_rfl
theorem q4_attrs.bits3 : waitsOk q4_attrs.T3.2 q4_attrs.B3 = true := by kernel_rfl
theorem q4_attrs.calls (k : Nat) : ∀ (P0_0_ : Nat → Prop) (e5 : Option Addr) (a7 : Nat) (a0 : List (S68)) (b0 : Option Addr) (a9 : Nat) (a6 : List (S71)) (a1 : Int) (r : List (S77)) (w : World) (h8 : Kd.V k68 68 w w.heap.size (fun k_ => P0_0_ k_) (.slice e5 a0.length a7) a0) (h4 : Kd.C k71 w b0 a6.length a6) (h5 : a6.length ≤ a9) (h : q4_attrs.f k a0 a6 a1 = some r),
  Calls Try.prog 51 #[.agg #[.slice e5 a0.length a7, .slice b0 a6.length a9], .int .i64 a1] w fun e w' => ∃ j8 : Value, e = .returned (j8) ∧ Kd.N k77 77 w' w.heap.size (fun k_ => (P0_0_ k_ ∨ w.heap.size ≤ k_)) j8 r ∧ Below w.heap.size w w' := by
 induction k using Nat.strongRecOn with
 | _ k ih =>
 intro P0_0_ e5 a7 a0 b0 a9 a6 a1 r w h8 h4 h5 h
 cases k with
 | zero => exact absurd h (by simp [q4_attrs.f])
 | succ k =>
 simp only [q4_attrs.f] at h
 have hu25 := Try.underlying25
 have a5 := Aside0.mk (show Kd.V k68 68 w w.heap.size (fun k_ => (P0_0_ k_ ∨ w.heap.size ≤ k_)) (.slice e5 a0.length a7) a0 from Kd.V_mono h8 (fun k_ hk => .inl hk))
 have h9 := Aside0.mk h4
 have j0 := Aside0.mk h5
 clear h4 h5
 have HB := Aside0.mk (Below.refl w.heap.size w)
 have H : (if a1 < 0 then (some ([] : List (S77))) else ((some (([] : List (S77)) : List (S77))).bind fun c0 => (if 0 ≤ a1 then (if a1 < (a0.length : Int) then ((q4_attrs.f k a0 a6 ((rd_T68 a0 a1).f1)).bind fun a8 => (if c0.length + a8.length < 2513169434916 then ((some (c0 ++ a8 : List (S77))).bind fun b7 => (if b7.length + ((rd_T68 a0 a1).f3).length < 2513169434916 then (some (b7 ++ ((rd_T68 a0 a1).f3))) else (none))) else (none))) else (none)) else (none)))) = some r := h
 clear h
 by_cases c3 : a1 < 0
 ·rw [if_pos c3] at H
  have m3 := decide_eq_true c3
  clear c3
  obtain rfl := Option.some.inj H
  go_enter Try.func51, Try.ntmps51
  go_wp2_with (first | ((with_reducible refine gate_dst (N := 2) rfl ?_); refine be 2 #[.slice e5 a0.length a7, .slice b0 a6.length a9] 25 ?_; intro a3 hg w4 hbox hb; replace a5 := Aside0.mk (Kd.V_below (Kd.V_elderB (kV a5) a3 (Nat.le_of_eq hg.symm)) hb); have a4 := Aside0.mk (hbox); have j6 := bsz HB hg; replace HB := bstep HB hb; clear hb hbox hg))
  go_ret
  exact ⟨_, erf, by first | exact Kd.S_nil _ _ _ _ _ | exact Kd.N_nil _ _ _ _ _ | exact Kd.V_nil _ _ _ _ _ | exact Kd.Q_nil _ _ _ _ _ | exact Kd.R_nil _ _ _ _ _, bb HB⟩
 rw [if_neg c3] at H
 have m3 := decide_eq_false c3
 clear c3
 obtain ⟨c0, e2⟩ : ∃ y_ : List (S77), y_ = (([] : List (S77))) := ⟨_, rfl⟩
 replace H : (if 0 ≤ a1 then (if a1 < (a0.length : Int) then ((q4_attrs.f k a0 a6 ((rd_T68 a0 a1).f1)).bind fun a8 => (if c0.length + a8.length < 2513169434916 then ((some (c0 ++ a8 : List (S77))).bind fun b7 => (if b7.length + ((rd_T68 a0 a1).f3).length < 2513169434916 then (some (b7 ++ ((rd_T68 a0 a1).f3))) else (none))) else (none))) else (none)) else (none)) = some r := by first | (rw [e2]; with_reducible exact H) | (have H2_ := (Option.bind_some _ _).symm.trans H; rw [e2]; with_reducible exact H2_) | (have H2_ := (Option.bind_some _ _).symm.trans H; with_reducible exact H2_) | with_reducible exact H | (rw [e2]; exact H) | exact H
 have e6 := Aside0.mk e2
 clear e2
 obtain ⟨c5, H⟩ := itn H
 have m2 := decide_eq_true c5
 clear c5
 obtain ⟨c6, H⟩ := itn H
 have n3 := decide_eq_true c6
 have j1 := Aside0.mk (show 0 ≤ a1 ∧ a1 < (a0.length : Int) from ⟨of_decide_eq_true m2, c6⟩)
 clear c6
 obtain ⟨a8, A7, H⟩ := obA H
 obtain ⟨c8, H⟩ := itn H
 have m5 := Aside0.mk c8
 clear c8
 obtain ⟨b7, e1⟩ : ∃ y_ : List (S77), y_ = (c0 ++ a8) := ⟨_, rfl⟩
 replace H : (if b7.length + ((rd_T68 a0 a1).f3).length < 2513169434916 then (some (b7 ++ ((rd_T68 a0 a1).f3))) else (none)) = some r := by first | (rw [e1]; with_reducible exact H) | (have H2_ := (Option.bind_some _ _).symm.trans H; rw [e1]; with_reducible exact H2_) | (have H2_ := (Option.bind_some _ _).symm.trans H; with_reducible exact H2_) | with_reducible exact H | (rw [e1]; exact H) | exact H
 have j4 := Aside0.mk e1
 clear e1
 obtain ⟨c9, H⟩ := itn H
 have m4 := Aside0.mk c9
 clear c9
 obtain ⟨j9, e0⟩ : ∃ y_ : List (S77), y_ = (b7 ++ ((rd_T68 a0 a1).f3)) := ⟨_, rfl⟩
 replace H : (some j9) = some r := by first | (rw [e0]; with_reducible exact H) | (have H2_ := (Option.bind_some _ _).symm.trans H; rw [e0]; with_reducible exact H2_) | (have H2_ := (Option.bind_some _ _).symm.trans H; with_reducible exact H2_) | with_reducible exact H | (rw [e0]; exact H) | exact H
 have j3 := Aside0.mk e0
 clear e0
 obtain rfl := Option.some.inj H
 go_enter Try.func51, Try.ntmps51
 try go_wp2_with (first | ((with_reducible refine gate_dst (N := 2) rfl ?_); refine be 2 #[.slice e5 a0.length a7, .slice b0 a6.length a9] 25 ?_; intro a3 hg m9 hbox hb; replace a5 := Aside0.mk (Kd.V_below (Kd.V_elderB (kV a5) a3 (Nat.le_of_eq hg.symm)) hb); have a4 := Aside0.mk (hbox); have j6 := bsz HB hg; replace HB := bstep HB hb; clear hb hbox hg))
 replace a5 := Aside0.mk (Kd.V_drew a5.out)
 replace a4 := Aside0.mk (blk_drew a4.out)
 replace HB := Aside0.mk (below_drew1 HB.out)
 have h3 : 0 ≤ a1 := odt
 have h1 : a1 < (a0.length : Int) := odt
 obtain ⟨a2, b5, b4, m1, g2, g1, g0, d9, g4, g6⟩ := at_T68 (Kd.V_reads' a5.out).2.2 a1 h3 h1
 cases m1
 obtain ⟨ce282, hce282, hMe282, hcc282⟩ := Kd.V_get a5.out z68 a1 h3 (by first | exact h1 | exact odt | (have e_ := (Kd.V_reads' a5.out).1; omega))
 obtain ⟨ua282_3, uc282_3, rfl, ul282_3, ge282_3⟩ := k68_openF hMe282
 have hv282_3 := hcc282 3 _ rfl
 rw [add_field _ _ 3 (by omega)] at hv282_3
 replace hv282_3 := Option.some.inj (hv282_3.symm.trans d9)
 injection hv282_3 with hva_ hvn_ hvc_
 rw [hva_] at ge282_3
 rw [hvc_] at ul282_3
 have HL282_3 := Aside0.mk (show Kd.V k77 77 _ w.heap.size _ _ ((rd_T68 a0 a1).f3) from Kd.V_mk ul282_3 ge282_3)
 clear hva_ hvn_ hvc_ ge282_3 ul282_3 hcc282 hce282
 have b2 := Aside0.mk g6
 have m7 := Aside0.mk g4
 clear g6 g4
 replace h3 := eq_true h3
 replace h1 := eq_true h1
 have h2 : 0 ≤ a1 := odt
 have h0 : a1 < (a0.length : Int) := odt
 obtain ⟨j2, n1, n0, m0, e9, e8, e7, d8, g3, g5⟩ := at_T68 (Kd.V_reads' a5.out).2.2 a1 h2 h0
 obtain rfl : a2 = j2 := (by injection m0)
 obtain ⟨ce289, hce289, hMe289, hcc289⟩ := Kd.V_get a5.out z68 a1 h2 (by first | exact h0 | exact odt | (have e_ := (Kd.V_reads' a5.out).1; omega))
 obtain ⟨ua289_3, uc289_3, rfl, ul289_3, ge289_3⟩ := k68_openF hMe289
 have hv289_3 := hcc289 3 _ rfl
 rw [add_field _ _ 3 (by omega)] at hv289_3
 replace hv289_3 := Option.some.inj (hv289_3.symm.trans d8)
 injection hv289_3 with hva_ hvn_ hvc_
 rw [hva_] at ge289_3
 rw [hvc_] at ul289_3
 have HL289_3 := Aside0.mk (show Kd.V k77 77 _ w.heap.size _ _ ((rd_T68 a0 a1).f3) from Kd.V_mk ul289_3 ge289_3)
 clear hva_ hvn_ hvc_ ge289_3 ul289_3 hcc289 hce289
 have b1 := Aside0.mk g5
 have m6 := Aside0.mk g3
 clear g5 g3
 replace h2 := eq_true h2
 replace h0 := eq_true h0
 have ea_ := Option.some.inj (d9.symm.trans d8)
 injection ea_ with ea_ en_ ec_
 subst ea_
 subst ec_
 clear en_
 refine start_ (n := 18) (S := fun w' => w'.cell? ⟨a3, 0, none⟩ = some (.slice (some a2) a0.length a7) ∧ w'.cell? ⟨a3, 1, none⟩ = some (.slice b0 a6.length a9) ∧ w'.cell? (a2.add ((a1).toNat * 4)) = some (.string ((rd_T68 a0 a1).f0)) ∧ w'.cell? ⟨(a2.add ((a1).toNat * 4)).block, (a2.add ((a1).toNat * 4)).off + 1, none⟩ = some (.int .i64 ((rd_T68 a0 a1).f1)) ∧ w'.cell? ⟨(a2.add ((a1).toNat * 4)).block, (a2.add ((a1).toNat * 4)).off + 2, none⟩ = some (.bool ((rd_T68 a0 a1).f2)) ∧ w'.cell? ⟨(a2.add ((a1).toNat * 4)).block, (a2.add ((a1).toNat * 4)).off + 3, none⟩ = some (.slice b5 ((rd_T68 a0 a1).f3).length b4) ∧ w'.cell? (a2.add ((a1).toNat * 4)) = some (.string ((rd_T68 a0 a1).f0)) ∧ w'.cell? ⟨(a2.add ((a1).toNat * 4)).block, (a2.add ((a1).toNat * 4)).off + 1, none⟩ = some (.int .i64 ((rd_T68 a0 a1).f1)) ∧ w'.cell? ⟨(a2.add ((a1).toNat * 4)).block, (a2.add ((a1).toNat * 4)).off + 2, none⟩ = some (.bool ((rd_T68 a0 a1).f2)) ∧ w'.cell? ⟨(a2.add ((a1).toNat * 4)).block, (a2.add ((a1).toNat * 4)).off + 3, none⟩ = some (.slice b5 ((rd_T68 a0 a1).f3).length b4)) (ds := [16]) #[false, false, false, false, false, false, false, false, false, false, false, false, false, false, false, false, false, false] (by kernel_rfl) rfl rfl ⟨bc a4 0, bc a4 1, g2, g1, g0, d9, e9, e8, e7, d8⟩ (fun hHeld => ?_); refine with_tabW q4_attrs.tab3 q4_attrs.bits3 (fun HT_ HW_ => ?_)
 generalize m9.drew = m8 at a5 a4 HB HL282_3 HL289_3 b2 b1 g2 g1 g0 d9 e9 e8 e7 d8 hHeld ⊢
 refine pu 2 9 (bits 18 0x4) HT_ (h := ?_)
 refine pu 4 11 (bits 18 0x14) HT_ (h := ?_)
 refine pu 10 17 (bits 18 0x414) HT_ (h := ?_)
 refine pu 12 19 (bits 18 0x1414) HT_ (h := ?_)
 refine tk 1 8 (bits 18 0x1416) HT_ HW_ hHeld (hy := by rintro w' ⟨s0, s1, s2, s3, s4, s5, s6, s7, s8, s9⟩; go_simp; with_reducible rfl) (h := ?_)
 refine tk 3 10 (bits 18 0x141e) HT_ HW_ hHeld (hy := by rintro w' ⟨s0, s1, s2, s3, s4, s5, s6, s7, s8, s9⟩; go_simp; with_reducible rfl) (h := ?_)
 refine pu 5 12 (bits 18 0x143e) HT_ (h := ?_)
 refine pu 6 13 (bits 18 0x147e) HT_ (h := ?_)
 refine tk 7 14 (bits 18 0x14fe) HT_ HW_ hHeld (hy := by rintro w' ⟨s0, s1, s2, s3, s4, s5, s6, s7, s8, s9⟩; go_simp; with_reducible rfl) (h := ?_)
 refine tk 11 18 (bits 18 0x1cfe) HT_ HW_ hHeld (hy := by rintro w' ⟨s0, s1, s2, s3, s4, s5, s6, s7, s8, s9⟩; go_simp; with_reducible rfl) (h := ?_)
 refine pu 13 20 (bits 18 0x3cfe) HT_ (h := ?_)
 refine pu 14 21 (bits 18 0x7cfe) HT_ (h := ?_)
 refine tk 15 22 (bits 18 0xfcfe) HT_ HW_ hHeld (hy := by rintro w' ⟨s0, s1, s2, s3, s4, s5, s6, s7, s8, s9⟩; go_simp; with_reducible rfl) (h := ?_)
 refine join_ (σ := Value × Value) 3 #[true, true, true, true, true, true, true, true, true, false, true, true, true, true, true, true, false, false] (fun s_ => [(7, s_.1), (15, s_.2)]) (fun s_ w' => (w'.cell? ⟨a3, 0, none⟩ = some (.slice (some a2) a0.length a7) ∧ w'.cell? ⟨a3, 1, none⟩ = some (.slice b0 a6.length a9) ∧ w'.cell? (a2.add ((a1).toNat * 4)) = some (.string ((rd_T68 a0 a1).f0)) ∧ w'.cell? ⟨(a2.add ((a1).toNat * 4)).block, (a2.add ((a1).toNat * 4)).off + 1, none⟩ = some (.int .i64 ((rd_T68 a0 a1).f1)) ∧ w'.cell? ⟨(a2.add ((a1).toNat * 4)).block, (a2.add ((a1).toNat * 4)).off + 2, none⟩ = some (.bool ((rd_T68 a0 a1).f2)) ∧ w'.cell? ⟨(a2.add ((a1).toNat * 4)).block, (a2.add ((a1).toNat * 4)).off + 3, none⟩ = some (.slice b5 ((rd_T68 a0 a1).f3).length b4) ∧ w'.cell? (a2.add ((a1).toNat * 4)) = some (.string ((rd_T68 a0 a1).f0)) ∧ w'.cell? ⟨(a2.add ((a1).toNat * 4)).block, (a2.add ((a1).toNat * 4)).off + 1, none⟩ = some (.int .i64 ((rd_T68 a0 a1).f1)) ∧ w'.cell? ⟨(a2.add ((a1).toNat * 4)).block, (a2.add ((a1).toNat * 4)).off + 2, none⟩ = some (.bool ((rd_T68 a0 a1).f2)) ∧ w'.cell? ⟨(a2.add ((a1).toNat * 4)).block, (a2.add ((a1).toNat * 4)).off + 3, none⟩ = some (.slice b5 ((rd_T68 a0 a1).f3).length b4)) ∧ (Kd.V k77 77 w' w.heap.size (fun k_ => (P0_0_ k_ ∨ w.heap.size ≤ k_) ∧ some k_ ≠ (s_.1 : Value).ownBlock ∧ some k_ ≠ (s_.2 : Value).ownBlock ∧ k_ ≠ a3) (.slice b5 ((rd_T68 a0 a1).f3).length b4) ((rd_T68 a0 a1).f3)) ∧ (Kd.V k77 77 w' w.heap.size (fun k_ => (P0_0_ k_ ∨ w.heap.size ≤ k_) ∧ some k_ ≠ (s_.1 : Value).ownBlock ∧ some k_ ≠ (s_.2 : Value).ownBlock ∧ k_ ≠ a3) (.slice b5 ((rd_T68 a0 a1).f3).length b4) ((rd_T68 a0 a1).f3)) ∧ (Kd.V k68 68 w' w.heap.size (fun k_ => (P0_0_ k_ ∨ w.heap.size ≤ k_) ∧ some k_ ≠ (s_.1 : Value).ownBlock ∧ some k_ ≠ (s_.2 : Value).ownBlock ∧ k_ ≠ a3) (.slice (some a2) a0.length a7) a0) ∧ (Kd.N k77 77 w' w.heap.size (fun k_ => (P0_0_ k_ ∨ w.heap.size ≤ k_) ∧ some k_ ≠ (s_.2 : Value).ownBlock ∧ k_ ≠ a3) s_.1 c0) ∧ (Kd.N k77 77 w' w.heap.size (fun k_ => (P0_0_ k_ ∨ w.heap.size ≤ k_) ∧ some k_ ≠ (s_.1 : Value).ownBlock ∧ k_ ≠ a3) s_.2 a8) ∧ (w'.heap[a3]? = some (.cells #[.slice (some a2) a0.length a7, .slice b0 a6.length a9] 25 (0, 0))) ∧ (Below w.heap.size w w')) ?_ ?_
 rotate_left
 ·intro hCont
  refine two_ (i := 0) (j := 8) (Ni := some 7) (Nj := some 15) #[true, true, true, true, true, true, true, true, false, false, true, true, true, true, true, true, false, false] #[false, true, true, true, true, true, true, true, true, false, true, true, true, true, true, true, false, false] rfl rfl rfl rfl (two_of HT_.out (by kernel_rfl)) (by decide) (by decide) (fun K hK => ?_) (fun K hK => ?_)
  ·skip
   refine Kd.N_lit_step k77 _ 77 ?hg (N' := 7) ?hd (xs := ([] : List (S77))) (inner := []) (ok := (fun k_ => (P0_0_ k_ ∨ w.heap.size ≤ k_) ∧ k_ ≠ a3)) (okp := (fun k_ => (P0_0_ k_ ∨ w.heap.size ≤ k_) ∧ k_ ≠ a3)) ?hr ?hp (fun _ hk => hk) ((show ∀ k_, m8.heap.size ≤ k_ → (fun k_ => (P0_0_ k_ ∨ w.heap.size ≤ k_) ∧ k_ ≠ a3) k_ from fun k_ hk => ⟨(.inr (Nat.le_trans (below_size (bb HB)) hk)), Kd.freshB (g := a3) (o := .cells #[.slice (some a2) a0.length a7, .slice b0 a6.length a9] 25 (0, 0)) (bk a4) k_ hk⟩) _ (Nat.le_refl _)) (Below.refl _ _) (Nat.le_refl _) (by simp) ?_; (case hd => rfl); (case hg => rfl); (case hr => first | (go_simp; done) | (go_simp; rfl)); (case hp => exact (Reps.none _ _))
   intro b6 j7 d7 hb hg_ hnew_
   have d5 := (hb.cell (World.block_lt_of_cell? _ _ (hHeld.2.2.1))).trans (hHeld.2.2.1)
   have d4 := (hb.cell (World.block_lt_of_cell? _ _ (hHeld.2.2.2.1))).trans (hHeld.2.2.2.1)
   have d3 := (hb.cell (World.block_lt_of_cell? _ _ (hHeld.2.2.2.2.1))).trans (hHeld.2.2.2.2.1)
   have d2 := (hb.cell (World.block_lt_of_cell? _ _ (hHeld.2.2.2.2.2.1))).trans (hHeld.2.2.2.2.2.1)
   have d1 := (hb.cell (World.block_lt_of_cell? _ _ (hHeld.2.2.2.2.2.2.1))).trans (hHeld.2.2.2.2.2.2.1)
   have d0 := (hb.cell (World.block_lt_of_cell? _ _ (hHeld.2.2.2.2.2.2.2.1))).trans (hHeld.2.2.2.2.2.2.2.1)
   have c7 := (hb.cell (World.block_lt_of_cell? _ _ (hHeld.2.2.2.2.2.2.2.2.1))).trans (hHeld.2.2.2.2.2.2.2.2.1)
   have c4 := (hb.cell (World.block_lt_of_cell? _ _ (hHeld.2.2.2.2.2.2.2.2.2))).trans (hHeld.2.2.2.2.2.2.2.2.2)
   clear hg_ hnew_
   (first | rw [← e6.out] at d7 | (simp only [Int.reduceToNat] at d7; rw [← e6.out] at d7))
   replace a5 := Aside0.mk (Kd.V_elder' (kV a5) (Kd.N_base d7) hb)
   replace HL282_3 := Aside0.mk (Kd.V_elder' (kV HL282_3) (Kd.N_base d7) hb)
   replace HL289_3 := Aside0.mk (Kd.V_elder' (kV HL289_3) (Kd.N_base d7) hb)
   have b8 := Aside0.mk (Kd.N_lower d7 (below_size (bb HB)))
   replace a4 := bkb a4 hb
   replace b2 := kCb b2 hb
   replace b1 := kCb b1 hb
   replace HB := bstep HB hb
   clear hb d7
   refine hK.out _ _ ⟨bc a4 0, bc a4 1, d5, d4, d3, d2, d1, d0, c7, c4⟩ (fun hHeld => ?_)
   clear hK K
   refine norm_ (a' := ?_) ?_ ?_
   rotate_left
   ·show Act.put _ (some 7) _ = _
    simp only [Act.put, List.setIfInBounds_toArray, List.set_cons_zero, List.set_cons_succ, i64_w, i32_w]
    rfl
   refine one_ (i := 8) (N := some 15) #[true, true, true, true, true, true, true, true, true, false, true, true, true, true, true, true, false, false] rfl rfl (one_of HT_.out (by kernel_rfl)) (by decide) (fun K hK => ?_)
   refine goes_ Try.func51 (by kernel_rfl) rfl #[.agg #[.slice (some a2) a0.length a7, .slice b0 a6.length a9], .int .i64 ((rd_T68 a0 a1).f1)] (by rfl) rfl rfl (by (try simp only [List.map_toArray, List.map_cons, List.map_nil]); first | done | rfl | (simp only [List.length_drop, List.length_take]; rfl)) ?_
   with_reducible refine (ih k (by omega) (fun k_ => (((P0_0_ k_ ∨ w.heap.size ≤ k_) ∧ k_ ≠ a3) ∧ some k_ ≠ (b6 : Value).ownBlock)) _ _ a0 _ _ a6 ((rd_T68 a0 a1).f1) a8 _ ?g9 ?g8 ?g7 A7.out).mono ?_
   (case g9 => exact a5.out)
   (case g8 => exact cb h9 HB)
   (case g7 => exact j0.out)
   rintro e n6 ⟨c1, rfl, d6, hb⟩
   have d5 := (hb.cell (World.block_lt_of_cell? _ _ (hHeld.2.2.1))).trans (hHeld.2.2.1)
   have d4 := (hb.cell (World.block_lt_of_cell? _ _ (hHeld.2.2.2.1))).trans (hHeld.2.2.2.1)
   have d3 := (hb.cell (World.block_lt_of_cell? _ _ (hHeld.2.2.2.2.1))).trans (hHeld.2.2.2.2.1)
   have d2 := (hb.cell (World.block_lt_of_cell? _ _ (hHeld.2.2.2.2.2.1))).trans (hHeld.2.2.2.2.2.1)
   have d1 := (hb.cell (World.block_lt_of_cell? _ _ (hHeld.2.2.2.2.2.2.1))).trans (hHeld.2.2.2.2.2.2.1)
   have d0 := (hb.cell (World.block_lt_of_cell? _ _ (hHeld.2.2.2.2.2.2.2.1))).trans (hHeld.2.2.2.2.2.2.2.1)
   have c7 := (hb.cell (World.block_lt_of_cell? _ _ (hHeld.2.2.2.2.2.2.2.2.1))).trans (hHeld.2.2.2.2.2.2.2.2.1)
   have c4 := (hb.cell (World.block_lt_of_cell? _ _ (hHeld.2.2.2.2.2.2.2.2.2))).trans (hHeld.2.2.2.2.2.2.2.2.2)
   refine ⟨_, rfl, ?_⟩
   replace a5 := Aside0.mk (Kd.V_elder' (kV a5) (Kd.N_base d6) hb)
   replace HL282_3 := Aside0.mk (Kd.V_elder' (kV HL282_3) (Kd.N_base d6) hb)
   replace HL289_3 := Aside0.mk (Kd.V_elder' (kV HL289_3) (Kd.N_base d6) hb)
   have b3 := Aside0.mk (Kd.N_lower (Kd.N_mono (ok' := fun k_ => (P0_0_ k_ ∨ w.heap.size ≤ k_) ∧ some k_ ≠ (b6 : Value).ownBlock ∧ k_ ≠ a3) d6 (fun k_ hk_ => ⟨Or.elim hk_ (fun hs_ => hs_.1.1) (fun hn_ => (.inr (Nat.le_trans (below_size (bb HB)) hn_))), Or.elim hk_ (fun hs_ => hs_.2) (fun hn_ => (Kd.fresh' (Kd.N_lt (kN b8)) k_ hn_)), Or.elim hk_ (fun hs_ => hs_.1.2) (fun hn_ => (Kd.freshB (g := a3) (o := .cells #[.slice (some a2) a0.length a7, .slice b0 a6.length a9] 25 (0, 0)) (bk a4) k_ hn_))⟩)) (below_size (bb HB)))
   replace b8 := Aside0.mk (Kd.N_elder' (kN b8) (Kd.N_base d6) hb)
   replace a4 := bkb a4 hb
   replace b2 := kCb b2 hb
   replace b1 := kCb b1 hb
   replace HB := bstep HB hb
   (try clear hb)
   (try clear hb2)
   (try clear hk)
   (try clear hi)
   (try clear d6)
   refine hK.out _ _ ⟨bc a4 0, bc a4 1, d5, d4, d3, d2, d1, d0, c7, c4⟩ (fun hHeld => ?_)
   clear hK K
   refine norm_ (a' := ?_) ?_ ?_
   rotate_left
   ·show Act.put _ (some 15) _ = _
    simp only [Act.put, List.setIfInBounds_toArray, List.set_cons_zero, List.set_cons_succ, i64_w, i32_w]
    rfl
   exact norm_ (by simp only [putAll, Act.put, List.setIfInBounds_toArray, List.set_cons_zero, List.set_cons_succ]) (hCont (b6, c1) _ ⟨hHeld, (by (with_reducible repeat (first | apply Kd.V_alloc | apply Kd.V_drewN | apply Kd.V_drew)); exact Kd.V_mono HL282_3.out (fun _ hk => ⟨hk.1.1.1, ⟨hk.1.2, ⟨hk.2, hk.1.1.2⟩⟩⟩)), (by (with_reducible repeat (first | apply Kd.V_alloc | apply Kd.V_drewN | apply Kd.V_drew)); exact Kd.V_mono HL289_3.out (fun _ hk => ⟨hk.1.1.1, ⟨hk.1.2, ⟨hk.2, hk.1.1.2⟩⟩⟩)), (by (with_reducible repeat (first | apply Kd.V_alloc | apply Kd.V_drewN | apply Kd.V_drew)); exact Kd.V_mono a5.out (fun _ hk => ⟨hk.1.1.1, ⟨hk.1.2, ⟨hk.2, hk.1.1.2⟩⟩⟩)), (by (with_reducible repeat (first | apply Kd.N_alloc | apply Kd.N_drewN | apply Kd.N_drew)); exact Kd.N_mono b8.out (fun _ hk => ⟨hk.1.1, ⟨hk.2, hk.1.2⟩⟩)), (kN b3), (bk a4), (bb HB)⟩)
  ·skip
   refine goes_ Try.func51 (by kernel_rfl) rfl #[.agg #[.slice (some a2) a0.length a7, .slice b0 a6.length a9], .int .i64 ((rd_T68 a0 a1).f1)] (by rfl) rfl rfl (by (try simp only [List.map_toArray, List.map_cons, List.map_nil]); first | done | rfl | (simp only [List.length_drop, List.length_take]; rfl)) ?_
   with_reducible refine (ih k (by omega) (fun k_ => ((P0_0_ k_ ∨ w.heap.size ≤ k_) ∧ k_ ≠ a3)) _ _ a0 _ _ a6 ((rd_T68 a0 a1).f1) a8 _ ?g9 ?g8 ?g7 A7.out).mono ?_
   (case g9 => exact a5.out)
   (case g8 => exact cb h9 HB)
   (case g7 => exact j0.out)
   rintro e j7 ⟨c1, rfl, d6, hb⟩
   have d5 := (hb.cell (World.block_lt_of_cell? _ _ (hHeld.2.2.1))).trans (hHeld.2.2.1)
   have d4 := (hb.cell (World.block_lt_of_cell? _ _ (hHeld.2.2.2.1))).trans (hHeld.2.2.2.1)
   have d3 := (hb.cell (World.block_lt_of_cell? _ _ (hHeld.2.2.2.2.1))).trans (hHeld.2.2.2.2.1)
   have d2 := (hb.cell (World.block_lt_of_cell? _ _ (hHeld.2.2.2.2.2.1))).trans (hHeld.2.2.2.2.2.1)
   have d1 := (hb.cell (World.block_lt_of_cell? _ _ (hHeld.2.2.2.2.2.2.1))).trans (hHeld.2.2.2.2.2.2.1)
   have d0 := (hb.cell (World.block_lt_of_cell? _ _ (hHeld.2.2.2.2.2.2.2.1))).trans (hHeld.2.2.2.2.2.2.2.1)
   have c7 := (hb.cell (World.block_lt_of_cell? _ _ (hHeld.2.2.2.2.2.2.2.2.1))).trans (hHeld.2.2.2.2.2.2.2.2.1)
   have c4 := (hb.cell (World.block_lt_of_cell? _ _ (hHeld.2.2.2.2.2.2.2.2.2))).trans (hHeld.2.2.2.2.2.2.2.2.2)
   refine ⟨_, rfl, ?_⟩
   replace a5 := Aside0.mk (Kd.V_elder' (kV a5) (Kd.N_base d6) hb)
   replace HL282_3 := Aside0.mk (Kd.V_elder' (kV HL282_3) (Kd.N_base d6) hb)
   replace HL289_3 := Aside0.mk (Kd.V_elder' (kV HL289_3) (Kd.N_base d6) hb)
   have b3 := Aside0.mk (Kd.N_lower (Kd.N_mono (ok' := fun k_ => (P0_0_ k_ ∨ w.heap.size ≤ k_) ∧ k_ ≠ a3) d6 (fun k_ hk_ => ⟨Or.elim hk_ (fun hs_ => hs_.1) (fun hn_ => (.inr (Nat.le_trans (below_size (bb HB)) hn_))), Or.elim hk_ (fun hs_ => hs_.2) (fun hn_ => (Kd.freshB (g := a3) (o := .cells #[.slice (some a2) a0.length a7, .slice b0 a6.length a9] 25 (0, 0)) (bk a4) k_ hn_))⟩)) (below_size (bb HB)))
   replace a4 := bkb a4 hb
   replace b2 := kCb b2 hb
   replace b1 := kCb b1 hb
   replace HB := bstep HB hb
   (try clear hb)
   (try clear hb2)
   (try clear hk)
   (try clear hi)
   (try clear d6)
   refine hK.out _ _ ⟨bc a4 0, bc a4 1, d5, d4, d3, d2, d1, d0, c7, c4⟩ (fun hHeld => ?_)
   clear hK K
   refine norm_ (a' := ?_) ?_ ?_
   rotate_left
   ·show Act.put _ (some 15) _ = _
    simp only [Act.put, List.setIfInBounds_toArray, List.set_cons_zero, List.set_cons_succ, i64_w, i32_w]
    rfl
   refine one_ (i := 0) (N := some 7) #[true, true, true, true, true, true, true, true, true, false, true, true, true, true, true, true, false, false] rfl rfl (one_of HT_.out (by kernel_rfl)) (by decide) (fun K hK => ?_)
   refine Kd.N_lit_step k77 _ 77 ?hg (N' := 7) ?hd (xs := ([] : List (S77))) (inner := []) (ok := (fun k_ => (P0_0_ k_ ∨ w.heap.size ≤ k_) ∧ some k_ ≠ (c1 : Value).ownBlock ∧ k_ ≠ a3)) (okp := (fun k_ => (P0_0_ k_ ∨ w.heap.size ≤ k_) ∧ some k_ ≠ (c1 : Value).ownBlock ∧ k_ ≠ a3)) ?hr ?hp (fun _ hk => hk) ((show ∀ k_, j7.heap.size ≤ k_ → (fun k_ => (P0_0_ k_ ∨ w.heap.size ≤ k_) ∧ some k_ ≠ (c1 : Value).ownBlock ∧ k_ ≠ a3) k_ from fun k_ hk => ⟨(.inr (Nat.le_trans (below_size (bb HB)) hk)), Kd.fresh' (Kd.N_lt (kN b3)) k_ hk, Kd.freshB (g := a3) (o := .cells #[.slice (some a2) a0.length a7, .slice b0 a6.length a9] 25 (0, 0)) (bk a4) k_ hk⟩) _ (Nat.le_refl _)) (Below.refl _ _) (Nat.le_refl _) (by simp) ?_; (case hd => rfl); (case hg => rfl); (case hr => first | (go_simp; done) | (go_simp; rfl)); (case hp => exact (Reps.none _ _))
   intro b6 n7 c2 hb hg_ hnew_
   have d5 := (hb.cell (World.block_lt_of_cell? _ _ (hHeld.2.2.1))).trans (hHeld.2.2.1)
   have d4 := (hb.cell (World.block_lt_of_cell? _ _ (hHeld.2.2.2.1))).trans (hHeld.2.2.2.1)
   have d3 := (hb.cell (World.block_lt_of_cell? _ _ (hHeld.2.2.2.2.1))).trans (hHeld.2.2.2.2.1)
   have d2 := (hb.cell (World.block_lt_of_cell? _ _ (hHeld.2.2.2.2.2.1))).trans (hHeld.2.2.2.2.2.1)
   have d1 := (hb.cell (World.block_lt_of_cell? _ _ (hHeld.2.2.2.2.2.2.1))).trans (hHeld.2.2.2.2.2.2.1)
   have d0 := (hb.cell (World.block_lt_of_cell? _ _ (hHeld.2.2.2.2.2.2.2.1))).trans (hHeld.2.2.2.2.2.2.2.1)
   have c7 := (hb.cell (World.block_lt_of_cell? _ _ (hHeld.2.2.2.2.2.2.2.2.1))).trans (hHeld.2.2.2.2.2.2.2.2.1)
   have c4 := (hb.cell (World.block_lt_of_cell? _ _ (hHeld.2.2.2.2.2.2.2.2.2))).trans (hHeld.2.2.2.2.2.2.2.2.2)
   clear hg_ hnew_
   (first | rw [← e6.out] at c2 | (simp only [Int.reduceToNat] at c2; rw [← e6.out] at c2))
   replace a5 := Aside0.mk (Kd.V_elder' (kV a5) (Kd.N_base c2) hb)
   replace HL282_3 := Aside0.mk (Kd.V_elder' (kV HL282_3) (Kd.N_base c2) hb)
   replace HL289_3 := Aside0.mk (Kd.V_elder' (kV HL289_3) (Kd.N_base c2) hb)
   replace b3 := Aside0.mk (Kd.N_elder' (kN b3) (Kd.N_base c2) hb)
   have b8 := Aside0.mk (Kd.N_lower c2 (below_size (bb HB)))
   replace a4 := bkb a4 hb
   replace b2 := kCb b2 hb
   replace b1 := kCb b1 hb
   replace HB := bstep HB hb
   clear hb c2
   refine hK.out _ _ ⟨bc a4 0, bc a4 1, d5, d4, d3, d2, d1, d0, c7, c4⟩ (fun hHeld => ?_)
   clear hK K
   refine norm_ (a' := ?_) ?_ ?_
   rotate_left
   ·show Act.put _ (some 7) _ = _
    simp only [Act.put, List.setIfInBounds_toArray, List.set_cons_zero, List.set_cons_succ, i64_w, i32_w]
    rfl
   exact norm_ (by simp only [putAll, Act.put, List.setIfInBounds_toArray, List.set_cons_zero, List.set_cons_succ]) (hCont (b6, c1) _ ⟨hHeld, (by (with_reducible repeat (first | apply Kd.V_alloc | apply Kd.V_drewN | apply Kd.V_drew)); exact Kd.V_mono HL282_3.out (fun _ hk => ⟨hk.1.1.1, ⟨hk.2, ⟨hk.1.2, hk.1.1.2⟩⟩⟩)), (by (with_reducible repeat (first | apply Kd.V_alloc | apply Kd.V_drewN | apply Kd.V_drew)); exact Kd.V_mono HL289_3.out (fun _ hk => ⟨hk.1.1.1, ⟨hk.2, ⟨hk.1.2, hk.1.1.2⟩⟩⟩)), (by (with_reducible repeat (first | apply Kd.V_alloc | apply Kd.V_drewN | apply Kd.V_drew)); exact Kd.V_mono a5.out (fun _ hk => ⟨hk.1.1.1, ⟨hk.2, ⟨hk.1.2, hk.1.1.2⟩⟩⟩)), (kN b8), (by (with_reducible repeat (first | apply Kd.N_alloc | apply Kd.N_drewN | apply Kd.N_drew)); exact Kd.N_mono b3.out (fun _ hk => ⟨hk.1.1, ⟨hk.2, hk.1.2⟩⟩)), (bk a4), (bb HB)⟩)
 rintro ⟨b6, c1⟩ b9 ⟨hS_, h0_, h1_, h2_, h3_, h4_, h5_, h6_⟩
 have HL282_3 : Aside0 (Kd.V k77 77 b9 w.heap.size (fun k_ => (P0_0_ k_ ∨ w.heap.size ≤ k_) ∧ some k_ ≠ (b6 : Value).ownBlock ∧ some k_ ≠ (c1 : Value).ownBlock ∧ k_ ≠ a3) (.slice b5 ((rd_T68 a0 a1).f3).length b4) ((rd_T68 a0 a1).f3)) := ⟨h0_⟩
 have HL289_3 : Aside0 (Kd.V k77 77 b9 w.heap.size (fun k_ => (P0_0_ k_ ∨ w.heap.size ≤ k_) ∧ some k_ ≠ (b6 : Value).ownBlock ∧ some k_ ≠ (c1 : Value).ownBlock ∧ k_ ≠ a3) (.slice b5 ((rd_T68 a0 a1).f3).length b4) ((rd_T68 a0 a1).f3)) := ⟨h1_⟩
 replace a5 : Aside0 (Kd.V k68 68 b9 w.heap.size (fun k_ => (P0_0_ k_ ∨ w.heap.size ≤ k_) ∧ some k_ ≠ (b6 : Value).ownBlock ∧ some k_ ≠ (c1 : Value).ownBlock ∧ k_ ≠ a3) (.slice (some a2) a0.length a7) a0) := ⟨h2_⟩
 have b8 : Aside0 (Kd.N k77 77 b9 w.heap.size (fun k_ => (P0_0_ k_ ∨ w.heap.size ≤ k_) ∧ some k_ ≠ (c1 : Value).ownBlock ∧ k_ ≠ a3) b6 c0) := ⟨h3_⟩
 have b3 : Aside0 (Kd.N k77 77 b9 w.heap.size (fun k_ => (P0_0_ k_ ∨ w.heap.size ≤ k_) ∧ some k_ ≠ (b6 : Value).ownBlock ∧ k_ ≠ a3) c1 a8) := ⟨h4_⟩
 replace a4 : Aside0 (b9.heap[a3]? = some (.cells #[.slice (some a2) a0.length a7, .slice b0 a6.length a9] 25 (0, 0))) := ⟨h5_⟩
 replace HB : Aside0 (Below w.heap.size w b9) := ⟨h6_⟩
 clear h0_ h1_ h2_ h3_ h4_ h5_ h6_
 have hHeld : b9.cell? ⟨a3, 0, none⟩ = some (.slice (some a2) a0.length a7) ∧ b9.cell? ⟨a3, 1, none⟩ = some (.slice b0 a6.length a9) ∧ b9.cell? (a2.add ((a1).toNat * 4)) = some (.string ((rd_T68 a0 a1).f0)) ∧ b9.cell? ⟨(a2.add ((a1).toNat * 4)).block, (a2.add ((a1).toNat * 4)).off + 1, none⟩ = some (.int .i64 ((rd_T68 a0 a1).f1)) ∧ b9.cell? ⟨(a2.add ((a1).toNat * 4)).block, (a2.add ((a1).toNat * 4)).off + 2, none⟩ = some (.bool ((rd_T68 a0 a1).f2)) ∧ b9.cell? ⟨(a2.add ((a1).toNat * 4)).block, (a2.add ((a1).toNat * 4)).off + 3, none⟩ = some (.slice b5 ((rd_T68 a0 a1).f3).length b4) ∧ b9.cell? (a2.add ((a1).toNat * 4)) = some (.string ((rd_T68 a0 a1).f0)) ∧ b9.cell? ⟨(a2.add ((a1).toNat * 4)).block, (a2.add ((a1).toNat * 4)).off + 1, none⟩ = some (.int .i64 ((rd_T68 a0 a1).f1)) ∧ b9.cell? ⟨(a2.add ((a1).toNat * 4)).block, (a2.add ((a1).toNat * 4)).off + 2, none⟩ = some (.bool ((rd_T68 a0 a1).f2)) ∧ b9.cell? ⟨(a2.add ((a1).toNat * 4)).block, (a2.add ((a1).toNat * 4)).off + 3, none⟩ = some (.slice b5 ((rd_T68 a0 a1).f3).length b4) := hS_
 obtain ⟨e4, e3, eo17⟩ := Kd.N_slice b3.out
 (first | subst eo17 | (injection eo17 with f1_ f2_ f3_; have f4_ := f1_.symm; have f5_ := f3_.symm; clear f1_ f2_ f3_; subst f4_; subst f5_))
 refine norm_ (a' := ?_) ?_ ?_
 rotate_left
 ·simp only [putAll, Act.put, List.setIfInBounds_toArray, List.set_cons_zero, List.set_cons_succ]
  rfl
 refine one_ (i := 9) (N := some 16) #[true, true, true, true, true, true, true, true, true, true, true, true, true, true, true, true, false, false] rfl rfl (one_of HT_.out (by kernel_rfl)) (by decide) (fun K hK => ?_)
 refine Kd.N_append_rows_step k77 (w0 := w) w.heap.size (by rfl) (.tmp 7) (.tmp 15) 45 77 (.agg #[(.string ⟨#[]⟩), (.int .i64 0), (.int .i64 0), (.slice none 0 0)]) 56 rfl Try.underlying45 info77 rfl (by decide) (by omega) b6 c0 a8 _ _ _ (fun k_ => (P0_0_ k_ ∨ w.heap.size ≤ k_) ∧ k_ ≠ a3) (fun k_ => ((fun k_ => (P0_0_ k_ ∨ w.heap.size ≤ k_) ∧ k_ ≠ a3)) k_ ∧ some k_ ≠ (b6 : Value).ownBlock) rfl rfl ?aO ?aR (fun _ hk => hk) ?aF ?aB ?aS ?aL ?_
 (case aR => exact (by skip; exact Kd.N_F (Kd.N_mono (ok' := (fun k_ => ((fun k_ => (P0_0_ k_ ∨ w.heap.size ≤ k_) ∧ k_ ≠ a3)) k_ ∧ some k_ ≠ (b6 : Value).ownBlock)) (b3.out) (fun k_ hk => ⟨⟨hk.1, hk.2.2⟩, hk.2.1⟩))))
 (case aB => exact (bb HB))
 (case aF => exact (fun k_ hk => ⟨(.inr (Nat.le_trans (below_size (bb HB)) hk)), Kd.freshB (g := a3) (o := .cells #[.slice (some a2) a0.length a7, .slice b0 a6.length a9] 25 (0, 0)) (bk a4) k_ hk⟩))
 (case aO => exact (by (with_reducible repeat (first | apply Kd.N_alloc | apply Kd.N_drewN | apply Kd.N_drew)); exact Kd.N_mono b8.out (fun _ hk => ⟨hk.1, hk.2.2⟩)))
 (case aS => exact (below_size (bb HB)))
 (case aL => have := m5.out; omega)
 intro h7 n5 ho hb hg hat
 rw [← j4.out] at ho
 have hne_ : some (a2.add (a1.toNat * 4)).block ≠ (b6 : Value).ownBlock := by rw [add_block]; exact (V_block a5.out (by have := j1.out; omega) (by decide)).2.1
 have d5 := cell_grown hg (hHeld.2.2.1) (by first | exact hne_ | (show some (Addr.add _ _).block ≠ _; exact hne_))
 have d4 := cell_grown hg (hHeld.2.2.2.1) (by first | exact hne_ | (show some (Addr.add _ _).block ≠ _; exact hne_))
 have d3 := cell_grown hg (hHeld.2.2.2.2.1) (by first | exact hne_ | (show some (Addr.add _ _).block ≠ _; exact hne_))
 have d2 := cell_grown hg (hHeld.2.2.2.2.2.1) (by first | exact hne_ | (show some (Addr.add _ _).block ≠ _; exact hne_))
 have d1 := cell_grown hg (hHeld.2.2.2.2.2.2.1) (by first | exact hne_ | (show some (Addr.add _ _).block ≠ _; exact hne_))
 have d0 := cell_grown hg (hHeld.2.2.2.2.2.2.2.1) (by first | exact hne_ | (show some (Addr.add _ _).block ≠ _; exact hne_))
 have c7 := cell_grown hg (hHeld.2.2.2.2.2.2.2.2.1) (by first | exact hne_ | (show some (Addr.add _ _).block ≠ _; exact hne_))
 have c4 := cell_grown hg (hHeld.2.2.2.2.2.2.2.2.2) (by first | exact hne_ | (show some (Addr.add _ _).block ≠ _; exact hne_))
 replace a5 := Aside0.mk (Kd.V_afterv (ok := (fun k_ => (P0_0_ k_ ∨ w.heap.size ≤ k_) ∧ some k_ ≠ (.slice e4 a8.length e3 : Value).ownBlock ∧ k_ ≠ a3)) (by (with_reducible repeat (first | apply Kd.V_alloc | apply Kd.V_drewN | apply Kd.V_drew)); exact Kd.V_mono a5.out (fun _ hk => ⟨⟨hk.1, ⟨hk.2.2.1, hk.2.2.2⟩⟩, hk.2.1⟩)) hg hat)
 replace a4 := Aside0.mk (blk_grown (g := a3) (o := .cells #[.slice (some a2) a0.length a7, .slice b0 a6.length a9] 25 (0, 0)) (bk a4) hg (Kd.N_ne b8.out a4.out (by decide)))
 replace HL282_3 := Aside0.mk (Kd.V_afterv (ok := (fun k_ => (P0_0_ k_ ∨ w.heap.size ≤ k_) ∧ some k_ ≠ (.slice e4 a8.length e3 : Value).ownBlock ∧ k_ ≠ a3)) (by (with_reducible repeat (first | apply Kd.V_alloc | apply Kd.V_drewN | apply Kd.V_drew)); exact Kd.V_mono HL282_3.out (fun _ hk => ⟨⟨hk.1, ⟨hk.2.2.1, hk.2.2.2⟩⟩, hk.2.1⟩)) hg hat)
 replace HL289_3 := Aside0.mk (Kd.V_afterv (ok := (fun k_ => (P0_0_ k_ ∨ w.heap.size ≤ k_) ∧ some k_ ≠ (.slice e4 a8.length e3 : Value).ownBlock ∧ k_ ≠ a3)) (by (with_reducible repeat (first | apply Kd.V_alloc | apply Kd.V_drewN | apply Kd.V_drew)); exact Kd.V_mono HL289_3.out (fun _ hk => ⟨⟨hk.1, ⟨hk.2.2.1, hk.2.2.2⟩⟩, hk.2.1⟩)) hg hat)
 replace b3 := Aside0.mk (Kd.N_afterv (ok := (fun k_ => (P0_0_ k_ ∨ w.heap.size ≤ k_) ∧ k_ ≠ a3)) (by (with_reducible repeat (first | apply Kd.N_alloc | apply Kd.N_drewN | apply Kd.N_drew)); exact Kd.N_mono b3.out (fun _ hk => ⟨⟨hk.1, hk.2.2⟩, hk.2.1⟩)) hg hat)
 replace HB := Aside0.mk (hb)
 have h6 := Aside0.mk (ho)
 clear b8 ho hb hg hat
 refine hK.out _ _ ⟨bc a4 0, bc a4 1, d5, d4, d3, d2, d1, d0, c7, c4⟩ (fun hHeld => ?_)
 clear hK K
 refine norm_ (a' := ?_) ?_ ?_
 rotate_left
 ·show Act.put _ (some 16) _ = _
  simp only [Act.put, List.setIfInBounds_toArray, List.set_cons_zero, List.set_cons_succ, i64_w, i32_w]
  rfl
 refine last_ (i := 16) (N := some 23) #[true, true, true, true, true, true, true, true, true, true, true, true, true, true, true, true, true, false] rfl rfl (one_of HT_.out (by kernel_rfl)) (by decide) (fun K hK => ?_)
 refine Kd.N_append_rows_step k77 (w0 := w) w.heap.size (by rfl) (.tmp 16) (.tmp 22) 45 77 (.agg #[(.string ⟨#[]⟩), (.int .i64 0), (.int .i64 0), (.slice none 0 0)]) 56 rfl Try.underlying45 info77 rfl (by decide) (by omega) h7 b7 ((rd_T68 a0 a1).f3) _ _ _ (fun k_ => (P0_0_ k_ ∨ w.heap.size ≤ k_) ∧ k_ ≠ a3) (fun k_ => ((fun k_ => (P0_0_ k_ ∨ w.heap.size ≤ k_) ∧ k_ ≠ a3)) k_ ∧ some k_ ≠ (h7 : Value).ownBlock) rfl rfl ?aO ?aR (fun _ hk => hk) ?aF ?aB ?aS ?aL ?_
 (case aR => exact (by skip; exact Kd.V_F (Kd.V_mono (ok' := (fun k_ => ((fun k_ => (P0_0_ k_ ∨ w.heap.size ≤ k_) ∧ k_ ≠ a3)) k_ ∧ some k_ ≠ (h7 : Value).ownBlock)) (HL289_3.out) (fun k_ hk => ⟨⟨hk.1.1, hk.1.2.2⟩, hk.2⟩))))
 (case aB => exact (bb HB))
 (case aF => exact (fun k_ hk => ⟨(.inr (Nat.le_trans (below_size (bb HB)) hk)), Kd.freshB (g := a3) (o := .cells #[.slice (some a2) a0.length a7, .slice b0 a6.length a9] 25 (0, 0)) (bk a4) k_ hk⟩))
 (case aO => exact (kN h6))
 (case aS => exact (below_size (bb HB)))
 (case aL => have := m4.out; omega)
 intro n2 n4 ho hb hg hat
 rw [← j3.out] at ho
 replace a5 := Aside0.mk (Kd.V_afterv (ok := (fun k_ => (P0_0_ k_ ∨ w.heap.size ≤ k_) ∧ some k_ ≠ (.slice e4 a8.length e3 : Value).ownBlock ∧ k_ ≠ a3)) (kV a5) hg hat)
 replace a4 := Aside0.mk (blk_grown (g := a3) (o := .cells #[.slice (some a2) a0.length a7, .slice b0 a6.length a9] 25 (0, 0)) (bk a4) hg (Kd.N_ne h6.out a4.out (by decide)))
 replace HL282_3 := Aside0.mk (Kd.V_afterv (ok := (fun k_ => (P0_0_ k_ ∨ w.heap.size ≤ k_) ∧ some k_ ≠ (.slice e4 a8.length e3 : Value).ownBlock ∧ k_ ≠ a3)) (kV HL282_3) hg hat)
 replace HL289_3 := Aside0.mk (Kd.V_afterv (ok := (fun k_ => (P0_0_ k_ ∨ w.heap.size ≤ k_) ∧ some k_ ≠ (.slice e4 a8.length e3 : Value).ownBlock ∧ k_ ≠ a3)) (kV HL289_3) hg hat)
 replace b3 := Aside0.mk (Kd.N_afterv (ok := (fun k_ => (P0_0_ k_ ∨ w.heap.size ≤ k_) ∧ k_ ≠ a3)) (kN b3) hg hat)
 replace HB := Aside0.mk (hb)
 have j5 := Aside0.mk (ho)
 clear h6 ho hb hg hat
 refine hK.out _ _ ?_
 clear hK K
 refine norm_ (a' := ?_) ?_ ?_
 rotate_left
 ·show Act.put _ (some 23) _ = _
  simp only [Act.put, List.setIfInBounds_toArray, List.set_cons_zero, List.set_cons_succ, i64_w, i32_w]
  rfl
 refine pu 17 4 (bits 18 0x3ffff) HT_ (h := ?_)
 refine done_ (done_of HT_.out (by kernel_rfl)) ?_
 try go_wp2
 go_ret
 exact ⟨_, erf, by (with_reducible repeat (first | apply Kd.N_alloc | apply Kd.N_drewN | apply Kd.N_drew)); exact Kd.N_mono j5.out (fun _ hk => hk.1), bb HB⟩
end Go.Proofs.Ytfpianecohobjaa.P
