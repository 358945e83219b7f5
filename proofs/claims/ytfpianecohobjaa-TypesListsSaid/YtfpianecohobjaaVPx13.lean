/- typesLists_holds: a part of the proof that the law returns true for every input. No condition. -/
import Derived.Test.YtfpianecohobjaaVPx0
import Derived.Test.YtfpianecohobjaaVH0
namespace Go.Proofs.Ytfpianecohobjaa.P
open Go.RowKit Go.Proofs.YtfpianecohobjaaW.PrintWords Go.Proofs.YtfpianecohobjaaW.PrintLast Go.Proofs.YtfpianecohobjaaW.PrintMore
set_option linter.unusedVariables false
set_option linter.unusedSimpArgs false
def q4_attrs.f : Nat → List (S68) → List (S71) → Int → Option ((List (S77)))
 | 0, _, _, _ => none
 | k + 1, l0_0, l0_1, a1 => if a1 < 0 then (some ([] : List (S77))) else ((some (([] : List (S77)) : List (S77))).bind fun y279 => (if 0 ≤ a1 then (if a1 < (l0_0.length : Int) then ((q4_attrs.f k l0_0 l0_1 ((rd_T68 l0_0 a1).f1)).bind fun t283 => (if y279.length + t283.length < 2513169434916 then ((some (y279 ++ t283 : List (S77))).bind fun y286 => (if y286.length + ((rd_T68 l0_0 a1).f3).length < 2513169434916 then (some (y286 ++ ((rd_T68 l0_0 a1).f3))) else (none))) else (none))) else (none)) else (none)))
def q4_attrs.T3 : Bool × List (List Nat × List Nat) := (true, [([], []), ([], []), ([], []), ([2], [2]), ([], []), ([3, 4], [3, 4]), ([5], [5]), ([6], [6]), ([1, 7], [1, 7]), ([0, 8, 8], [0, 8]), ([], []), ([10], [10]), ([], []), ([11, 12], [11, 12]), ([13], [13]), ([14], [14]), ([9, 15, 9], [9, 15]), ([16, 16, 0, 1, 2, 3, 4, 5, 6, 7, 8, 9, 10, 11, 12, 13, 14, 15, 16], [16])])
def q4_attrs.B3 : List Nat := [0, 0, 0, 4, 0, 28, 60, 124, 254, 511, 0, 1024, 0, 7168, 15360, 31744, 65535, 131071]
theorem q4_attrs.tab3 : rtab .any (opsOf Try.f51 3) = q4_attrs.T3 := by kernel_rfl
theorem q4_attrs.bits3 : waitsOk q4_attrs.T3.2 q4_attrs.B3 = true := by kernel_rfl
set_option maxHeartbeats 8000000 in
set_option maxRecDepth 100000 in
theorem q4_attrs.calls (k : Nat) : ∀ (P0_0_ : Nat → Prop) (A0_0 : Option Addr) (c0_0 : Nat) (l0_0 : List (S68)) (A0_1 : Option Addr) (c0_1 : Nat) (l0_1 : List (S71)) (a1 : Int) (r : List (S77)) (w : World) (hs0_0 : Kd.V k68 68 w w.heap.size (fun k_ => P0_0_ k_) (.slice A0_0 l0_0.length c0_0) l0_0) (hr0_1 : Kd.C k71 w A0_1 l0_1.length l0_1) (hc0_1 : l0_1.length ≤ c0_1) (h : q4_attrs.f k l0_0 l0_1 a1 = some r),
  Calls Try.prog 51 #[.agg #[.slice A0_0 l0_0.length c0_0, .slice A0_1 l0_1.length c0_1], .int .i64 a1] w fun e w' => ∃ v0_ : Value, e = .returned (v0_) ∧ Kd.N k77 77 w' w.heap.size (fun k_ => (P0_0_ k_ ∨ w.heap.size ≤ k_)) v0_ r ∧ Below w.heap.size w w' := by
 induction k using Nat.strongRecOn with
 | _ k ih =>
 intro P0_0_ A0_0 c0_0 l0_0 A0_1 c0_1 l0_1 a1 r w hs0_0 hr0_1 hc0_1 h
 cases k with
 | zero => exact absurd h (by simp [q4_attrs.f])
 | succ k =>
 simp only [q4_attrs.f] at h
 have hu25 := Try.underlying25
 have HO0_0 := Aside0.mk (show Kd.V k68 68 w w.heap.size (fun k_ => (P0_0_ k_ ∨ w.heap.size ≤ k_)) (.slice A0_0 l0_0.length c0_0) l0_0 from Kd.V_mono hs0_0 (fun k_ hk => .inl hk))
 have HR0_1 := Aside0.mk hr0_1
 have HC0_1 := Aside0.mk hc0_1
 clear hr0_1 hc0_1
 have HB := Aside0.mk (Below.refl w.heap.size w)
 have H : (if a1 < 0 then (some ([] : List (S77))) else ((some (([] : List (S77)) : List (S77))).bind fun y279 => (if 0 ≤ a1 then (if a1 < (l0_0.length : Int) then ((q4_attrs.f k l0_0 l0_1 ((rd_T68 l0_0 a1).f1)).bind fun t283 => (if y279.length + t283.length < 2513169434916 then ((some (y279 ++ t283 : List (S77))).bind fun y286 => (if y286.length + ((rd_T68 l0_0 a1).f3).length < 2513169434916 then (some (y286 ++ ((rd_T68 l0_0 a1).f3))) else (none))) else (none))) else (none)) else (none)))) = some r := h
 clear h
 by_cases c3 : a1 < 0
 ·rw [if_pos c3] at H
  have c3b0 : decide (a1 < 0) = true := decide_eq_true c3
  clear c3
  obtain rfl := Option.some.inj H
  go_enter Try.func51, Try.ntmps51
  go_wp2_with ((with_reducible refine gate_dst (N := 2) rfl ?_); refine box_event ?hg (N := 2) ?hd (cs := #[.slice A0_0 l0_0.length c0_0, .slice A0_1 l0_1.length c0_1]) (t := 25) ?hr ?_; (case hd => rfl); (case hg => rfl); (case hr => first | (go_simp; done) | (go_simp; rfl)); intro gb278 hg w4 hbox hb; replace HO0_0 := Aside0.mk (Kd.V_below (Kd.V_elderB (kV HO0_0) gb278 (Nat.le_of_eq hg.symm)) hb); have BK278 := Aside0.mk (hbox); have GW278 := bsz HB hg; have GE278 := bsz HB hg; replace HB := bstep HB hb; clear hb hbox hg)
  go_ret
  exact ⟨_, erf, by first | exact Kd.S_nil _ _ _ _ _ | exact Kd.N_nil _ _ _ _ _ | exact Kd.V_nil _ _ _ _ _ | exact Kd.Q_nil _ _ _ _ _ | exact Kd.R_nil _ _ _ _ _, bb HB⟩
 ·rw [if_neg c3] at H
  have c3b0 : decide (a1 < 0) = false := decide_eq_false c3
  clear c3
  obtain ⟨y279, hy279⟩ : ∃ y_ : List (S77), y_ = (([] : List (S77))) := ⟨_, rfl⟩
  replace H : (if 0 ≤ a1 then (if a1 < (l0_0.length : Int) then ((q4_attrs.f k l0_0 l0_1 ((rd_T68 l0_0 a1).f1)).bind fun t283 => (if y279.length + t283.length < 2513169434916 then ((some (y279 ++ t283 : List (S77))).bind fun y286 => (if y286.length + ((rd_T68 l0_0 a1).f3).length < 2513169434916 then (some (y286 ++ ((rd_T68 l0_0 a1).f3))) else (none))) else (none))) else (none)) else (none)) = some r := by first | (rw [hy279]; with_reducible exact H) | (have H2_ := (Option.bind_some _ _).symm.trans H; rw [hy279]; with_reducible exact H2_) | (have H2_ := (Option.bind_some _ _).symm.trans H; with_reducible exact H2_) | with_reducible exact H | (rw [hy279]; exact H) | exact H
  have Ny279 := Aside0.mk hy279
  clear hy279
  by_cases c5 : 0 ≤ a1
  ·rw [if_pos c5] at H
   have c5b0 : decide (0 ≤ a1) = true := decide_eq_true c5
   clear c5
   by_cases c6 : a1 < (l0_0.length : Int)
   ·rw [if_pos c6] at H
    have c6b0 : decide (a1 < (l0_0.length : Int)) = true := decide_eq_true c6
    have c6b1_ := Aside0.mk (show 0 ≤ a1 ∧ a1 < (l0_0.length : Int) from ⟨of_decide_eq_true c5b0, c6⟩)
    clear c6
    replace H := Option.bind_eq_some_iff.mp H
    obtain ⟨t283, A70, H⟩ := H
    replace H : (if y279.length + t283.length < 2513169434916 then ((some (y279 ++ t283 : List (S77))).bind fun y286 => (if y286.length + ((rd_T68 l0_0 a1).f3).length < 2513169434916 then (some (y286 ++ ((rd_T68 l0_0 a1).f3))) else (none))) else (none)) = some r := H
    have A7 := Aside0.mk A70
    clear A70
    by_cases c8 : y279.length + t283.length < 2513169434916
    ·rw [if_pos c8] at H
     have LMc8 := Aside0.mk c8
     clear c8
     obtain ⟨y286, hy286⟩ : ∃ y_ : List (S77), y_ = (y279 ++ t283) := ⟨_, rfl⟩
     replace H : (if y286.length + ((rd_T68 l0_0 a1).f3).length < 2513169434916 then (some (y286 ++ ((rd_T68 l0_0 a1).f3))) else (none)) = some r := by first | (rw [hy286]; with_reducible exact H) | (have H2_ := (Option.bind_some _ _).symm.trans H; rw [hy286]; with_reducible exact H2_) | (have H2_ := (Option.bind_some _ _).symm.trans H; with_reducible exact H2_) | with_reducible exact H | (rw [hy286]; exact H) | exact H
     have Ny286 := Aside0.mk hy286
     clear hy286
     by_cases c9 : y286.length + ((rd_T68 l0_0 a1).f3).length < 2513169434916
     ·rw [if_pos c9] at H
      have LMc9 := Aside0.mk c9
      clear c9
      obtain ⟨y290, hy290⟩ : ∃ y_ : List (S77), y_ = (y286 ++ ((rd_T68 l0_0 a1).f3)) := ⟨_, rfl⟩
      replace H : (some y290) = some r := by first | (rw [hy290]; with_reducible exact H) | (have H2_ := (Option.bind_some _ _).symm.trans H; rw [hy290]; with_reducible exact H2_) | (have H2_ := (Option.bind_some _ _).symm.trans H; with_reducible exact H2_) | with_reducible exact H | (rw [hy290]; exact H) | exact H
      have Ny290 := Aside0.mk hy290
      clear hy290
      obtain rfl := Option.some.inj H
      go_enter Try.func51, Try.ntmps51
      try go_wp2_with ((with_reducible refine gate_dst (N := 2) rfl ?_); refine box_event ?hg (N := 2) ?hd (cs := #[.slice A0_0 l0_0.length c0_0, .slice A0_1 l0_1.length c0_1]) (t := 25) ?hr ?_; (case hd => rfl); (case hg => rfl); (case hr => first | (go_simp; done) | (go_simp; rfl)); intro gb278 hg w10 hbox hb; replace HO0_0 := Aside0.mk (Kd.V_below (Kd.V_elderB (kV HO0_0) gb278 (Nat.le_of_eq hg.symm)) hb); have BK278 := Aside0.mk (hbox); have GW278 := bsz HB hg; have GE278 := bsz HB hg; replace HB := bstep HB hb; clear hb hbox hg)
      replace HO0_0 := Aside0.mk (Kd.V_drew HO0_0.out)
      replace BK278 := Aside0.mk (blk_drew BK278.out)
      replace HB := Aside0.mk (below_drew1 HB.out)
      have p282 : 0 ≤ a1 := odt
      have q282 : a1 < (l0_0.length : Int) := odt
      obtain ⟨ad282, A282_3, c282_3, e282, hx282_0, hx282_1, hx282_2, hx282_3, hl282_3, hi282_3⟩ := at_T68 (Kd.V_reads' HO0_0.out).2.2 a1 p282 q282
      cases e282
      obtain ⟨ce282, hce282, hMe282, hcc282⟩ := Kd.V_get HO0_0.out z68 a1 p282 (by first | exact q282 | exact odt | (have e_ := (Kd.V_reads' HO0_0.out).1; omega))
      obtain ⟨ua282_3, uc282_3, rfl, ul282_3, ge282_3⟩ := k68_openF hMe282
      have hv282_3 := hcc282 3 _ rfl
      rw [add_field _ _ 3 (by omega)] at hv282_3
      replace hv282_3 := Option.some.inj (hv282_3.symm.trans hx282_3)
      injection hv282_3 with hva_ hvn_ hvc_
      rw [hva_] at ge282_3
      rw [hvc_] at ul282_3
      have HL282_3 := Aside0.mk (show Kd.V k77 77 _ w.heap.size _ _ ((rd_T68 l0_0 a1).f3) from Kd.V_mk ul282_3 ge282_3)
      clear hva_ hvn_ hvc_ ge282_3 ul282_3 hcc282 hce282
      have HR282_3 := Aside0.mk hi282_3
      have HC282_3 := Aside0.mk hl282_3
      clear hi282_3 hl282_3
      replace p282 := eq_true p282
      replace q282 := eq_true q282
      have p289 : 0 ≤ a1 := odt
      have q289 : a1 < (l0_0.length : Int) := odt
      obtain ⟨ad289, A289_3, c289_3, e289, hx289_0, hx289_1, hx289_2, hx289_3, hl289_3, hi289_3⟩ := at_T68 (Kd.V_reads' HO0_0.out).2.2 a1 p289 q289
      obtain rfl : ad282 = ad289 := (by injection e289)
      obtain ⟨ce289, hce289, hMe289, hcc289⟩ := Kd.V_get HO0_0.out z68 a1 p289 (by first | exact q289 | exact odt | (have e_ := (Kd.V_reads' HO0_0.out).1; omega))
      obtain ⟨ua289_3, uc289_3, rfl, ul289_3, ge289_3⟩ := k68_openF hMe289
      have hv289_3 := hcc289 3 _ rfl
      rw [add_field _ _ 3 (by omega)] at hv289_3
      replace hv289_3 := Option.some.inj (hv289_3.symm.trans hx289_3)
      injection hv289_3 with hva_ hvn_ hvc_
      rw [hva_] at ge289_3
      rw [hvc_] at ul289_3
      have HL289_3 := Aside0.mk (show Kd.V k77 77 _ w.heap.size _ _ ((rd_T68 l0_0 a1).f3) from Kd.V_mk ul289_3 ge289_3)
      clear hva_ hvn_ hvc_ ge289_3 ul289_3 hcc289 hce289
      have HR289_3 := Aside0.mk hi289_3
      have HC289_3 := Aside0.mk hl289_3
      clear hi289_3 hl289_3
      replace p289 := eq_true p289
      replace q289 := eq_true q289
      have ea_ := Option.some.inj (hx282_3.symm.trans hx289_3)
      injection ea_ with ea_ en_ ec_
      subst ea_
      subst ec_
      clear en_
      refine start_ (n := 18) (S := fun w' => w'.cell? ⟨gb278, 0, none⟩ = some (.slice (some ad282) l0_0.length c0_0) ∧ w'.cell? ⟨gb278, 1, none⟩ = some (.slice A0_1 l0_1.length c0_1) ∧ w'.cell? (ad282.add ((a1).toNat * 4)) = some (.string ((rd_T68 l0_0 a1).f0)) ∧ w'.cell? ⟨(ad282.add ((a1).toNat * 4)).block, (ad282.add ((a1).toNat * 4)).off + 1, none⟩ = some (.int .i64 ((rd_T68 l0_0 a1).f1)) ∧ w'.cell? ⟨(ad282.add ((a1).toNat * 4)).block, (ad282.add ((a1).toNat * 4)).off + 2, none⟩ = some (.bool ((rd_T68 l0_0 a1).f2)) ∧ w'.cell? ⟨(ad282.add ((a1).toNat * 4)).block, (ad282.add ((a1).toNat * 4)).off + 3, none⟩ = some (.slice A282_3 ((rd_T68 l0_0 a1).f3).length c282_3) ∧ w'.cell? (ad282.add ((a1).toNat * 4)) = some (.string ((rd_T68 l0_0 a1).f0)) ∧ w'.cell? ⟨(ad282.add ((a1).toNat * 4)).block, (ad282.add ((a1).toNat * 4)).off + 1, none⟩ = some (.int .i64 ((rd_T68 l0_0 a1).f1)) ∧ w'.cell? ⟨(ad282.add ((a1).toNat * 4)).block, (ad282.add ((a1).toNat * 4)).off + 2, none⟩ = some (.bool ((rd_T68 l0_0 a1).f2)) ∧ w'.cell? ⟨(ad282.add ((a1).toNat * 4)).block, (ad282.add ((a1).toNat * 4)).off + 3, none⟩ = some (.slice A282_3 ((rd_T68 l0_0 a1).f3).length c282_3)) (ds := [16]) #[false, false, false, false, false, false, false, false, false, false, false, false, false, false, false, false, false, false] (by kernel_rfl) rfl rfl ⟨(blk_cell BK278.out 0).trans rfl, (blk_cell BK278.out 1).trans rfl, hx282_0, hx282_1, hx282_2, hx282_3, hx289_0, hx289_1, hx289_2, hx289_3⟩ (fun hHeld => ?_); refine with_tabW q4_attrs.tab3 q4_attrs.bits3 (fun HT_ HW_ => ?_)
      generalize w10.drew = w11 at HO0_0 BK278 HB HL282_3 HL289_3 HR282_3 HR289_3 hx282_0 hx282_1 hx282_2 hx282_3 hx289_0 hx289_1 hx289_2 hx289_3 hHeld ⊢
      refine pu 2 9 (bits 18 0x4) HT_ (h := ?_)
      refine pu 4 11 (bits 18 0x14) HT_ (h := ?_)
      refine pu 10 17 (bits 18 0x414) HT_ (h := ?_)
      refine pu 12 19 (bits 18 0x1414) HT_ (h := ?_)
      refine tk 1 8 (bits 18 0x1416) HT_ HW_ hHeld (hy := by rintro w' ⟨s0, s1, s2, s3, s4, s5, s6, s7, s8, s9⟩; go_simp; with_reducible rfl) (h := ?_)
      refine tk 3 10 (bits 18 0x141e) HT_ HW_ hHeld (hy := by rintro w' ⟨s0, s1, s2, s3, s4, s5, s6, s7, s8, s9⟩; go_simp; with_reducible rfl) (h := ?_)
      refine pu 5 12 (bits 18 0x143e) HT_ (h := ?_)
      refine pu 6 13 (bits 18 0x147e) HT_ (h := ?_)
      refine tk 7 14 (bits 18 0x14fe) HT_ HW_ hHeld (hy := by rintro w' ⟨s0, s1, s2, s3, s4, s5, s6, s7, s8, s9⟩; go_simp; with_reducible rfl) (h := ?_)
      refine tk 11 18 (bits 18 0x1cfe) HT_ HW_ hHeld (hy := by rintro w' ⟨s0, s1, s2, s3, s4, s5, s6, s7, s8, s9⟩; go_simp; with_reducible rfl) (h := ?_)
      refine pu 13 20 (bits 18 0x3cfe) HT_ (h := ?_)
      refine pu 14 21 (bits 18 0x7cfe) HT_ (h := ?_)
      refine tk 15 22 (bits 18 0xfcfe) HT_ HW_ hHeld (hy := by rintro w' ⟨s0, s1, s2, s3, s4, s5, s6, s7, s8, s9⟩; go_simp; with_reducible rfl) (h := ?_)
      refine join_ (σ := Value × Value) 3 #[true, true, true, true, true, true, true, true, true, false, true, true, true, true, true, true, false, false] (fun s_ => [(7, s_.1), (15, s_.2)]) (fun s_ w' => (w'.cell? ⟨gb278, 0, none⟩ = some (.slice (some ad282) l0_0.length c0_0) ∧ w'.cell? ⟨gb278, 1, none⟩ = some (.slice A0_1 l0_1.length c0_1) ∧ w'.cell? (ad282.add ((a1).toNat * 4)) = some (.string ((rd_T68 l0_0 a1).f0)) ∧ w'.cell? ⟨(ad282.add ((a1).toNat * 4)).block, (ad282.add ((a1).toNat * 4)).off + 1, none⟩ = some (.int .i64 ((rd_T68 l0_0 a1).f1)) ∧ w'.cell? ⟨(ad282.add ((a1).toNat * 4)).block, (ad282.add ((a1).toNat * 4)).off + 2, none⟩ = some (.bool ((rd_T68 l0_0 a1).f2)) ∧ w'.cell? ⟨(ad282.add ((a1).toNat * 4)).block, (ad282.add ((a1).toNat * 4)).off + 3, none⟩ = some (.slice A282_3 ((rd_T68 l0_0 a1).f3).length c282_3) ∧ w'.cell? (ad282.add ((a1).toNat * 4)) = some (.string ((rd_T68 l0_0 a1).f0)) ∧ w'.cell? ⟨(ad282.add ((a1).toNat * 4)).block, (ad282.add ((a1).toNat * 4)).off + 1, none⟩ = some (.int .i64 ((rd_T68 l0_0 a1).f1)) ∧ w'.cell? ⟨(ad282.add ((a1).toNat * 4)).block, (ad282.add ((a1).toNat * 4)).off + 2, none⟩ = some (.bool ((rd_T68 l0_0 a1).f2)) ∧ w'.cell? ⟨(ad282.add ((a1).toNat * 4)).block, (ad282.add ((a1).toNat * 4)).off + 3, none⟩ = some (.slice A282_3 ((rd_T68 l0_0 a1).f3).length c282_3)) ∧ (Kd.V k77 77 w' w.heap.size (fun k_ => (P0_0_ k_ ∨ w.heap.size ≤ k_) ∧ some k_ ≠ (s_.1 : Value).ownBlock ∧ some k_ ≠ (s_.2 : Value).ownBlock ∧ k_ ≠ gb278) (.slice A282_3 ((rd_T68 l0_0 a1).f3).length c282_3) ((rd_T68 l0_0 a1).f3)) ∧ (Kd.V k77 77 w' w.heap.size (fun k_ => (P0_0_ k_ ∨ w.heap.size ≤ k_) ∧ some k_ ≠ (s_.1 : Value).ownBlock ∧ some k_ ≠ (s_.2 : Value).ownBlock ∧ k_ ≠ gb278) (.slice A282_3 ((rd_T68 l0_0 a1).f3).length c282_3) ((rd_T68 l0_0 a1).f3)) ∧ (Kd.V k68 68 w' w.heap.size (fun k_ => (P0_0_ k_ ∨ w.heap.size ≤ k_) ∧ some k_ ≠ (s_.1 : Value).ownBlock ∧ some k_ ≠ (s_.2 : Value).ownBlock ∧ k_ ≠ gb278) (.slice (some ad282) l0_0.length c0_0) l0_0) ∧ (Kd.N k77 77 w' w.heap.size (fun k_ => (P0_0_ k_ ∨ w.heap.size ≤ k_) ∧ some k_ ≠ (s_.2 : Value).ownBlock ∧ k_ ≠ gb278) s_.1 y279) ∧ (Kd.N k77 77 w' w.heap.size (fun k_ => (P0_0_ k_ ∨ w.heap.size ≤ k_) ∧ some k_ ≠ (s_.1 : Value).ownBlock ∧ k_ ≠ gb278) s_.2 t283) ∧ (w'.heap[gb278]? = some (.cells #[.slice (some ad282) l0_0.length c0_0, .slice A0_1 l0_1.length c0_1] 25 (0, 0))) ∧ (Below w.heap.size w w')) ?_ ?_
      rotate_left
      ·intro hCont
       refine two_ (i := 0) (j := 8) (Ni := some 7) (Nj := some 15) #[true, true, true, true, true, true, true, true, false, false, true, true, true, true, true, true, false, false] #[false, true, true, true, true, true, true, true, true, false, true, true, true, true, true, true, false, false] rfl rfl rfl rfl (two_of HT_.out (by kernel_rfl)) (by decide) (by decide) (fun K hK => ?_) (fun K hK => ?_)
       ·skip
        refine Kd.N_lit_step k77 _ 77 ?hg (N' := 7) ?hd (xs := ([] : List (S77))) (inner := []) (ok := (fun k_ => (P0_0_ k_ ∨ w.heap.size ≤ k_) ∧ k_ ≠ gb278)) (okp := (fun k_ => (P0_0_ k_ ∨ w.heap.size ≤ k_) ∧ k_ ≠ gb278)) ?hr ?hp (fun _ hk => hk) ((show ∀ k_, w11.heap.size ≤ k_ → (fun k_ => (P0_0_ k_ ∨ w.heap.size ≤ k_) ∧ k_ ≠ gb278) k_ from fun k_ hk => ⟨(.inr (Nat.le_trans (below_size (bb HB)) hk)), Kd.freshB (g := gb278) (o := .cells #[.slice (some ad282) l0_0.length c0_0, .slice A0_1 l0_1.length c0_1] 25 (0, 0)) (bk BK278) k_ hk⟩) _ (Nat.le_refl _)) (Below.refl _ _) (Nat.le_refl _) (by simp) ?_; (case hd => rfl); (case hg => rfl); (case hr => first | (go_simp; done) | (go_simp; rfl)); (case hp => exact (Reps.none _ _))
        intro v280 w12 ho13 hb hg_ hnew_
        have HS2_ := (hb.cell (World.block_lt_of_cell? _ _ (hHeld.2.2.1))).trans (hHeld.2.2.1)
        have HS3_ := (hb.cell (World.block_lt_of_cell? _ _ (hHeld.2.2.2.1))).trans (hHeld.2.2.2.1)
        have HS4_ := (hb.cell (World.block_lt_of_cell? _ _ (hHeld.2.2.2.2.1))).trans (hHeld.2.2.2.2.1)
        have HS5_ := (hb.cell (World.block_lt_of_cell? _ _ (hHeld.2.2.2.2.2.1))).trans (hHeld.2.2.2.2.2.1)
        have HS6_ := (hb.cell (World.block_lt_of_cell? _ _ (hHeld.2.2.2.2.2.2.1))).trans (hHeld.2.2.2.2.2.2.1)
        have HS7_ := (hb.cell (World.block_lt_of_cell? _ _ (hHeld.2.2.2.2.2.2.2.1))).trans (hHeld.2.2.2.2.2.2.2.1)
        have HS8_ := (hb.cell (World.block_lt_of_cell? _ _ (hHeld.2.2.2.2.2.2.2.2.1))).trans (hHeld.2.2.2.2.2.2.2.2.1)
        have HS9_ := (hb.cell (World.block_lt_of_cell? _ _ (hHeld.2.2.2.2.2.2.2.2.2))).trans (hHeld.2.2.2.2.2.2.2.2.2)
        clear hg_ hnew_
        (first | rw [← Ny279.out] at ho13 | (simp only [Int.reduceToNat] at ho13; rw [← Ny279.out] at ho13))
        replace HO0_0 := Aside0.mk (Kd.V_elder' (kV HO0_0) (Kd.N_base ho13) hb)
        replace HL282_3 := Aside0.mk (Kd.V_elder' (kV HL282_3) (Kd.N_base ho13) hb)
        replace HL289_3 := Aside0.mk (Kd.V_elder' (kV HL289_3) (Kd.N_base ho13) hb)
        have HO281 := Aside0.mk (Kd.N_lower ho13 (below_size (bb HB)))
        replace BK278 := bkb BK278 hb
        replace HR282_3 := kCb HR282_3 hb
        replace HR289_3 := kCb HR289_3 hb
        replace HB := bstep HB hb
        clear hb ho13
        refine hK.out _ _ ⟨(blk_cell BK278.out 0).trans rfl, (blk_cell BK278.out 1).trans rfl, HS2_, HS3_, HS4_, HS5_, HS6_, HS7_, HS8_, HS9_⟩ (fun hHeld => ?_)
        clear hK K
        refine norm_ (a' := ?_) ?_ ?_
        rotate_left
        ·show Act.put _ (some 7) _ = _
         simp only [Act.put, List.setIfInBounds_toArray, List.set_cons_zero, List.set_cons_succ, i64_w, i32_w]
         rfl
        refine one_ (i := 8) (N := some 15) #[true, true, true, true, true, true, true, true, true, false, true, true, true, true, true, true, false, false] rfl rfl (one_of HT_.out (by kernel_rfl)) (by decide) (fun K hK => ?_)
        refine goes_ Try.func51 (by kernel_rfl) rfl #[.agg #[.slice (some ad282) l0_0.length c0_0, .slice A0_1 l0_1.length c0_1], .int .i64 ((rd_T68 l0_0 a1).f1)] (by rfl) rfl rfl (by (try simp only [List.map_toArray, List.map_cons, List.map_nil]); first | done | rfl | (simp only [List.length_drop, List.length_take]; rfl)) ?_
        with_reducible refine (ih k (by omega) (fun k_ => (((P0_0_ k_ ∨ w.heap.size ≤ k_) ∧ k_ ≠ gb278) ∧ some k_ ≠ (v280 : Value).ownBlock)) _ _ l0_0 _ _ l0_1 ((rd_T68 l0_0 a1).f1) t283 _ ?side1 ?side2 ?side3 A7.out).mono ?_
        (case side1 => exact HO0_0.out)
        (case side2 => exact cb HR0_1 HB)
        (case side3 => exact HC0_1.out)
        rintro e w14 ⟨v284, rfl, ho0, hb⟩
        have HS2_ := (hb.cell (World.block_lt_of_cell? _ _ (hHeld.2.2.1))).trans (hHeld.2.2.1)
        have HS3_ := (hb.cell (World.block_lt_of_cell? _ _ (hHeld.2.2.2.1))).trans (hHeld.2.2.2.1)
        have HS4_ := (hb.cell (World.block_lt_of_cell? _ _ (hHeld.2.2.2.2.1))).trans (hHeld.2.2.2.2.1)
        have HS5_ := (hb.cell (World.block_lt_of_cell? _ _ (hHeld.2.2.2.2.2.1))).trans (hHeld.2.2.2.2.2.1)
        have HS6_ := (hb.cell (World.block_lt_of_cell? _ _ (hHeld.2.2.2.2.2.2.1))).trans (hHeld.2.2.2.2.2.2.1)
        have HS7_ := (hb.cell (World.block_lt_of_cell? _ _ (hHeld.2.2.2.2.2.2.2.1))).trans (hHeld.2.2.2.2.2.2.2.1)
        have HS8_ := (hb.cell (World.block_lt_of_cell? _ _ (hHeld.2.2.2.2.2.2.2.2.1))).trans (hHeld.2.2.2.2.2.2.2.2.1)
        have HS9_ := (hb.cell (World.block_lt_of_cell? _ _ (hHeld.2.2.2.2.2.2.2.2.2))).trans (hHeld.2.2.2.2.2.2.2.2.2)
        refine ⟨_, rfl, ?_⟩
        replace HO0_0 := Aside0.mk (Kd.V_elder' (kV HO0_0) (Kd.N_base ho0) hb)
        replace HL282_3 := Aside0.mk (Kd.V_elder' (kV HL282_3) (Kd.N_base ho0) hb)
        replace HL289_3 := Aside0.mk (Kd.V_elder' (kV HL289_3) (Kd.N_base ho0) hb)
        have HO285 := Aside0.mk (Kd.N_lower (Kd.N_mono (ok' := fun k_ => (P0_0_ k_ ∨ w.heap.size ≤ k_) ∧ some k_ ≠ (v280 : Value).ownBlock ∧ k_ ≠ gb278) ho0 (fun k_ hk_ => ⟨Or.elim hk_ (fun hs_ => hs_.1.1) (fun hn_ => (.inr (Nat.le_trans (below_size (bb HB)) hn_))), Or.elim hk_ (fun hs_ => hs_.2) (fun hn_ => (Kd.fresh' (Kd.N_lt (kN HO281)) k_ hn_)), Or.elim hk_ (fun hs_ => hs_.1.2) (fun hn_ => (Kd.freshB (g := gb278) (o := .cells #[.slice (some ad282) l0_0.length c0_0, .slice A0_1 l0_1.length c0_1] 25 (0, 0)) (bk BK278) k_ hn_))⟩)) (below_size (bb HB)))
        replace HO281 := Aside0.mk (Kd.N_elder' (kN HO281) (Kd.N_base ho0) hb)
        replace BK278 := bkb BK278 hb
        replace HR282_3 := kCb HR282_3 hb
        replace HR289_3 := kCb HR289_3 hb
        replace HB := bstep HB hb
        clear hb ho0
        refine hK.out _ _ ⟨(blk_cell BK278.out 0).trans rfl, (blk_cell BK278.out 1).trans rfl, HS2_, HS3_, HS4_, HS5_, HS6_, HS7_, HS8_, HS9_⟩ (fun hHeld => ?_)
        clear hK K
        refine norm_ (a' := ?_) ?_ ?_
        rotate_left
        ·show Act.put _ (some 15) _ = _
         simp only [Act.put, List.setIfInBounds_toArray, List.set_cons_zero, List.set_cons_succ, i64_w, i32_w]
         rfl
        exact norm_ (by simp only [putAll, Act.put, List.setIfInBounds_toArray, List.set_cons_zero, List.set_cons_succ]) (hCont (v280, v284) _ ⟨hHeld, (by (with_reducible repeat (first | apply Kd.V_alloc | apply Kd.V_drewN | apply Kd.V_drew)); exact Kd.V_mono HL282_3.out (fun _ hk => ⟨hk.1.1.1, ⟨hk.1.2, ⟨hk.2, hk.1.1.2⟩⟩⟩)), (by (with_reducible repeat (first | apply Kd.V_alloc | apply Kd.V_drewN | apply Kd.V_drew)); exact Kd.V_mono HL289_3.out (fun _ hk => ⟨hk.1.1.1, ⟨hk.1.2, ⟨hk.2, hk.1.1.2⟩⟩⟩)), (by (with_reducible repeat (first | apply Kd.V_alloc | apply Kd.V_drewN | apply Kd.V_drew)); exact Kd.V_mono HO0_0.out (fun _ hk => ⟨hk.1.1.1, ⟨hk.1.2, ⟨hk.2, hk.1.1.2⟩⟩⟩)), (by (with_reducible repeat (first | apply Kd.N_alloc | apply Kd.N_drewN | apply Kd.N_drew)); exact Kd.N_mono HO281.out (fun _ hk => ⟨hk.1.1, ⟨hk.2, hk.1.2⟩⟩)), (kN HO285), (bk BK278), (bb HB)⟩)
       ·skip
        refine goes_ Try.func51 (by kernel_rfl) rfl #[.agg #[.slice (some ad282) l0_0.length c0_0, .slice A0_1 l0_1.length c0_1], .int .i64 ((rd_T68 l0_0 a1).f1)] (by rfl) rfl rfl (by (try simp only [List.map_toArray, List.map_cons, List.map_nil]); first | done | rfl | (simp only [List.length_drop, List.length_take]; rfl)) ?_
        with_reducible refine (ih k (by omega) (fun k_ => ((P0_0_ k_ ∨ w.heap.size ≤ k_) ∧ k_ ≠ gb278)) _ _ l0_0 _ _ l0_1 ((rd_T68 l0_0 a1).f1) t283 _ ?side1 ?side2 ?side3 A7.out).mono ?_
        (case side1 => exact HO0_0.out)
        (case side2 => exact cb HR0_1 HB)
        (case side3 => exact HC0_1.out)
        rintro e w12 ⟨v284, rfl, ho0, hb⟩
        have HS2_ := (hb.cell (World.block_lt_of_cell? _ _ (hHeld.2.2.1))).trans (hHeld.2.2.1)
        have HS3_ := (hb.cell (World.block_lt_of_cell? _ _ (hHeld.2.2.2.1))).trans (hHeld.2.2.2.1)
        have HS4_ := (hb.cell (World.block_lt_of_cell? _ _ (hHeld.2.2.2.2.1))).trans (hHeld.2.2.2.2.1)
        have HS5_ := (hb.cell (World.block_lt_of_cell? _ _ (hHeld.2.2.2.2.2.1))).trans (hHeld.2.2.2.2.2.1)
        have HS6_ := (hb.cell (World.block_lt_of_cell? _ _ (hHeld.2.2.2.2.2.2.1))).trans (hHeld.2.2.2.2.2.2.1)
        have HS7_ := (hb.cell (World.block_lt_of_cell? _ _ (hHeld.2.2.2.2.2.2.2.1))).trans (hHeld.2.2.2.2.2.2.2.1)
        have HS8_ := (hb.cell (World.block_lt_of_cell? _ _ (hHeld.2.2.2.2.2.2.2.2.1))).trans (hHeld.2.2.2.2.2.2.2.2.1)
        have HS9_ := (hb.cell (World.block_lt_of_cell? _ _ (hHeld.2.2.2.2.2.2.2.2.2))).trans (hHeld.2.2.2.2.2.2.2.2.2)
        refine ⟨_, rfl, ?_⟩
        replace HO0_0 := Aside0.mk (Kd.V_elder' (kV HO0_0) (Kd.N_base ho0) hb)
        replace HL282_3 := Aside0.mk (Kd.V_elder' (kV HL282_3) (Kd.N_base ho0) hb)
        replace HL289_3 := Aside0.mk (Kd.V_elder' (kV HL289_3) (Kd.N_base ho0) hb)
        have HO285 := Aside0.mk (Kd.N_lower (Kd.N_mono (ok' := fun k_ => (P0_0_ k_ ∨ w.heap.size ≤ k_) ∧ k_ ≠ gb278) ho0 (fun k_ hk_ => ⟨Or.elim hk_ (fun hs_ => hs_.1) (fun hn_ => (.inr (Nat.le_trans (below_size (bb HB)) hn_))), Or.elim hk_ (fun hs_ => hs_.2) (fun hn_ => (Kd.freshB (g := gb278) (o := .cells #[.slice (some ad282) l0_0.length c0_0, .slice A0_1 l0_1.length c0_1] 25 (0, 0)) (bk BK278) k_ hn_))⟩)) (below_size (bb HB)))
        replace BK278 := bkb BK278 hb
        replace HR282_3 := kCb HR282_3 hb
        replace HR289_3 := kCb HR289_3 hb
        replace HB := bstep HB hb
        clear hb ho0
        refine hK.out _ _ ⟨(blk_cell BK278.out 0).trans rfl, (blk_cell BK278.out 1).trans rfl, HS2_, HS3_, HS4_, HS5_, HS6_, HS7_, HS8_, HS9_⟩ (fun hHeld => ?_)
        clear hK K
        refine norm_ (a' := ?_) ?_ ?_
        rotate_left
        ·show Act.put _ (some 15) _ = _
         simp only [Act.put, List.setIfInBounds_toArray, List.set_cons_zero, List.set_cons_succ, i64_w, i32_w]
         rfl
        refine one_ (i := 0) (N := some 7) #[true, true, true, true, true, true, true, true, true, false, true, true, true, true, true, true, false, false] rfl rfl (one_of HT_.out (by kernel_rfl)) (by decide) (fun K hK => ?_)
        refine Kd.N_lit_step k77 _ 77 ?hg (N' := 7) ?hd (xs := ([] : List (S77))) (inner := []) (ok := (fun k_ => (P0_0_ k_ ∨ w.heap.size ≤ k_) ∧ some k_ ≠ (v284 : Value).ownBlock ∧ k_ ≠ gb278)) (okp := (fun k_ => (P0_0_ k_ ∨ w.heap.size ≤ k_) ∧ some k_ ≠ (v284 : Value).ownBlock ∧ k_ ≠ gb278)) ?hr ?hp (fun _ hk => hk) ((show ∀ k_, w12.heap.size ≤ k_ → (fun k_ => (P0_0_ k_ ∨ w.heap.size ≤ k_) ∧ some k_ ≠ (v284 : Value).ownBlock ∧ k_ ≠ gb278) k_ from fun k_ hk => ⟨(.inr (Nat.le_trans (below_size (bb HB)) hk)), Kd.fresh' (Kd.N_lt (kN HO285)) k_ hk, Kd.freshB (g := gb278) (o := .cells #[.slice (some ad282) l0_0.length c0_0, .slice A0_1 l0_1.length c0_1] 25 (0, 0)) (bk BK278) k_ hk⟩) _ (Nat.le_refl _)) (Below.refl _ _) (Nat.le_refl _) (by simp) ?_; (case hd => rfl); (case hg => rfl); (case hr => first | (go_simp; done) | (go_simp; rfl)); (case hp => exact (Reps.none _ _))
        intro v280 w13 ho14 hb hg_ hnew_
        have HS2_ := (hb.cell (World.block_lt_of_cell? _ _ (hHeld.2.2.1))).trans (hHeld.2.2.1)
        have HS3_ := (hb.cell (World.block_lt_of_cell? _ _ (hHeld.2.2.2.1))).trans (hHeld.2.2.2.1)
        have HS4_ := (hb.cell (World.block_lt_of_cell? _ _ (hHeld.2.2.2.2.1))).trans (hHeld.2.2.2.2.1)
        have HS5_ := (hb.cell (World.block_lt_of_cell? _ _ (hHeld.2.2.2.2.2.1))).trans (hHeld.2.2.2.2.2.1)
        have HS6_ := (hb.cell (World.block_lt_of_cell? _ _ (hHeld.2.2.2.2.2.2.1))).trans (hHeld.2.2.2.2.2.2.1)
        have HS7_ := (hb.cell (World.block_lt_of_cell? _ _ (hHeld.2.2.2.2.2.2.2.1))).trans (hHeld.2.2.2.2.2.2.2.1)
        have HS8_ := (hb.cell (World.block_lt_of_cell? _ _ (hHeld.2.2.2.2.2.2.2.2.1))).trans (hHeld.2.2.2.2.2.2.2.2.1)
        have HS9_ := (hb.cell (World.block_lt_of_cell? _ _ (hHeld.2.2.2.2.2.2.2.2.2))).trans (hHeld.2.2.2.2.2.2.2.2.2)
        clear hg_ hnew_
        (first | rw [← Ny279.out] at ho14 | (simp only [Int.reduceToNat] at ho14; rw [← Ny279.out] at ho14))
        replace HO0_0 := Aside0.mk (Kd.V_elder' (kV HO0_0) (Kd.N_base ho14) hb)
        replace HL282_3 := Aside0.mk (Kd.V_elder' (kV HL282_3) (Kd.N_base ho14) hb)
        replace HL289_3 := Aside0.mk (Kd.V_elder' (kV HL289_3) (Kd.N_base ho14) hb)
        replace HO285 := Aside0.mk (Kd.N_elder' (kN HO285) (Kd.N_base ho14) hb)
        have HO281 := Aside0.mk (Kd.N_lower ho14 (below_size (bb HB)))
        replace BK278 := bkb BK278 hb
        replace HR282_3 := kCb HR282_3 hb
        replace HR289_3 := kCb HR289_3 hb
        replace HB := bstep HB hb
        clear hb ho14
        refine hK.out _ _ ⟨(blk_cell BK278.out 0).trans rfl, (blk_cell BK278.out 1).trans rfl, HS2_, HS3_, HS4_, HS5_, HS6_, HS7_, HS8_, HS9_⟩ (fun hHeld => ?_)
        clear hK K
        refine norm_ (a' := ?_) ?_ ?_
        rotate_left
        ·show Act.put _ (some 7) _ = _
         simp only [Act.put, List.setIfInBounds_toArray, List.set_cons_zero, List.set_cons_succ, i64_w, i32_w]
         rfl
        exact norm_ (by simp only [putAll, Act.put, List.setIfInBounds_toArray, List.set_cons_zero, List.set_cons_succ]) (hCont (v280, v284) _ ⟨hHeld, (by (with_reducible repeat (first | apply Kd.V_alloc | apply Kd.V_drewN | apply Kd.V_drew)); exact Kd.V_mono HL282_3.out (fun _ hk => ⟨hk.1.1.1, ⟨hk.2, ⟨hk.1.2, hk.1.1.2⟩⟩⟩)), (by (with_reducible repeat (first | apply Kd.V_alloc | apply Kd.V_drewN | apply Kd.V_drew)); exact Kd.V_mono HL289_3.out (fun _ hk => ⟨hk.1.1.1, ⟨hk.2, ⟨hk.1.2, hk.1.1.2⟩⟩⟩)), (by (with_reducible repeat (first | apply Kd.V_alloc | apply Kd.V_drewN | apply Kd.V_drew)); exact Kd.V_mono HO0_0.out (fun _ hk => ⟨hk.1.1.1, ⟨hk.2, ⟨hk.1.2, hk.1.1.2⟩⟩⟩)), (kN HO281), (by (with_reducible repeat (first | apply Kd.N_alloc | apply Kd.N_drewN | apply Kd.N_drew)); exact Kd.N_mono HO285.out (fun _ hk => ⟨hk.1.1, ⟨hk.2, hk.1.2⟩⟩)), (bk BK278), (bb HB)⟩)
      rintro ⟨v280, v284⟩ w15 ⟨hS_, h0_, h1_, h2_, h3_, h4_, h5_, h6_⟩
      have HL282_3 : Aside0 (Kd.V k77 77 w15 w.heap.size (fun k_ => (P0_0_ k_ ∨ w.heap.size ≤ k_) ∧ some k_ ≠ (v280 : Value).ownBlock ∧ some k_ ≠ (v284 : Value).ownBlock ∧ k_ ≠ gb278) (.slice A282_3 ((rd_T68 l0_0 a1).f3).length c282_3) ((rd_T68 l0_0 a1).f3)) := ⟨h0_⟩
      have HL289_3 : Aside0 (Kd.V k77 77 w15 w.heap.size (fun k_ => (P0_0_ k_ ∨ w.heap.size ≤ k_) ∧ some k_ ≠ (v280 : Value).ownBlock ∧ some k_ ≠ (v284 : Value).ownBlock ∧ k_ ≠ gb278) (.slice A282_3 ((rd_T68 l0_0 a1).f3).length c282_3) ((rd_T68 l0_0 a1).f3)) := ⟨h1_⟩
      replace HO0_0 : Aside0 (Kd.V k68 68 w15 w.heap.size (fun k_ => (P0_0_ k_ ∨ w.heap.size ≤ k_) ∧ some k_ ≠ (v280 : Value).ownBlock ∧ some k_ ≠ (v284 : Value).ownBlock ∧ k_ ≠ gb278) (.slice (some ad282) l0_0.length c0_0) l0_0) := ⟨h2_⟩
      have HO281 : Aside0 (Kd.N k77 77 w15 w.heap.size (fun k_ => (P0_0_ k_ ∨ w.heap.size ≤ k_) ∧ some k_ ≠ (v284 : Value).ownBlock ∧ k_ ≠ gb278) v280 y279) := ⟨h3_⟩
      have HO285 : Aside0 (Kd.N k77 77 w15 w.heap.size (fun k_ => (P0_0_ k_ ∨ w.heap.size ≤ k_) ∧ some k_ ≠ (v280 : Value).ownBlock ∧ k_ ≠ gb278) v284 t283) := ⟨h4_⟩
      replace BK278 : Aside0 (w15.heap[gb278]? = some (.cells #[.slice (some ad282) l0_0.length c0_0, .slice A0_1 l0_1.length c0_1] 25 (0, 0))) := ⟨h5_⟩
      replace HB : Aside0 (Below w.heap.size w w15) := ⟨h6_⟩
      clear h0_ h1_ h2_ h3_ h4_ h5_ h6_
      have hHeld : w15.cell? ⟨gb278, 0, none⟩ = some (.slice (some ad282) l0_0.length c0_0) ∧ w15.cell? ⟨gb278, 1, none⟩ = some (.slice A0_1 l0_1.length c0_1) ∧ w15.cell? (ad282.add ((a1).toNat * 4)) = some (.string ((rd_T68 l0_0 a1).f0)) ∧ w15.cell? ⟨(ad282.add ((a1).toNat * 4)).block, (ad282.add ((a1).toNat * 4)).off + 1, none⟩ = some (.int .i64 ((rd_T68 l0_0 a1).f1)) ∧ w15.cell? ⟨(ad282.add ((a1).toNat * 4)).block, (ad282.add ((a1).toNat * 4)).off + 2, none⟩ = some (.bool ((rd_T68 l0_0 a1).f2)) ∧ w15.cell? ⟨(ad282.add ((a1).toNat * 4)).block, (ad282.add ((a1).toNat * 4)).off + 3, none⟩ = some (.slice A282_3 ((rd_T68 l0_0 a1).f3).length c282_3) ∧ w15.cell? (ad282.add ((a1).toNat * 4)) = some (.string ((rd_T68 l0_0 a1).f0)) ∧ w15.cell? ⟨(ad282.add ((a1).toNat * 4)).block, (ad282.add ((a1).toNat * 4)).off + 1, none⟩ = some (.int .i64 ((rd_T68 l0_0 a1).f1)) ∧ w15.cell? ⟨(ad282.add ((a1).toNat * 4)).block, (ad282.add ((a1).toNat * 4)).off + 2, none⟩ = some (.bool ((rd_T68 l0_0 a1).f2)) ∧ w15.cell? ⟨(ad282.add ((a1).toNat * 4)).block, (ad282.add ((a1).toNat * 4)).off + 3, none⟩ = some (.slice A282_3 ((rd_T68 l0_0 a1).f3).length c282_3) := hS_
      obtain ⟨Ao17, co17, eo17⟩ := Kd.N_slice HO285.out
      (first | subst eo17 | (injection eo17 with f1_ f2_ f3_; have f4_ := f1_.symm; have f5_ := f3_.symm; clear f1_ f2_ f3_; subst f4_; subst f5_))
      refine norm_ (a' := ?_) ?_ ?_
      rotate_left
      ·simp only [putAll, Act.put, List.setIfInBounds_toArray, List.set_cons_zero, List.set_cons_succ]
       rfl
      refine one_ (i := 9) (N := some 16) #[true, true, true, true, true, true, true, true, true, true, true, true, true, true, true, true, false, false] rfl rfl (one_of HT_.out (by kernel_rfl)) (by decide) (fun K hK => ?_)
      refine Kd.N_append_rows_step k77 (w0 := w) w.heap.size (by rfl) (.tmp 7) (.tmp 15) 45 77 (.agg #[(.string ⟨#[]⟩), (.int .i64 0), (.int .i64 0), (.slice none 0 0)]) 56 rfl Try.underlying45 info77 rfl (by decide) (by omega) v280 y279 t283 _ _ _ (fun k_ => (P0_0_ k_ ∨ w.heap.size ≤ k_) ∧ k_ ≠ gb278) (fun k_ => ((fun k_ => (P0_0_ k_ ∨ w.heap.size ≤ k_) ∧ k_ ≠ gb278)) k_ ∧ some k_ ≠ (v280 : Value).ownBlock) rfl rfl ?aO ?aR (fun _ hk => hk) ?aF ?aB ?aS ?aL ?_
      (case aR => exact (by skip; exact Kd.N_F (Kd.N_mono (ok' := (fun k_ => ((fun k_ => (P0_0_ k_ ∨ w.heap.size ≤ k_) ∧ k_ ≠ gb278)) k_ ∧ some k_ ≠ (v280 : Value).ownBlock)) (HO285.out) (fun k_ hk => ⟨⟨hk.1, hk.2.2⟩, hk.2.1⟩))))
      (case aB => exact (bb HB))
      (case aF => exact (fun k_ hk => ⟨(.inr (Nat.le_trans (below_size (bb HB)) hk)), Kd.freshB (g := gb278) (o := .cells #[.slice (some ad282) l0_0.length c0_0, .slice A0_1 l0_1.length c0_1] 25 (0, 0)) (bk BK278) k_ hk⟩))
      (case aO => exact (by (with_reducible repeat (first | apply Kd.N_alloc | apply Kd.N_drewN | apply Kd.N_drew)); exact Kd.N_mono HO281.out (fun _ hk => ⟨hk.1, hk.2.2⟩)))
      (case aS => exact (below_size (bb HB)))
      (case aL => have := LMc8.out; omega)
      intro v287 w16 ho hb hg hat
      rw [← Ny286.out] at ho
      have hne_ : some (ad282.add (a1.toNat * 4)).block ≠ (v280 : Value).ownBlock := by rw [add_block]; exact (V_block HO0_0.out (by have := c6b1_.out; omega) (by decide)).2.1
      have HS2_ := cell_grown hg (hHeld.2.2.1) (by first | exact hne_ | (show some (Addr.add _ _).block ≠ _; exact hne_))
      have HS3_ := cell_grown hg (hHeld.2.2.2.1) (by first | exact hne_ | (show some (Addr.add _ _).block ≠ _; exact hne_))
      have HS4_ := cell_grown hg (hHeld.2.2.2.2.1) (by first | exact hne_ | (show some (Addr.add _ _).block ≠ _; exact hne_))
      have HS5_ := cell_grown hg (hHeld.2.2.2.2.2.1) (by first | exact hne_ | (show some (Addr.add _ _).block ≠ _; exact hne_))
      have HS6_ := cell_grown hg (hHeld.2.2.2.2.2.2.1) (by first | exact hne_ | (show some (Addr.add _ _).block ≠ _; exact hne_))
      have HS7_ := cell_grown hg (hHeld.2.2.2.2.2.2.2.1) (by first | exact hne_ | (show some (Addr.add _ _).block ≠ _; exact hne_))
      have HS8_ := cell_grown hg (hHeld.2.2.2.2.2.2.2.2.1) (by first | exact hne_ | (show some (Addr.add _ _).block ≠ _; exact hne_))
      have HS9_ := cell_grown hg (hHeld.2.2.2.2.2.2.2.2.2) (by first | exact hne_ | (show some (Addr.add _ _).block ≠ _; exact hne_))
      replace HO0_0 := Aside0.mk (Kd.V_afterv (ok := (fun k_ => (P0_0_ k_ ∨ w.heap.size ≤ k_) ∧ some k_ ≠ (.slice Ao17 t283.length co17 : Value).ownBlock ∧ k_ ≠ gb278)) (by (with_reducible repeat (first | apply Kd.V_alloc | apply Kd.V_drewN | apply Kd.V_drew)); exact Kd.V_mono HO0_0.out (fun _ hk => ⟨⟨hk.1, ⟨hk.2.2.1, hk.2.2.2⟩⟩, hk.2.1⟩)) hg hat)
      replace BK278 := Aside0.mk (blk_grown (g := gb278) (o := .cells #[.slice (some ad282) l0_0.length c0_0, .slice A0_1 l0_1.length c0_1] 25 (0, 0)) (bk BK278) hg (Kd.N_ne HO281.out BK278.out (by decide)))
      replace HL282_3 := Aside0.mk (Kd.V_afterv (ok := (fun k_ => (P0_0_ k_ ∨ w.heap.size ≤ k_) ∧ some k_ ≠ (.slice Ao17 t283.length co17 : Value).ownBlock ∧ k_ ≠ gb278)) (by (with_reducible repeat (first | apply Kd.V_alloc | apply Kd.V_drewN | apply Kd.V_drew)); exact Kd.V_mono HL282_3.out (fun _ hk => ⟨⟨hk.1, ⟨hk.2.2.1, hk.2.2.2⟩⟩, hk.2.1⟩)) hg hat)
      replace HL289_3 := Aside0.mk (Kd.V_afterv (ok := (fun k_ => (P0_0_ k_ ∨ w.heap.size ≤ k_) ∧ some k_ ≠ (.slice Ao17 t283.length co17 : Value).ownBlock ∧ k_ ≠ gb278)) (by (with_reducible repeat (first | apply Kd.V_alloc | apply Kd.V_drewN | apply Kd.V_drew)); exact Kd.V_mono HL289_3.out (fun _ hk => ⟨⟨hk.1, ⟨hk.2.2.1, hk.2.2.2⟩⟩, hk.2.1⟩)) hg hat)
      replace HO285 := Aside0.mk (Kd.N_afterv (ok := (fun k_ => (P0_0_ k_ ∨ w.heap.size ≤ k_) ∧ k_ ≠ gb278)) (by (with_reducible repeat (first | apply Kd.N_alloc | apply Kd.N_drewN | apply Kd.N_drew)); exact Kd.N_mono HO285.out (fun _ hk => ⟨⟨hk.1, hk.2.2⟩, hk.2.1⟩)) hg hat)
      replace HB := Aside0.mk (hb)
      have HO288 := Aside0.mk (ho)
      clear HO281 ho hb hg hat
      refine hK.out _ _ ⟨(blk_cell BK278.out 0).trans rfl, (blk_cell BK278.out 1).trans rfl, HS2_, HS3_, HS4_, HS5_, HS6_, HS7_, HS8_, HS9_⟩ (fun hHeld => ?_)
      clear hK K
      refine norm_ (a' := ?_) ?_ ?_
      rotate_left
      ·show Act.put _ (some 16) _ = _
       simp only [Act.put, List.setIfInBounds_toArray, List.set_cons_zero, List.set_cons_succ, i64_w, i32_w]
       rfl
      refine last_ (i := 16) (N := some 23) #[true, true, true, true, true, true, true, true, true, true, true, true, true, true, true, true, true, false] rfl rfl (one_of HT_.out (by kernel_rfl)) (by decide) (fun K hK => ?_)
      refine Kd.N_append_rows_step k77 (w0 := w) w.heap.size (by rfl) (.tmp 16) (.tmp 22) 45 77 (.agg #[(.string ⟨#[]⟩), (.int .i64 0), (.int .i64 0), (.slice none 0 0)]) 56 rfl Try.underlying45 info77 rfl (by decide) (by omega) v287 y286 ((rd_T68 l0_0 a1).f3) _ _ _ (fun k_ => (P0_0_ k_ ∨ w.heap.size ≤ k_) ∧ k_ ≠ gb278) (fun k_ => ((fun k_ => (P0_0_ k_ ∨ w.heap.size ≤ k_) ∧ k_ ≠ gb278)) k_ ∧ some k_ ≠ (v287 : Value).ownBlock) rfl rfl ?aO ?aR (fun _ hk => hk) ?aF ?aB ?aS ?aL ?_
      (case aR => exact (by skip; exact Kd.V_F (Kd.V_mono (ok' := (fun k_ => ((fun k_ => (P0_0_ k_ ∨ w.heap.size ≤ k_) ∧ k_ ≠ gb278)) k_ ∧ some k_ ≠ (v287 : Value).ownBlock)) (HL289_3.out) (fun k_ hk => ⟨⟨hk.1.1, hk.1.2.2⟩, hk.2⟩))))
      (case aB => exact (bb HB))
      (case aF => exact (fun k_ hk => ⟨(.inr (Nat.le_trans (below_size (bb HB)) hk)), Kd.freshB (g := gb278) (o := .cells #[.slice (some ad282) l0_0.length c0_0, .slice A0_1 l0_1.length c0_1] 25 (0, 0)) (bk BK278) k_ hk⟩))
      (case aO => exact (kN HO288))
      (case aS => exact (below_size (bb HB)))
      (case aL => have := LMc9.out; omega)
      intro v291 w18 ho hb hg hat
      rw [← Ny290.out] at ho
      replace HO0_0 := Aside0.mk (Kd.V_afterv (ok := (fun k_ => (P0_0_ k_ ∨ w.heap.size ≤ k_) ∧ some k_ ≠ (.slice Ao17 t283.length co17 : Value).ownBlock ∧ k_ ≠ gb278)) (kV HO0_0) hg hat)
      replace BK278 := Aside0.mk (blk_grown (g := gb278) (o := .cells #[.slice (some ad282) l0_0.length c0_0, .slice A0_1 l0_1.length c0_1] 25 (0, 0)) (bk BK278) hg (Kd.N_ne HO288.out BK278.out (by decide)))
      replace HL282_3 := Aside0.mk (Kd.V_afterv (ok := (fun k_ => (P0_0_ k_ ∨ w.heap.size ≤ k_) ∧ some k_ ≠ (.slice Ao17 t283.length co17 : Value).ownBlock ∧ k_ ≠ gb278)) (kV HL282_3) hg hat)
      replace HL289_3 := Aside0.mk (Kd.V_afterv (ok := (fun k_ => (P0_0_ k_ ∨ w.heap.size ≤ k_) ∧ some k_ ≠ (.slice Ao17 t283.length co17 : Value).ownBlock ∧ k_ ≠ gb278)) (kV HL289_3) hg hat)
      replace HO285 := Aside0.mk (Kd.N_afterv (ok := (fun k_ => (P0_0_ k_ ∨ w.heap.size ≤ k_) ∧ k_ ≠ gb278)) (kN HO285) hg hat)
      replace HB := Aside0.mk (hb)
      have HO292 := Aside0.mk (ho)
      clear HO288 ho hb hg hat
      refine hK.out _ _ ?_
      clear hK K
      refine norm_ (a' := ?_) ?_ ?_
      rotate_left
      ·show Act.put _ (some 23) _ = _
       simp only [Act.put, List.setIfInBounds_toArray, List.set_cons_zero, List.set_cons_succ, i64_w, i32_w]
       rfl
      refine pu 17 4 (bits 18 0x3ffff) HT_ (h := ?_)
      refine done_ (done_of HT_.out (by kernel_rfl)) ?_
      try go_wp2
      go_ret
      exact ⟨_, erf, by (with_reducible repeat (first | apply Kd.N_alloc | apply Kd.N_drewN | apply Kd.N_drew)); exact Kd.N_mono HO292.out (fun _ hk => hk.1), bb HB⟩
     ·rw [if_neg c9] at H
      exact absurd H (by simp)
    ·rw [if_neg c8] at H
     exact absurd H (by simp)
   ·rw [if_neg c6] at H
    exact absurd H (by simp)
  ·rw [if_neg c5] at H
   exact absurd H (by simp)
end Go.Proofs.Ytfpianecohobjaa.P
