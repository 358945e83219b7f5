/- typesOrder_holds, typesBounds_holds, typesInherit_holds: a part of the proof that the law returns true for every input. No condition. -/
import Derived.Test.YtfpianecohobjaaAPx0
import Derived.Test.YtfpianecohobjaaAH0
namespace Go.Proofs.Ytfpianecohobjaa.P
open Go.RowKit Go.Proofs.YtfpianecohobjaaW.PrintWords Go.Proofs.YtfpianecohobjaaW.PrintLast Go.Proofs.YtfpianecohobjaaW.PrintMore
set_option linter.unusedVariables false
set_option linter.unusedSimpArgs false
def types_attrs.f : Nat → List (S68) → List (S71) → Int → Option ((List (S77)))
 | 0, _, _, _ => none
 | k + 1, l0_0, l0_1, a1 => if 0 ≤ a1 then (if a1 < (l0_0.length : Int) then (if ((rd_T68 l0_0 a1).f1) ≥ 0 then ((types_attrs.f k l0_0 l0_1 ((rd_T68 l0_0 a1).f1)).bind fun t103 => (if t103.length + ((rd_T68 l0_0 a1).f3).length < 2513169434916 then (some (t103 ++ ((rd_T68 l0_0 a1).f3))) else (none))) else (if ([] : List (S77)).length + ((rd_T68 l0_0 a1).f3).length < 2513169434916 then (some (([] : List (S77)) ++ ((rd_T68 l0_0 a1).f3))) else (none))) else (none)) else (none)
theorem types_attrs.mono_l : ∀ k, (∀ y0 y1 y2, LeO (types_attrs.f k y0 y1 y2) (types_attrs.f (k + 1) y0 y1 y2))
 | 0 => fun _ _ _ r h => by simp [types_attrs.f] at h
 | k + 1 => by
  have ih0 := types_attrs.mono_l k
  ·intro y0 y1 y2
   unfold types_attrs.f
   repeat' first
   | (with_reducible exact ih0 _ _ _)
   | (with_reducible exact LeO.refl _)
   | (with_reducible exact LeO.none _)
   | (with_reducible refine LeO.ite ?_ ?_)
   | (with_reducible refine LeO.bind ?_ (fun _ => ?_))
   | exact ih0 _ _ _
   | exact LeO.none _
   | refine LeO.ite ?_ ?_
   | refine LeO.bind ?_ (fun _ => ?_)
theorem types_attrs.mono : ∀ a0 a1 a2 k, LeO (types_attrs.f k a0 a1 a2) (types_attrs.f (k + 1) a0 a1 a2) := by
 intro a0 a1 a2 k
 have ih0 := types_attrs.mono_l k
 exact ih0 a0 a1 a2
set_option maxHeartbeats 8000000 in
set_option maxRecDepth 100000 in
theorem types_attrs.calls (k : Nat) : ∀ (P0_0_ : Nat → Prop) (A0_0 : Option Addr) (c0_0 : Nat) (l0_0 : List (S68)) (A0_1 : Option Addr) (c0_1 : Nat) (l0_1 : List (S71)) (a1 : Int) (r : List (S77)) (w : World) (hs0_0 : Kd.V k68 68 w w.heap.size (fun k_ => P0_0_ k_) (.slice A0_0 l0_0.length c0_0) l0_0) (hr0_1 : Kd.C k71 w A0_1 l0_1.length l0_1) (hc0_1 : l0_1.length ≤ c0_1) (h : types_attrs.f k l0_0 l0_1 a1 = some r),
  Calls Try.prog 49 #[.agg #[.slice A0_0 l0_0.length c0_0, .slice A0_1 l0_1.length c0_1], .int .i64 a1] w fun e w' => ∃ v0_ : Value, e = .returned (v0_) ∧ Kd.N k77 77 w' w.heap.size (fun k_ => (P0_0_ k_ ∨ w.heap.size ≤ k_)) v0_ r ∧ Below w.heap.size w w' := by
 induction k using Nat.strongRecOn with
 | _ k ih =>
 intro P0_0_ A0_0 c0_0 l0_0 A0_1 c0_1 l0_1 a1 r w hs0_0 hr0_1 hc0_1 h
 cases k with
 | zero => exact absurd h (by simp [types_attrs.f])
 | succ k =>
 simp only [types_attrs.f] at h
 have hu25 := Try.underlying25
 have HO0_0 := Aside0.mk (show Kd.V k68 68 w w.heap.size (fun k_ => (P0_0_ k_ ∨ w.heap.size ≤ k_)) (.slice A0_0 l0_0.length c0_0) l0_0 from Kd.V_mono hs0_0 (fun k_ hk => .inl hk))
 have HR0_1 := Aside0.mk hr0_1
 have HC0_1 := Aside0.mk hc0_1
 clear hr0_1 hc0_1
 have HB := Aside0.mk (Below.refl w.heap.size w)
 have H : (if 0 ≤ a1 then (if a1 < (l0_0.length : Int) then (if ((rd_T68 l0_0 a1).f1) ≥ 0 then ((types_attrs.f k l0_0 l0_1 ((rd_T68 l0_0 a1).f1)).bind fun t103 => (if t103.length + ((rd_T68 l0_0 a1).f3).length < 2513169434916 then (some (t103 ++ ((rd_T68 l0_0 a1).f3))) else (none))) else (if ([] : List (S77)).length + ((rd_T68 l0_0 a1).f3).length < 2513169434916 then (some (([] : List (S77)) ++ ((rd_T68 l0_0 a1).f3))) else (none))) else (none)) else (none)) = some r := h
 clear h
 by_cases c3 : 0 ≤ a1
 ·rw [if_pos c3] at H
  have c3b0 : decide (0 ≤ a1) = true := decide_eq_true c3
  clear c3
  by_cases c4 : a1 < (l0_0.length : Int)
  ·rw [if_pos c4] at H
   have c4b0 : decide (a1 < (l0_0.length : Int)) = true := decide_eq_true c4
   clear c4
   by_cases c5 : ((rd_T68 l0_0 a1).f1) ≥ 0
   ·rw [if_pos c5] at H
    have c5b0 : decide (0 ≤ ((rd_T68 l0_0 a1).f1)) = true := decide_eq_true c5
    clear c5
    replace H := Option.bind_eq_some_iff.mp H
    obtain ⟨t103, A60, H⟩ := H
    replace H : (if t103.length + ((rd_T68 l0_0 a1).f3).length < 2513169434916 then (some (t103 ++ ((rd_T68 l0_0 a1).f3))) else (none)) = some r := H
    have A6 := Aside0.mk A60
    clear A60
    by_cases c7 : t103.length + ((rd_T68 l0_0 a1).f3).length < 2513169434916
    ·rw [if_pos c7] at H
     have LMc7 := Aside0.mk c7
     clear c7
     obtain ⟨y107, hy107⟩ : ∃ y_ : List (S77), y_ = (t103 ++ ((rd_T68 l0_0 a1).f3)) := ⟨_, rfl⟩
     replace H : (some y107) = some r := by first | (rw [hy107]; with_reducible exact H) | (have H2_ := (Option.bind_some _ _).symm.trans H; rw [hy107]; with_reducible exact H2_) | (have H2_ := (Option.bind_some _ _).symm.trans H; with_reducible exact H2_) | with_reducible exact H | (rw [hy107]; exact H) | exact H
     have Ny107 := Aside0.mk hy107
     clear hy107
     obtain rfl := Option.some.inj H
     go_enter Try.func49, Try.ntmps49
     go_wp2_with (first | ((with_reducible refine gate_dst (N := 2) rfl ?_); refine box_event ?hg (N := 2) ?hd (cs := #[.slice A0_0 l0_0.length c0_0, .slice A0_1 l0_1.length c0_1]) (t := 25) ?hr ?_; (case hd => rfl); (case hg => rfl); (case hr => first | (go_simp; done) | (go_simp; rfl)); intro gb101 hg w8 hbox hb; replace HO0_0 := Aside0.mk (Kd.V_below (Kd.V_elderB (kV HO0_0) gb101 (Nat.le_of_eq hg.symm)) hb); have BK101 := Aside0.mk (hbox); have GW101 := bsz HB hg; have GE101 := bsz HB hg; replace HB := bstep HB hb; clear hb hbox hg; obtain ⟨hcz9_0, hcz9_1, hfz9_0, hfz9_1⟩ := cz2 BK101; have p102 : 0 ≤ a1 := odt; have q102 : a1 < (l0_0.length : Int) := odt; obtain ⟨ad102, A102_3, c102_3, e102, hx102_0, hx102_1, hx102_2, hx102_3, hl102_3, hi102_3⟩ := at_T68 (Kd.V_reads' HO0_0.out).2.2 a1 p102 q102; cases e102; obtain ⟨ce102, hce102, hMe102, hcc102⟩ := Kd.V_get HO0_0.out z68 a1 p102 (by first | exact q102 | exact odt | (have e_ := (Kd.V_reads' HO0_0.out).1; omega)); obtain ⟨ua102_3, uc102_3, rfl, ul102_3, ge102_3⟩ := k68_openF hMe102; have hv102_3 := hcc102 3 _ rfl; rw [add_field _ _ 3 (by omega)] at hv102_3; replace hv102_3 := Option.some.inj (hv102_3.symm.trans hx102_3); injection hv102_3 with hva_ hvn_ hvc_; rw [hva_] at ge102_3; rw [hvc_] at ul102_3; have HL102_3 := Aside0.mk (show Kd.V k77 77 _ w.heap.size _ _ ((rd_T68 l0_0 a1).f3) from Kd.V_mk ul102_3 ge102_3); clear hva_ hvn_ hvc_ ge102_3 ul102_3; clear hcc102 hce102; have HR102_3 := Aside0.mk hi102_3; have HC102_3 := Aside0.mk hl102_3; clear hi102_3 hl102_3; replace p102 := eq_true p102; replace q102 := eq_true q102) | ((with_reducible refine gate_callee (f := 49) rfl ?_); refine gl 17 Try.func49 #[.agg #[.slice (some ad102) l0_0.length c0_0, .slice A0_1 l0_1.length c0_1], .int .i64 ((rd_T68 l0_0 a1).f1)] (h := ?_); (with_reducible refine (ih k (by omega) (fun k_ => ((P0_0_ k_ ∨ w.heap.size ≤ k_) ∧ k_ ≠ gb101)) _ _ l0_0 _ _ l0_1 ((rd_T68 l0_0 a1).f1) t103 _ ?side1 ?side2 ?side3 A6.out).mono ?_); (case side1 => exact HO0_0.out); (case side2 => exact cb HR0_1 HB); (case side3 => exact HC0_1.out); rintro e w10 ⟨v104, rfl, ho0, hb⟩; refine ⟨_, rfl, ?_⟩; replace HO0_0 := Aside0.mk (Kd.V_elder' (kV HO0_0) (Kd.N_base ho0) hb); replace HL102_3 := Aside0.mk (Kd.V_elder' (kV HL102_3) (Kd.N_base ho0) hb); have HO105 := Aside0.mk (Kd.N_lower (Kd.N_mono (ok' := fun k_ => (P0_0_ k_ ∨ w.heap.size ≤ k_) ∧ k_ ≠ gb101) ho0 (fun k_ hk_ => ⟨Or.elim hk_ (fun hs_ => hs_.1) (fun hn_ => (.inr (Nat.le_trans (below_size (bb HB)) hn_))), Or.elim hk_ (fun hs_ => hs_.2) (fun hn_ => (Kd.freshB (g := gb101) (o := .cells #[.slice (some ad102) l0_0.length c0_0, .slice A0_1 l0_1.length c0_1] 25 (0, 0)) (bk BK101) k_ hn_))⟩)) (below_size (bb HB))); replace BK101 := bkb BK101 hb; replace HR102_3 := kCb HR102_3 hb; replace HB := bstep HB hb; (try clear hb); (try clear hb2); (try clear hk); (try clear hi); (try clear ho0); obtain ⟨hcz11_0, hcz11_1, hfz11_0, hfz11_1⟩ := cz2 BK101; have p106 : 0 ≤ a1 := odt; have q106 : a1 < (l0_0.length : Int) := odt; obtain ⟨ad106, A106_3, c106_3, e106, hx106_0, hx106_1, hx106_2, hx106_3, hl106_3, hi106_3⟩ := at_T68 (Kd.V_reads' HO0_0.out).2.2 a1 p106 q106; obtain rfl : ad102 = ad106 := (by injection e106); obtain ⟨ce106, hce106, hMe106, hcc106⟩ := Kd.V_get HO0_0.out z68 a1 p106 (by first | exact q106 | exact odt | (have e_ := (Kd.V_reads' HO0_0.out).1; omega)); obtain ⟨ua106_3, uc106_3, rfl, ul106_3, ge106_3⟩ := k68_openF hMe106; have hv106_3 := hcc106 3 _ rfl; rw [add_field _ _ 3 (by omega)] at hv106_3; replace hv106_3 := Option.some.inj (hv106_3.symm.trans hx106_3); injection hv106_3 with hva_ hvn_ hvc_; rw [hva_] at ge106_3; rw [hvc_] at ul106_3; have HL106_3 := Aside0.mk (show Kd.V k77 77 _ w.heap.size _ _ ((rd_T68 l0_0 a1).f3) from Kd.V_mk ul106_3 ge106_3); clear hva_ hvn_ hvc_ ge106_3 ul106_3; clear hcc106 hce106; have HR106_3 := Aside0.mk hi106_3; have HC106_3 := Aside0.mk hl106_3; clear hi106_3 hl106_3; replace p106 := eq_true p106; replace q106 := eq_true q106) | ((with_reducible refine gate_builtin (b := .append) (xs := #[.tmp 18, .tmp 24]) rfl ?_); at_builtin; refine Kd.N_append_rows k77 (w0 := w) w.heap.size rfl (.tmp 18) (.tmp 24) 45 77 (.agg #[(.string ⟨#[]⟩), (.int .i64 0), (.int .i64 0), (.slice none 0 0)]) 56 rfl Try.underlying45 info77 rfl (by decide) (by omega) v104 t103 ((rd_T68 l0_0 a1).f3) _ _ _ (fun k_ => (P0_0_ k_ ∨ w.heap.size ≤ k_) ∧ k_ ≠ gb101) (fun k_ => ((fun k_ => (P0_0_ k_ ∨ w.heap.size ≤ k_) ∧ k_ ≠ gb101)) k_ ∧ some k_ ≠ (v104 : Value).ownBlock) rfl rfl ?aO ?aR (fun _ hk => hk) ?aF ?aB ?aS ?aL ?_; (case aR => exact (by skip; exact Kd.V_F (Kd.V_mono (ok' := (fun k_ => ((fun k_ => (P0_0_ k_ ∨ w.heap.size ≤ k_) ∧ k_ ≠ gb101)) k_ ∧ some k_ ≠ (v104 : Value).ownBlock)) (HL106_3.out) (fun k_ hk => ⟨⟨hk.1.1, hk.1.2⟩, hk.2⟩)))); (case aB => exact (bb HB)); (case aF => exact (fun k_ hk => ⟨(.inr (Nat.le_trans (below_size (bb HB)) hk)), Kd.freshB (g := gb101) (o := .cells #[.slice (some ad102) l0_0.length c0_0, .slice A0_1 l0_1.length c0_1] 25 (0, 0)) (bk BK101) k_ hk⟩)); (case aO => exact (kN HO105)); (case aS => exact (below_size (bb HB))); (case aL => have := LMc7.out; omega); intro v108 w12 ho hb hg hat; rw [← Ny107.out] at ho; replace HO0_0 := Aside0.mk (Kd.V_afterv (ok := (fun k_ => (P0_0_ k_ ∨ w.heap.size ≤ k_) ∧ k_ ≠ gb101)) (kV HO0_0) hg hat); replace BK101 := Aside0.mk (blk_grown (g := gb101) (o := .cells #[.slice (some ad102) l0_0.length c0_0, .slice A0_1 l0_1.length c0_1] 25 (0, 0)) (bk BK101) hg (Kd.N_ne HO105.out BK101.out (by decide))); replace HL102_3 := Aside0.mk (Kd.V_afterv (ok := (fun k_ => (P0_0_ k_ ∨ w.heap.size ≤ k_) ∧ k_ ≠ gb101)) (kV HL102_3) hg hat); replace HL106_3 := Aside0.mk (Kd.V_afterv (ok := (fun k_ => (P0_0_ k_ ∨ w.heap.size ≤ k_) ∧ k_ ≠ gb101)) (kV HL106_3) hg hat); replace HB := Aside0.mk (hb); have HO109 := Aside0.mk (ho); clear HO105 ho hb hg hat))
     go_ret
     exact ⟨_, erf, by (with_reducible repeat (first | apply Kd.N_alloc | apply Kd.N_drewN | apply Kd.N_drew)); exact Kd.N_mono HO109.out (fun _ hk => hk.1), bb HB⟩
    ·rw [if_neg c7] at H
     exact absurd H (by simp)
   ·rw [if_neg c5] at H
    have c5b0 : decide (0 ≤ ((rd_T68 l0_0 a1).f1)) = false := decide_eq_false c5
    clear c5
    by_cases c13 : ([] : List (S77)).length + ((rd_T68 l0_0 a1).f3).length < 2513169434916
    ·rw [if_pos c13] at H
     have LMc13 := Aside0.mk c13
     clear c13
     obtain ⟨y111, hy111⟩ : ∃ y_ : List (S77), y_ = (([] : List (S77)) ++ ((rd_T68 l0_0 a1).f3)) := ⟨_, rfl⟩
     replace H : (some y111) = some r := by first | (rw [hy111]; with_reducible exact H) | (have H2_ := (Option.bind_some _ _).symm.trans H; rw [hy111]; with_reducible exact H2_) | (have H2_ := (Option.bind_some _ _).symm.trans H; with_reducible exact H2_) | with_reducible exact H | (rw [hy111]; exact H) | exact H
     have Ny111 := Aside0.mk hy111
     clear hy111
     obtain rfl := Option.some.inj H
     go_enter Try.func49, Try.ntmps49
     go_wp2_with (first | ((with_reducible refine gate_dst (N := 2) rfl ?_); refine box_event ?hg (N := 2) ?hd (cs := #[.slice A0_0 l0_0.length c0_0, .slice A0_1 l0_1.length c0_1]) (t := 25) ?hr ?_; (case hd => rfl); (case hg => rfl); (case hr => first | (go_simp; done) | (go_simp; rfl)); intro gb101 hg w14 hbox hb; replace HO0_0 := Aside0.mk (Kd.V_below (Kd.V_elderB (kV HO0_0) gb101 (Nat.le_of_eq hg.symm)) hb); have BK101 := Aside0.mk (hbox); have GW101 := bsz HB hg; have GE101 := bsz HB hg; replace HB := bstep HB hb; clear hb hbox hg; obtain ⟨hcz15_0, hcz15_1, hfz15_0, hfz15_1⟩ := cz2 BK101; have p102 : 0 ≤ a1 := odt; have q102 : a1 < (l0_0.length : Int) := odt; obtain ⟨ad102, A102_3, c102_3, e102, hx102_0, hx102_1, hx102_2, hx102_3, hl102_3, hi102_3⟩ := at_T68 (Kd.V_reads' HO0_0.out).2.2 a1 p102 q102; cases e102; obtain ⟨ce102, hce102, hMe102, hcc102⟩ := Kd.V_get HO0_0.out z68 a1 p102 (by first | exact q102 | exact odt | (have e_ := (Kd.V_reads' HO0_0.out).1; omega)); obtain ⟨ua102_3, uc102_3, rfl, ul102_3, ge102_3⟩ := k68_openF hMe102; have hv102_3 := hcc102 3 _ rfl; rw [add_field _ _ 3 (by omega)] at hv102_3; replace hv102_3 := Option.some.inj (hv102_3.symm.trans hx102_3); injection hv102_3 with hva_ hvn_ hvc_; rw [hva_] at ge102_3; rw [hvc_] at ul102_3; have HL102_3 := Aside0.mk (show Kd.V k77 77 _ w.heap.size _ _ ((rd_T68 l0_0 a1).f3) from Kd.V_mk ul102_3 ge102_3); clear hva_ hvn_ hvc_ ge102_3 ul102_3; clear hcc102 hce102; have HR102_3 := Aside0.mk hi102_3; have HC102_3 := Aside0.mk hl102_3; clear hi102_3 hl102_3; replace p102 := eq_true p102; replace q102 := eq_true q102; have p110 : 0 ≤ a1 := odt; have q110 : a1 < (l0_0.length : Int) := odt; obtain ⟨ad110, A110_3, c110_3, e110, hx110_0, hx110_1, hx110_2, hx110_3, hl110_3, hi110_3⟩ := at_T68 (Kd.V_reads' HO0_0.out).2.2 a1 p110 q110; obtain rfl : ad102 = ad110 := (by injection e110); obtain ⟨ce110, hce110, hMe110, hcc110⟩ := Kd.V_get HO0_0.out z68 a1 p110 (by first | exact q110 | exact odt | (have e_ := (Kd.V_reads' HO0_0.out).1; omega)); obtain ⟨ua110_3, uc110_3, rfl, ul110_3, ge110_3⟩ := k68_openF hMe110; have hv110_3 := hcc110 3 _ rfl; rw [add_field _ _ 3 (by omega)] at hv110_3; replace hv110_3 := Option.some.inj (hv110_3.symm.trans hx110_3); injection hv110_3 with hva_ hvn_ hvc_; rw [hva_] at ge110_3; rw [hvc_] at ul110_3; have HL110_3 := Aside0.mk (show Kd.V k77 77 _ w.heap.size _ _ ((rd_T68 l0_0 a1).f3) from Kd.V_mk ul110_3 ge110_3); clear hva_ hvn_ hvc_ ge110_3 ul110_3; clear hcc110 hce110; have HR110_3 := Aside0.mk hi110_3; have HC110_3 := Aside0.mk hl110_3; clear hi110_3 hl110_3; replace p110 := eq_true p110; replace q110 := eq_true q110; have ea_ := Option.some.inj (hx102_3.symm.trans hx110_3); injection ea_ with ea_ en_ ec_; subst ea_; subst ec_; clear en_) | ((with_reducible refine gate_builtin (b := .append) (xs := #[.tmp 18, .tmp 24]) rfl ?_); at_builtin; refine Kd.N_append_rows k77 (w0 := w) w.heap.size rfl (.tmp 18) (.tmp 24) 45 77 (.agg #[(.string ⟨#[]⟩), (.int .i64 0), (.int .i64 0), (.slice none 0 0)]) 56 rfl Try.underlying45 info77 rfl (by decide) (by omega) (.slice none 0 0) ([] : List (S77)) ((rd_T68 l0_0 a1).f3) _ _ _ (fun k_ => (P0_0_ k_ ∨ w.heap.size ≤ k_) ∧ k_ ≠ gb101) (fun k_ => ((fun k_ => (P0_0_ k_ ∨ w.heap.size ≤ k_) ∧ k_ ≠ gb101)) k_ ∧ some k_ ≠ (.slice none 0 0 : Value).ownBlock) rfl rfl ?aO ?aR (fun _ hk => hk) ?aF ?aB ?aS ?aL ?_; (case aR => exact (by skip; exact Kd.V_F (Kd.V_mono (ok' := (fun k_ => ((fun k_ => (P0_0_ k_ ∨ w.heap.size ≤ k_) ∧ k_ ≠ gb101)) k_ ∧ some k_ ≠ (.slice none 0 0 : Value).ownBlock)) (HL110_3.out) (fun k_ hk => ⟨⟨hk.1, hk.2⟩, (by simp [Value.ownBlock])⟩)))); (case aB => exact (bb HB)); (case aF => exact (fun k_ hk => ⟨(.inr (Nat.le_trans (below_size (bb HB)) hk)), Kd.freshB (g := gb101) (o := .cells #[.slice (some ad102) l0_0.length c0_0, .slice A0_1 l0_1.length c0_1] 25 (0, 0)) (bk BK101) k_ hk⟩)); (case aO => exact ((Kd.N_nil _ _ _ _ (fun k_ => (P0_0_ k_ ∨ w.heap.size ≤ k_) ∧ k_ ≠ gb101)))); (case aS => exact (below_size (bb HB))); (case aL => have := LMc13.out; omega); intro v112 w16 ho hb hg hat; rw [← Ny111.out] at ho; replace HO0_0 := Aside0.mk (Kd.V_afterv (Kd.V_apart_nil (kV HO0_0)) hg hat); replace BK101 := Aside0.mk (blk_grown (g := gb101) (o := .cells #[.slice (some ad102) l0_0.length c0_0, .slice A0_1 l0_1.length c0_1] 25 (0, 0)) (bk BK101) hg (by simp [Value.ownBlock])); replace HL102_3 := Aside0.mk (Kd.V_afterv (Kd.V_apart_nil (kV HL102_3)) hg hat); replace HL110_3 := Aside0.mk (Kd.V_afterv (Kd.V_apart_nil (kV HL110_3)) hg hat); replace HB := Aside0.mk (hb); have HO113 := Aside0.mk (ho); clear ho hb hg hat))
     go_ret
     exact ⟨_, erf, by (with_reducible repeat (first | apply Kd.N_alloc | apply Kd.N_drewN | apply Kd.N_drew)); exact Kd.N_mono HO113.out (fun _ hk => hk.1), bb HB⟩
    ·rw [if_neg c13] at H
     exact absurd H (by simp)
  ·rw [if_neg c4] at H
   exact absurd H (by simp)
 ·rw [if_neg c3] at H
  exact absurd H (by simp)
def token_letter.f (a0 : Int) : Option (Bool) := if a0 ≥ 97 then (if a0 ≤ 122 then (some true) else (if a0 ≥ 65 then (some (decide (a0 ≤ 90))) else (some false))) else (if a0 ≥ 65 then (some (decide (a0 ≤ 90))) else (some false))
set_option maxHeartbeats 8000000 in
set_option maxRecDepth 100000 in
theorem token_letter.calls (a0 : Int) (r : Bool) (w : World) (h : token_letter.f a0 = some r) :
  Calls Try.prog 111 #[.int .u8 a0] w fun e w' => e = .returned (.bool r) ∧ Drawn0 w w' := by
 have H : (if a0 ≥ 97 then (if a0 ≤ 122 then (some true) else (if a0 ≥ 65 then (some (decide (a0 ≤ 90))) else (some false))) else (if a0 ≥ 65 then (some (decide (a0 ≤ 90))) else (some false))) = some r := h
 clear h
 by_cases c2 : a0 ≥ 97
 ·rw [if_pos c2] at H
  have c2b0 : decide (97 ≤ a0) = true := decide_eq_true c2
  clear c2
  by_cases c3 : a0 ≤ 122
  ·rw [if_pos c3] at H
   have c3b0 : decide (a0 ≤ 122) = true := decide_eq_true c3
   clear c3
   obtain rfl := Option.some.inj H
   go_enter Try.func111, Try.ntmps111
   go_wp2
   go_ret
   exact ⟨by first | rfl | (simp; done) | (simp [*]; done), drw⟩
  ·rw [if_neg c3] at H
   have c3b0 : decide (a0 ≤ 122) = false := decide_eq_false c3
   clear c3
   by_cases c4 : a0 ≥ 65
   ·rw [if_pos c4] at H
    have c4b0 : decide (65 ≤ a0) = true := decide_eq_true c4
    clear c4
    obtain rfl := Option.some.inj H
    go_enter Try.func111, Try.ntmps111
    go_wp2
    go_ret
    exact ⟨by first | rfl | (simp; done) | (simp [*]; done), drw⟩
   ·rw [if_neg c4] at H
    have c4b0 : decide (65 ≤ a0) = false := decide_eq_false c4
    clear c4
    obtain rfl := Option.some.inj H
    go_enter Try.func111, Try.ntmps111
    go_wp2
    go_ret
    exact ⟨by first | rfl | (simp; done) | (simp [*]; done), drw⟩
 ·rw [if_neg c2] at H
  have c2b0 : decide (97 ≤ a0) = false := decide_eq_false c2
  clear c2
  by_cases c5 : a0 ≥ 65
  ·rw [if_pos c5] at H
   have c5b0 : decide (65 ≤ a0) = true := decide_eq_true c5
   clear c5
   obtain rfl := Option.some.inj H
   go_enter Try.func111, Try.ntmps111
   go_wp2
   go_ret
   exact ⟨by first | rfl | (simp; done) | (simp [*]; done), drw⟩
  ·rw [if_neg c5] at H
   have c5b0 : decide (65 ≤ a0) = false := decide_eq_false c5
   clear c5
   obtain rfl := Option.some.inj H
   go_enter Try.func111, Try.ntmps111
   go_wp2
   go_ret
   exact ⟨by first | rfl | (simp; done) | (simp [*]; done), drw⟩
def token_digit.f (a0 : Int) : Option (Bool) := if a0 ≥ 48 then (some (decide (a0 ≤ 57))) else (some false)
set_option maxHeartbeats 8000000 in
set_option maxRecDepth 100000 in
theorem token_digit.calls (a0 : Int) (r : Bool) (w : World) (h : token_digit.f a0 = some r) :
  Calls Try.prog 114 #[.int .u8 a0] w fun e w' => e = .returned (.bool r) ∧ Drawn0 w w' := by
 have H : (if a0 ≥ 48 then (some (decide (a0 ≤ 57))) else (some false)) = some r := h
 clear h
 by_cases c2 : a0 ≥ 48
 ·rw [if_pos c2] at H
  have c2b0 : decide (48 ≤ a0) = true := decide_eq_true c2
  clear c2
  obtain rfl := Option.some.inj H
  go_enter Try.func114, Try.ntmps114
  go_wp2
  go_ret
  exact ⟨by first | rfl | (simp; done) | (simp [*]; done), drw⟩
 ·rw [if_neg c2] at H
  have c2b0 : decide (48 ≤ a0) = false := decide_eq_false c2
  clear c2
  obtain rfl := Option.some.inj H
  go_enter Try.func114, Try.ntmps114
  go_wp2
  go_ret
  exact ⟨by first | rfl | (simp; done) | (simp [*]; done), drw⟩
def token_quoted.j0 : Nat → Int → Bool → Option (Int × Int)
 | 0, _, _ => none
 | k + 1, x4, x19 => if x19 = true then (some (0, 2)) else (if x4 > 60 then (some (0, 3)) else (some (wrap64 (x4 + 2), 0)))
def token_quoted.f (k : Nat) (a0 : ByteArray) : Option (Int × Int) := if 1 ≤ (a0.size : Int) then ((token_run_quoted.f (a0.extract 1 a0.size)).bind fun t116 => (if (wrap64 (1 + t116)) = (a0.size : Int) then (token_quoted.j0 k t116 true) else (if 0 ≤ (wrap64 (1 + t116)) then (if (wrap64 (1 + t116)) < (a0.size : Int) then (token_quoted.j0 k t116 ((bt a0 (wrap64 (1 + t116))) != 34)) else (none)) else (none)))) else (none)
theorem token_quoted.mono_l : ∀ k, (∀ y0 y1, LeO (token_quoted.j0 k y0 y1) (token_quoted.j0 (k + 1) y0 y1))
 | 0 => fun _ _ r h => by simp [token_quoted.j0] at h
 | k + 1 => by
  have ih0 := token_quoted.mono_l k
  ·intro y0 y1
   unfold token_quoted.j0
   repeat' first
   | (with_reducible exact ih0 _ _)
   | (with_reducible exact LeO.refl _)
   | (with_reducible exact LeO.none _)
   | (with_reducible refine LeO.ite ?_ ?_)
   | (with_reducible refine LeO.bind ?_ (fun _ => ?_))
   | exact ih0 _ _
   | exact LeO.none _
   | refine LeO.ite ?_ ?_
   | refine LeO.bind ?_ (fun _ => ?_)
theorem token_quoted.mono : ∀ a0 k, LeO (token_quoted.f k a0) (token_quoted.f (k + 1) a0) := by
 intro a0 k
 have ih0 := token_quoted.mono_l k
 unfold token_quoted.f
 repeat' first
   | (with_reducible exact ih0 _ _)
   | (with_reducible exact LeO.refl _)
   | (with_reducible exact LeO.none _)
   | (with_reducible refine LeO.ite ?_ ?_)
   | (with_reducible refine LeO.bind ?_ (fun _ => ?_))
   | exact ih0 _ _
   | exact LeO.none _
   | refine LeO.ite ?_ ?_
   | refine LeO.bind ?_ (fun _ => ?_)
set_option maxHeartbeats 8000000 in
set_option maxRecDepth 100000 in
theorem token_quoted.calls (k : Nat) (a0 : ByteArray) (r1 : Int) (r2 : Int) (w : World) (h : token_quoted.f k a0 = some (r1, r2)) :
  Calls Try.prog 115 #[.string a0] w fun e w' => e = .returned (.tuple #[.int .i64 r1, .int .i64 r2]) ∧ Drawn0 w w' := by
 have H : (if 1 ≤ (a0.size : Int) then ((token_run_quoted.f (a0.extract 1 a0.size)).bind fun t116 => (if (wrap64 (1 + t116)) = (a0.size : Int) then (token_quoted.j0 k t116 true) else (if 0 ≤ (wrap64 (1 + t116)) then (if (wrap64 (1 + t116)) < (a0.size : Int) then (token_quoted.j0 k t116 ((bt a0 (wrap64 (1 + t116))) != 34)) else (none)) else (none)))) else (none)) = some (r1, r2) := h
 clear h
 by_cases c2 : 1 ≤ (a0.size : Int)
 ·rw [if_pos c2] at H
  have c2b0 := eq_true c2
  have c2b1 : decide (1 ≤ (a0.size : Int)) = true := decide_eq_true c2
  clear c2
  replace H := Option.bind_eq_some_iff.mp H
  obtain ⟨t116, A30, H⟩ := H
  replace H : (if (wrap64 (1 + t116)) = (a0.size : Int) then (token_quoted.j0 k t116 true) else (if 0 ≤ (wrap64 (1 + t116)) then (if (wrap64 (1 + t116)) < (a0.size : Int) then (token_quoted.j0 k t116 ((bt a0 (wrap64 (1 + t116))) != 34)) else (none)) else (none))) = some (r1, r2) := H
  have A3 := Aside0.mk A30
  clear A30
  have HC4 := Aside0.mk H
  clear H
  go_enter Try.func115, Try.ntmps115
  go_upto_region 2 with (first | ((with_reducible refine gate_callee (f := 112) rfl ?_); refine gl 7 Try.func112 #[.string (a0.extract 1 a0.size), .func (.func 125) #[] #[]] (h := ?_); (with_reducible refine (token_run_quoted.calls (a0.extract 1 a0.size)  t116 _ A3.out).mono ?_); rintro e w' ⟨rfl, ⟨nd, rfl⟩⟩; refine ⟨_, rfl, ?_⟩))
  (try simp only [Act.put, List.setIfInBounds_toArray, List.set_cons_zero, List.set_cons_succ])
  go_cut [19] (fun v19 wc => ∃ (kq : Nat) (x19_3 : Bool), v19 = .bool x19_3 ∧ Aside0 (token_quoted.j0 kq t116 x19_3 = some (r1, r2)) ∧ Aside0 (kq ≤ k) ∧ Drawn0 w wc)
  case first =>
   have H := HC4.out
   clear HC4
   by_cases c5 : (wrap64 (1 + t116)) = (a0.size : Int)
   ·rw [if_pos c5] at H
    have c5b0 : ((wrap64 (1 + t116)) == (a0.size : Int)) = true := beq_iff_eq.mpr c5
    have c5b1 : ((wrap64 (1 + t116)) != (a0.size : Int)) = false := bne_eq_false_iff_eq.mpr c5
    clear c5
    (first | rw [c5b0] | (simp only [i64_w, i32_w]; rw [c5b0]) | skip)
    have H' := Aside0.mk H
    clear H
    go_wp2
    go_meet
    case rel => exact ⟨_, (true), eqs, H', ⟨by first | omega | exact Nat.le_refl _⟩, drw⟩
   ·rw [if_neg c5] at H
    have c5b0 : ((wrap64 (1 + t116)) == (a0.size : Int)) = false := beq_eq_false_iff_ne.mpr c5
    have c5b1 : ((wrap64 (1 + t116)) != (a0.size : Int)) = true := bne_iff_ne.mpr c5
    (first | rw [c5b0] | (simp only [i64_w, i32_w]; rw [c5b0]) | skip)
    obtain ⟨ji6, hji6⟩ : ∃ j_ : Int, (wrap64 (1 + t116)) = j_ := ⟨_, rfl⟩
    replace H : (if 0 ≤ (ji6) then (if (ji6) < (a0.size : Int) then (token_quoted.j0 k t116 ((bt a0 (ji6)) != 34)) else (none)) else (none)) = some (r1, r2) := by first | (rw [hji6] at H; exact H) | (simp only [hji6] at H ⊢; exact H)
    (try rw [hji6] at c5b0)
    (try rw [hji6] at c5b1)
    have hji6w : (IntKind.i64.wrap (1 + t116)) = ji6 := (i64_w _).trans hji6
    by_cases c7 : 0 ≤ (ji6)
    ·rw [if_pos c7] at H
     have c7b0 : decide (0 ≤ (ji6)) = true := decide_eq_true c7
     clear c7
     by_cases c8 : (ji6) < (a0.size : Int)
     ·rw [if_pos c8] at H
      have c8b0 : decide ((ji6) < (a0.size : Int)) = true := decide_eq_true c8
      clear c8
      have H' := Aside0.mk H
      clear H
      have p9 : 0 ≤ ((ji6) : Int) := odt
      have q9 : (ji6) < (a0.size : Int) := odt
      have hx9 := bt_at a0 (ji6)
      replace p9 := eq_true p9
      replace q9 := eq_true q9
      go_wp2
      go_meet
      case rel => exact ⟨_, (((bt a0 (ji6)) != 34)), (by first | rfl | (simp; done) | (simp only [← hji6] <;> (first | rfl | simp)) | (simp [*]; done)), H', ⟨by first | omega | exact Nat.le_refl _⟩, drw⟩
     ·rw [if_neg c8] at H
      exact absurd H (by simp)
    ·rw [if_neg c7] at H
     exact absurd H (by simp)
  case rest =>
   clear HC4
   try clear c1
   try clear c2
   try clear c2b0
   try clear c2b1
   try clear p2
   try clear c5
   try clear c5b0
   try clear c5b1
   try clear p6
   try clear c7
   try clear c7b0
   try clear c8
   try clear c8b0
   try clear p9
   try clear q9
   try clear hx9
   try clear p9
   try clear q9
   obtain ⟨kq, x19_3, rfl, HA, HJ3, ⟨mc3, rfl⟩⟩ := hcut
   cases kq with
   | zero => exact absurd HA.out (by simp [token_quoted.j0])
   | succ kj3 =>
    have H := HA.out
    clear HA
    simp only [token_quoted.j0] at H
    by_cases c10 : x19_3 = true
    ·subst c10
     replace H := ift H
     simp only [Option.some.injEq, Prod.mk.injEq] at H
     obtain ⟨rfl, rfl⟩ := H
     go_wp2
     go_ret2
     exact ⟨by first | rfl | (simp; done) | (simp [*]; done), drw⟩
    ·replace c10 := Bool.eq_false_iff.mpr c10
     subst c10
     replace H := iff_ H
     by_cases c11 : t116 > 60
     ·rw [if_pos c11] at H
      have c11b0 : decide (60 < t116) = true := decide_eq_true c11
      clear c11
      simp only [Option.some.injEq, Prod.mk.injEq] at H
      obtain ⟨rfl, rfl⟩ := H
      go_wp2
      go_ret2
      exact ⟨by first | rfl | (simp; done) | (simp [*]; done), drw⟩
     ·rw [if_neg c11] at H
      have c11b0 : decide (60 < t116) = false := decide_eq_false c11
      clear c11
      simp only [Option.some.injEq, Prod.mk.injEq] at H
      obtain ⟨rfl, rfl⟩ := H
      go_wp2
      go_ret2
      exact ⟨by first | rfl | (simp; done) | (simp [*]; done), drw⟩
 ·rw [if_neg c2] at H
  exact absurd H (by simp)
def slices_Index_string_string.l0 : Nat → List ByteArray → ByteArray → Int → Int → Option (Int)
 | 0, _, _, _, _ => none
 | k + 1, x0, x1, x7, x8 => if x8 < x7 then (if 0 ≤ x8 then (if x8 < (x0.length : Int) then (if x1.toList = (rdOf ByteArray.empty x0 x8).toList then (some x8) else (slices_Index_string_string.l0 k x0 x1 x7 (wrap64 (x8 + 1)))) else (none)) else (none)) else (some (-1))
def slices_Index_string_string.f (k : Nat) (l0 : List ByteArray) (a1 : ByteArray) : Option (Int) := slices_Index_string_string.l0 k l0 a1 (l0.length : Int) 0
theorem slices_Index_string_string.mono_l : ∀ k, (∀ y0 y1 y2 y3, LeO (slices_Index_string_string.l0 k y0 y1 y2 y3) (slices_Index_string_string.l0 (k + 1) y0 y1 y2 y3))
 | 0 => fun _ _ _ _ r h => by simp [slices_Index_string_string.l0] at h
 | k + 1 => by
  have ih0 := slices_Index_string_string.mono_l k
  ·intro y0 y1 y2 y3
   unfold slices_Index_string_string.l0
   repeat' first
   | (with_reducible exact ih0 _ _ _ _)
   | (with_reducible exact LeO.refl _)
   | (with_reducible exact LeO.none _)
   | (with_reducible refine LeO.ite ?_ ?_)
   | (with_reducible refine LeO.bind ?_ (fun _ => ?_))
   | exact ih0 _ _ _ _
   | exact LeO.none _
   | refine LeO.ite ?_ ?_
   | refine LeO.bind ?_ (fun _ => ?_)
theorem slices_Index_string_string.mono : ∀ a0 a1 k, LeO (slices_Index_string_string.f k a0 a1) (slices_Index_string_string.f (k + 1) a0 a1) := by
 intro a0 a1 k
 have ih0 := slices_Index_string_string.mono_l k
 unfold slices_Index_string_string.f
 repeat' first
   | (with_reducible exact ih0 _ _ _ _)
   | (with_reducible exact LeO.refl _)
   | (with_reducible exact LeO.none _)
   | (with_reducible refine LeO.ite ?_ ?_)
   | (with_reducible refine LeO.bind ?_ (fun _ => ?_))
   | exact ih0 _ _ _ _
   | exact LeO.none _
   | refine LeO.ite ?_ ?_
   | refine LeO.bind ?_ (fun _ => ?_)
set_option maxHeartbeats 8000000 in
set_option maxRecDepth 100000 in
theorem slices_Index_string_string.calls (k : Nat) (A0 : Option Addr) (c0 : Nat) (l0 : List ByteArray) (a1 : ByteArray) (r : Int) (w : World) (hr0 : Kd.C Kd.string w A0 l0.length l0) (hc0 : l0.length ≤ c0) (h : slices_Index_string_string.f k l0 a1 = some r) :
  Calls Try.prog 118 #[.slice A0 l0.length c0, .string a1] w fun e w' => e = .returned (.int .i64 r) ∧ Drawn0 w w' := by
 have HR0 := Aside0.mk hr0
 have HC0 := Aside0.mk hc0
 clear hr0 hc0
 have H : (slices_Index_string_string.l0 k l0 a1 (l0.length : Int) 0) = some r := h
 clear h
 have H' := Aside0.mk H
 clear H
 go_enter Try.func118, Try.ntmps118
 go_wp2
 go_loopg [8] k (fun kq v8 w' => ∃ (x8_1 : Int), v8 = .int .i64 x8_1 ∧ Aside0 (slices_Index_string_string.l0 kq l0 a1 (l0.length : Int) x8_1 = some r) ∧ Aside0 (kq ≤ k) ∧ Drawn0 w w')
 case atStart => exact ⟨(0), eqs, H', ⟨Nat.le_refl _⟩, drw⟩
 case round =>
  clear H'
  try clear c1
  try clear p2
  obtain ⟨x8_1, rfl, HA, HK1, ⟨m1, rfl⟩⟩ := hrel
  cases gk with
  | zero => exact absurd HA.out (by simp [slices_Index_string_string.l0])
  | succ k1 =>
   have H := HA.out
   clear HA
   simp only [slices_Index_string_string.l0] at H
   by_cases c3 : x8_1 < (l0.length : Int)
   ·rw [if_pos c3] at H
    have c3b0 : decide (x8_1 < (l0.length : Int)) = true := decide_eq_true c3
    clear c3
    by_cases c4 : 0 ≤ x8_1
    ·rw [if_pos c4] at H
     have c4b0 : decide (0 ≤ x8_1) = true := decide_eq_true c4
     clear c4
     by_cases c5 : x8_1 < (l0.length : Int)
     ·rw [if_pos c5] at H
      have c5b0 : decide (x8_1 < (l0.length : Int)) = true := decide_eq_true c5
      clear c5
      by_cases c6 : a1.toList = (rdOf ByteArray.empty l0 x8_1).toList
      ·rw [if_pos c6] at H
       have c6b0 : (a1.toList == (rdOf ByteArray.empty l0 x8_1).toList) = true := beq_iff_eq.mpr c6
       have c6b1 : (a1.toList != (rdOf ByteArray.empty l0 x8_1).toList) = false := bne_eq_false_iff_eq.mpr c6
       clear c6
       obtain rfl := Option.some.inj H
       have p117 : 0 ≤ x8_1 := odt
       have q117 : x8_1 < (l0.length : Int) := odt
       obtain ⟨ad117, e117, hx117_0⟩ := Kd.at_string HR0.out x8_1 p117 q117
       cases e117
       replace p117 := eq_true p117
       replace q117 := eq_true q117
       go_wp2
       go_ret
       exact ⟨by first | rfl | (simp; done) | (simp [*]; done), drw⟩
      ·rw [if_neg c6] at H
       have c6b0 : (a1.toList == (rdOf ByteArray.empty l0 x8_1).toList) = false := beq_eq_false_iff_ne.mpr c6
       have c6b1 : (a1.toList != (rdOf ByteArray.empty l0 x8_1).toList) = true := bne_iff_ne.mpr c6
       have H' := Aside0.mk H
       clear H
       have p117 : 0 ≤ x8_1 := odt
       have q117 : x8_1 < (l0.length : Int) := odt
       obtain ⟨ad117, e117, hx117_0⟩ := Kd.at_string HR0.out x8_1 p117 q117
       cases e117
       replace p117 := eq_true p117
       replace q117 := eq_true q117
       go_wp2
       go_roundg k1
       case measure => have := HK1.out; omega
       case rel => exact ⟨(wrap64 (x8_1 + 1)), eqs, H', ⟨by have := HK1.out; omega⟩, drw⟩
     ·rw [if_neg c5] at H
      exact absurd H (by simp)
    ·rw [if_neg c4] at H
     exact absurd H (by simp)
   ·rw [if_neg c3] at H
    have c3b0 : decide (x8_1 < (l0.length : Int)) = false := decide_eq_false c3
    clear c3
    obtain rfl := Option.some.inj H
    go_wp2
    go_ret
    exact ⟨by first | rfl | (simp; done) | (simp [*]; done), drw⟩
def slices_Contains_string_string.f (k : Nat) (l0 : List ByteArray) (a1 : ByteArray) : Option (Bool) := (slices_Index_string_string.f k l0 a1).bind fun t118 => (some (decide (t118 ≥ 0)))
theorem slices_Contains_string_string.mono : ∀ a0 a1 k, LeO (slices_Contains_string_string.f k a0 a1) (slices_Contains_string_string.f (k + 1) a0 a1) := by
 intro a0 a1 k
 unfold slices_Contains_string_string.f
 repeat' first
   | (with_reducible exact slices_Index_string_string.mono _ _ _)
   | (with_reducible exact LeO.refl _)
   | (with_reducible exact LeO.none _)
   | (with_reducible refine LeO.ite ?_ ?_)
   | (with_reducible refine LeO.bind ?_ (fun _ => ?_))
   | exact slices_Index_string_string.mono _ _ _
   | exact LeO.none _
   | refine LeO.ite ?_ ?_
   | refine LeO.bind ?_ (fun _ => ?_)
set_option maxHeartbeats 8000000 in
set_option maxRecDepth 100000 in
theorem slices_Contains_string_string.calls (k : Nat) (A0 : Option Addr) (c0 : Nat) (l0 : List ByteArray) (a1 : ByteArray) (r : Bool) (w : World) (hr0 : Kd.C Kd.string w A0 l0.length l0) (hc0 : l0.length ≤ c0) (h : slices_Contains_string_string.f k l0 a1 = some r) :
  Calls Try.prog 105 #[.slice A0 l0.length c0, .string a1] w fun e w' => e = .returned (.bool r) ∧ Drawn0 w w' := by
 have HR0 := Aside0.mk hr0
 have HC0 := Aside0.mk hc0
 clear hr0 hc0
 have H : ((slices_Index_string_string.f k l0 a1).bind fun t118 => (some (decide (t118 ≥ 0)))) = some r := h
 clear h
 replace H := Option.bind_eq_some_iff.mp H
 obtain ⟨t118, A30, H⟩ := H
 replace H : (some (decide (t118 ≥ 0))) = some r := H
 have A3 := Aside0.mk A30
 clear A30
 obtain rfl := Option.some.inj H
 go_enter Try.func105, Try.ntmps105
 go_wp2_with (first | ((with_reducible refine gate_callee (f := 118) rfl ?_); refine gl 7 Try.func118 #[.slice A0 l0.length c0, .string a1] (h := ?_); (with_reducible refine (slices_Index_string_string.calls k _ _ l0 a1 t118 _ ?side1 ?side2 A3.out).mono ?_); (case side1 => repeat (first | exact HR0.out | (with_reducible refine Kd.C_alloc ?_ _) | (with_reducible refine Kd.C_drewN ?_ _) | (with_reducible refine Kd.C_drew ?_))); (case side2 => exact HC0.out); rintro e w' ⟨rfl, ⟨nd, rfl⟩⟩; refine ⟨_, rfl, ?_⟩))
 go_ret
 exact ⟨by first | rfl | (simp; done) | (simp [*]; done), drw⟩
end Go.Proofs.Ytfpianecohobjaa.P
