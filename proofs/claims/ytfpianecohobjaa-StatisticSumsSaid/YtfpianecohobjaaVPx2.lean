/- StatisticOf: a part of its proof. No condition. -/
import Derived.Test.YtfpianecohobjaaVPx0
import Derived.Test.YtfpianecohobjaaVH0
namespace Go.Proofs.Ytfpianecohobjaa.P
open Go.RowKit Go.Proofs.YtfpianecohobjaaW.PrintWords Go.Proofs.YtfpianecohobjaaW.PrintLast Go.Proofs.YtfpianecohobjaaW.PrintMore
set_option maxHeartbeats 8000000
set_option maxRecDepth 100000
set_option linter.unusedVariables false
set_option linter.unusedSimpArgs false
def types_attrs.f : Nat → List (S68) → List (S71) → Int → Option ((List (S77)))
 | 0, _, _, _ => none
 | k + 1, a3, a7, a1 => if 0 ≤ a1 then (if a1 < (a3.length : Int) then (if ((rd_T68 a3 a1).f1) ≥ 0 then ((types_attrs.f k a3 a7 ((rd_T68 a3 a1).f1)).bind fun b7 => (if b7.length + ((rd_T68 a3 a1).f3).length < 2513169434916 then (some (b7 ++ ((rd_T68 a3 a1).f3))) else (none))) else (if ([] : List (S77)).length + ((rd_T68 a3 a1).f3).length < 2513169434916 then (some (([] : List (S77)) ++ ((rd_T68 a3 a1).f3))) else (none))) else (none)) else (none)
theorem types_attrs.mono_l : ∀ k, (∀ y0 y1 y2, LeO (types_attrs.f k y0 y1 y2) (types_attrs.f (k + 1) y0 y1 y2))
 | 0 => by (intros; intro r h; simp [types_attrs.f] at h)
 | k + 1 => by
  have ih0 := types_attrs.mono_l k
  (intros; first | unfold types_attrs.f)
  all_goals with_reducible repeat' first | exact ih0 .. | exact LeO.refl _ | exact LeO.none _ | refine LeO.ite ?_ ?_ | refine LeO.bind ?_ fun _ => ?_
theorem types_attrs.mono : ∀ a0 a1 a2 k, LeO (types_attrs.f k a0 a1 a2) (types_attrs.f (k + 1) a0 a1 a2) := by
 intro a0 a1 a2 k
 have ih0 := types_attrs.mono_l k
 exact ih0 a0 a1 a2
theorem types_attrs.calls (k : Nat) : ∀ (P0_0_ : Nat → Prop) (d3 : Option Addr) (b0 : Nat) (a3 : List (S68)) (b3 : Option Addr) (b2 : Nat) (a7 : List (S71)) (a1 : Int) (r : List (S77)) (w : World) (h0 : Kd.V k68 68 w w.heap.size (fun k_ => P0_0_ k_) (.slice d3 a3.length b0) a3) (g0 : Kd.C k71 w b3 a7.length a7) (g1 : a7.length ≤ b2) (h : types_attrs.f k a3 a7 a1 = some r),
  Calls Try.prog 49 #[.agg #[.slice d3 a3.length b0, .slice b3 a7.length b2], .int .i64 a1] w fun e w' => ∃ m8 : Value, e = .returned (m8) ∧ Kd.N k77 77 w' w.heap.size (fun k_ => (P0_0_ k_ ∨ w.heap.size ≤ k_)) m8 r ∧ Below w.heap.size w w' := by
 induction k using Nat.strongRecOn with
 | _ k ih =>
 intro P0_0_ d3 b0 a3 b3 b2 a7 a1 r w h0 g0 g1 h
 cases k with
 | zero => exact absurd h (by simp [types_attrs.f])
 | succ k =>
 simp only [types_attrs.f] at h
 have hu25 := Try.underlying25
 have a4 := Aside0.mk (show Kd.V k68 68 w w.heap.size (fun k_ => (P0_0_ k_ ∨ w.heap.size ≤ k_)) (.slice d3 a3.length b0) a3 from Kd.V_mono h0 (fun k_ hk => .inl hk))
 have m3 := Aside0.mk g0
 have m6 := Aside0.mk g1
 clear g0 g1
 have HB := Aside0.mk (Below.refl w.heap.size w)
 have H : (if 0 ≤ a1 then (if a1 < (a3.length : Int) then (if ((rd_T68 a3 a1).f1) ≥ 0 then ((types_attrs.f k a3 a7 ((rd_T68 a3 a1).f1)).bind fun b7 => (if b7.length + ((rd_T68 a3 a1).f3).length < 2513169434916 then (some (b7 ++ ((rd_T68 a3 a1).f3))) else (none))) else (if ([] : List (S77)).length + ((rd_T68 a3 a1).f3).length < 2513169434916 then (some (([] : List (S77)) ++ ((rd_T68 a3 a1).f3))) else (none))) else (none)) else (none)) = some r := h
 clear h
 obtain ⟨c3, H⟩ := itn H
 have g2 := decide_eq_true c3
 clear c3
 obtain ⟨c4, H⟩ := itn H
 have g9 := decide_eq_true c4
 clear c4
 by_cases c5 : ((rd_T68 a3 a1).f1) ≥ 0
 rotate_left
 ·rw [if_neg c5] at H
  have a9 : decide (0 ≤ ((rd_T68 a3 a1).f1)) = false := decide_eq_false c5
  clear c5
  obtain ⟨m9, H⟩ := itn H
  have m2 := Aside0.mk m9
  clear m9
  obtain ⟨n2, c9⟩ : ∃ y_ : List (S77), y_ = (([] : List (S77)) ++ ((rd_T68 a3 a1).f3)) := ⟨_, rfl⟩
  replace H : (some n2) = some r := by first | (rw [c9]; with_reducible exact H) | (have H2_ := (Option.bind_some _ _).symm.trans H; rw [c9]; with_reducible exact H2_) | (have H2_ := (Option.bind_some _ _).symm.trans H; with_reducible exact H2_) | with_reducible exact H | (rw [c9]; exact H) | exact H
  have j9 := Aside0.mk c9
  clear c9
  obtain rfl := Option.some.inj H
  go_enter Try.func49, Try.ntmps49
  go_wp2_with (first | ((with_reducible refine gate_dst (N := 2) rfl ?_); refine be 2 #[.slice d3 a3.length b0, .slice b3 a7.length b2] 25 ?_; intro a6 hg s0 hbox hb; replace a4 := Aside0.mk (Kd.V_below (Kd.V_elderB (kV a4) a6 (Nat.le_of_eq hg.symm)) hb); have a8 := Aside0.mk (hbox); have m7 := bsz HB hg; replace HB := bstep HB hb; clear hb hbox hg; obtain ⟨p3, p2, o9, o8⟩ := cz2 a8; have b9 : 0 ≤ a1 := odt; have b8 : a1 < (a3.length : Int) := odt; obtain ⟨b1, j4, j1, g8, h6, h5, h4, c1, b4, b5⟩ := at_T68 (Kd.V_reads' a4.out).2.2 a1 b9 b8; cases g8; obtain ⟨ce102, hce102, hMe102, hcc102⟩ := Kd.V_get a4.out z68 a1 b9 (by first | exact b8 | exact odt | (have e_ := (Kd.V_reads' a4.out).1; omega)); obtain ⟨ua102_3, uc102_3, rfl, ul102_3, ge102_3⟩ := k68_openF hMe102; have hv102_3 := hcc102 3 _ rfl; rw [add_field _ _ 3 (by omega)] at hv102_3; replace hv102_3 := Option.some.inj (hv102_3.symm.trans c1); injection hv102_3 with hva_ hvn_ hvc_; rw [hva_] at ge102_3; rw [hvc_] at ul102_3; clear hva_ hvn_ hvc_ ge102_3 ul102_3; clear hcc102 hce102; have d2 := Aside0.mk b5; have h7 := Aside0.mk b4; clear b5 b4; replace b9 := eq_true b9; replace b8 := eq_true b8; have e8 : 0 ≤ a1 := odt; have e6 : a1 < (a3.length : Int) := odt; obtain ⟨j7, r0, q7, n5, o4, o3, o2, d7, d8, e0⟩ := at_T68 (Kd.V_reads' a4.out).2.2 a1 e8 e6; obtain rfl : b1 = j7 := (by injection n5); obtain ⟨ce110, hce110, hMe110, hcc110⟩ := Kd.V_get a4.out z68 a1 e8 (by first | exact e6 | exact odt | (have e_ := (Kd.V_reads' a4.out).1; omega)); obtain ⟨ua110_3, uc110_3, rfl, ul110_3, ge110_3⟩ := k68_openF hMe110; have hv110_3 := hcc110 3 _ rfl; rw [add_field _ _ 3 (by omega)] at hv110_3; replace hv110_3 := Option.some.inj (hv110_3.symm.trans d7); injection hv110_3 with hva_ hvn_ hvc_; rw [hva_] at ge110_3; rw [hvc_] at ul110_3; have HL110_3 := Aside0.mk (show Kd.V k77 77 _ w.heap.size _ _ ((rd_T68 a3 a1).f3) from Kd.V_mk ul110_3 ge110_3); clear hva_ hvn_ hvc_ ge110_3 ul110_3; clear hcc110 hce110; have p6 := Aside0.mk e0; have p8 := Aside0.mk d8; clear e0 d8; replace e8 := eq_true e8; replace e6 := eq_true e6; have ea_ := Option.some.inj (c1.symm.trans d7); injection ea_ with ea_ en_ ec_; subst ea_; subst ec_; clear en_) | ((with_reducible refine gate_builtin (b := .append) (xs := #[.tmp 18, .tmp 24]) rfl ?_); at_builtin; refine Kd.N_append_rows k77 (w0 := w) w.heap.size rfl (.tmp 18) (.tmp 24) 45 77 (.agg #[(.string ⟨#[]⟩), (.int .i64 0), (.int .i64 0), (.slice none 0 0)]) 56 rfl Try.underlying45 info77 rfl (by decide) (by omega) (.slice none 0 0) ([] : List (S77)) ((rd_T68 a3 a1).f3) _ _ _ (fun k_ => (P0_0_ k_ ∨ w.heap.size ≤ k_) ∧ k_ ≠ a6) (fun k_ => ((fun k_ => (P0_0_ k_ ∨ w.heap.size ≤ k_) ∧ k_ ≠ a6)) k_ ∧ some k_ ≠ (.slice none 0 0 : Value).ownBlock) rfl rfl ?aO ?aR (fun _ hk => hk) ?aF ?aB ?aS ?aL ?_; (case aR => exact (by skip; exact Kd.V_F (Kd.V_mono (ok' := (fun k_ => ((fun k_ => (P0_0_ k_ ∨ w.heap.size ≤ k_) ∧ k_ ≠ a6)) k_ ∧ some k_ ≠ (.slice none 0 0 : Value).ownBlock)) (HL110_3.out) (fun k_ hk => ⟨⟨hk.1, hk.2⟩, (by simp [Value.ownBlock])⟩)))); (case aB => exact (bb HB)); (case aF => exact (fun k_ hk => ⟨(.inr (Nat.le_trans (below_size (bb HB)) hk)), Kd.freshB (g := a6) (o := .cells #[.slice (some b1) a3.length b0, .slice b3 a7.length b2] 25 (0, 0)) (bk a8) k_ hk⟩)); (case aO => exact ((Kd.N_nil _ _ _ _ (fun k_ => (P0_0_ k_ ∨ w.heap.size ≤ k_) ∧ k_ ≠ a6)))); (case aS => exact (below_size (bb HB))); (case aL => have := m2.out; omega); intro r5 r9 ho hb hg hat; rw [← j9.out] at ho; replace a4 := Aside0.mk (Kd.V_afterv (Kd.V_apart_nil (kV a4)) hg hat); replace a8 := Aside0.mk (blk_grown (g := a6) (o := .cells #[.slice (some b1) a3.length b0, .slice b3 a7.length b2] 25 (0, 0)) (bk a8) hg (by simp [Value.ownBlock])); replace HB := Aside0.mk (hb); have m4 := Aside0.mk (ho); clear ho hb hg hat))
  go_ret
  exact ⟨_, erf, kNmm m4 (fun _ hk => hk.1), bb HB⟩
 rw [if_pos c5] at H
 have a9 : decide (0 ≤ ((rd_T68 a3 a1).f1)) = true := decide_eq_true c5
 clear c5
 obtain ⟨b7, A6, H⟩ := obA H
 obtain ⟨c7, H⟩ := itn H
 have o0 := Aside0.mk c7
 clear c7
 obtain ⟨n3, d0⟩ : ∃ y_ : List (S77), y_ = (b7 ++ ((rd_T68 a3 a1).f3)) := ⟨_, rfl⟩
 replace H : (some n3) = some r := by first | (rw [d0]; with_reducible exact H) | (have H2_ := (Option.bind_some _ _).symm.trans H; rw [d0]; with_reducible exact H2_) | (have H2_ := (Option.bind_some _ _).symm.trans H; with_reducible exact H2_) | with_reducible exact H | (rw [d0]; exact H) | exact H
 have m0 := Aside0.mk d0
 clear d0
 obtain rfl := Option.some.inj H
 go_enter Try.func49, Try.ntmps49
 go_wp2_with (first | ((with_reducible refine gate_dst (N := 2) rfl ?_); refine be 2 #[.slice d3 a3.length b0, .slice b3 a7.length b2] 25 ?_; intro a6 hg w8 hbox hb; replace a4 := Aside0.mk (Kd.V_below (Kd.V_elderB (kV a4) a6 (Nat.le_of_eq hg.symm)) hb); have a8 := Aside0.mk (hbox); have m7 := bsz HB hg; replace HB := bstep HB hb; clear hb hbox hg; obtain ⟨q6, q5, q4, q3⟩ := cz2 a8; have b9 : 0 ≤ a1 := odt; have b8 : a1 < (a3.length : Int) := odt; obtain ⟨b1, j4, j1, g8, h6, h5, h4, c1, b4, b5⟩ := at_T68 (Kd.V_reads' a4.out).2.2 a1 b9 b8; cases g8; obtain ⟨ce102, hce102, hMe102, hcc102⟩ := Kd.V_get a4.out z68 a1 b9 (by first | exact b8 | exact odt | (have e_ := (Kd.V_reads' a4.out).1; omega)); obtain ⟨ua102_3, uc102_3, rfl, ul102_3, ge102_3⟩ := k68_openF hMe102; have hv102_3 := hcc102 3 _ rfl; rw [add_field _ _ 3 (by omega)] at hv102_3; replace hv102_3 := Option.some.inj (hv102_3.symm.trans c1); injection hv102_3 with hva_ hvn_ hvc_; rw [hva_] at ge102_3; rw [hvc_] at ul102_3; clear hva_ hvn_ hvc_ ge102_3 ul102_3; clear hcc102 hce102; have d2 := Aside0.mk b5; have h7 := Aside0.mk b4; clear b5 b4; replace b9 := eq_true b9; replace b8 := eq_true b8) | ((with_reducible refine gate_callee (f := 49) rfl ?_); refine gl 17 Try.func49 #[.agg #[.slice (some b1) a3.length b0, .slice b3 a7.length b2], .int .i64 ((rd_T68 a3 a1).f1)] (h := ?_); (with_reducible refine (ih k (by omega) (fun k_ => ((P0_0_ k_ ∨ w.heap.size ≤ k_) ∧ k_ ≠ a6)) _ _ a3 _ _ a7 ((rd_T68 a3 a1).f1) b7 _ ?e5 ?e4 ?j5 A6.out).mono ?_); (case e5 => exact a4.out); (case e4 => exact cb m3 HB); (case j5 => exact m6.out); rintro e s2 ⟨g5, rfl, h8, hb⟩; refine ⟨_, rfl, ?_⟩; replace a4 := Aside0.mk (Kd.V_elder' (kV a4) (Kd.N_base h8) hb); have h2 := Aside0.mk (Kd.N_lower (Kd.N_mono (ok' := fun k_ => (P0_0_ k_ ∨ w.heap.size ≤ k_) ∧ k_ ≠ a6) h8 (fun k_ hk_ => ⟨Or.elim hk_ (fun hs_ => hs_.1) (fun hn_ => (.inr (Nat.le_trans (below_size (bb HB)) hn_))), Or.elim hk_ (fun hs_ => hs_.2) (fun hn_ => (Kd.freshB (g := a6) (o := .cells #[.slice (some b1) a3.length b0, .slice b3 a7.length b2] 25 (0, 0)) (bk a8) k_ hn_))⟩)) (below_size (bb HB))); replace a8 := bkb a8 hb; replace d2 := kCb d2 hb; replace HB := bstep HB hb; clear hb h8; obtain ⟨p5, p4, p1, p0⟩ := cz2 a8; have e9 : 0 ≤ a1 := odt; have e7 : a1 < (a3.length : Int) := odt; obtain ⟨j8, r3, q8, n6, o7, o6, o5, h3, d9, e1⟩ := at_T68 (Kd.V_reads' a4.out).2.2 a1 e9 e7; obtain rfl : b1 = j8 := (by injection n6); obtain ⟨ce106, hce106, hMe106, hcc106⟩ := Kd.V_get a4.out z68 a1 e9 (by first | exact e7 | exact odt | (have e_ := (Kd.V_reads' a4.out).1; omega)); obtain ⟨ua106_3, uc106_3, rfl, ul106_3, ge106_3⟩ := k68_openF hMe106; have hv106_3 := hcc106 3 _ rfl; rw [add_field _ _ 3 (by omega)] at hv106_3; replace hv106_3 := Option.some.inj (hv106_3.symm.trans h3); injection hv106_3 with hva_ hvn_ hvc_; rw [hva_] at ge106_3; rw [hvc_] at ul106_3; have HL106_3 := Aside0.mk (show Kd.V k77 77 _ w.heap.size _ _ ((rd_T68 a3 a1).f3) from Kd.V_mk ul106_3 ge106_3); clear hva_ hvn_ hvc_ ge106_3 ul106_3; clear hcc106 hce106; have p7 := Aside0.mk e1; have q0 := Aside0.mk d9; clear e1 d9; replace e9 := eq_true e9; replace e7 := eq_true e7) | ((with_reducible refine gate_builtin (b := .append) (xs := #[.tmp 18, .tmp 24]) rfl ?_); at_builtin; refine Kd.N_append_rows k77 (w0 := w) w.heap.size rfl (.tmp 18) (.tmp 24) 45 77 (.agg #[(.string ⟨#[]⟩), (.int .i64 0), (.int .i64 0), (.slice none 0 0)]) 56 rfl Try.underlying45 info77 rfl (by decide) (by omega) g5 b7 ((rd_T68 a3 a1).f3) _ _ _ (fun k_ => (P0_0_ k_ ∨ w.heap.size ≤ k_) ∧ k_ ≠ a6) (fun k_ => ((fun k_ => (P0_0_ k_ ∨ w.heap.size ≤ k_) ∧ k_ ≠ a6)) k_ ∧ some k_ ≠ (g5 : Value).ownBlock) rfl rfl ?aO ?aR (fun _ hk => hk) ?aF ?aB ?aS ?aL ?_; (case aR => exact (by skip; exact Kd.V_F (Kd.V_mono (ok' := (fun k_ => ((fun k_ => (P0_0_ k_ ∨ w.heap.size ≤ k_) ∧ k_ ≠ a6)) k_ ∧ some k_ ≠ (g5 : Value).ownBlock)) (HL106_3.out) (fun k_ hk => ⟨⟨hk.1.1, hk.1.2⟩, hk.2⟩)))); (case aB => exact (bb HB)); (case aF => exact (fun k_ hk => ⟨(.inr (Nat.le_trans (below_size (bb HB)) hk)), Kd.freshB (g := a6) (o := .cells #[.slice (some b1) a3.length b0, .slice b3 a7.length b2] 25 (0, 0)) (bk a8) k_ hk⟩)); (case aO => exact (kN h2)); (case aS => exact (below_size (bb HB))); (case aL => have := o0.out; omega); intro r6 s1 ho hb hg hat; rw [← m0.out] at ho; replace HB := Aside0.mk (hb); have m5 := Aside0.mk (ho); clear h2 ho hb hg hat))
 go_ret
 exact ⟨_, erf, kNmm m5 (fun _ hk => hk.1), bb HB⟩
def token_letter.f (a0 : Int) : Option (Bool) := if a0 ≥ 97 then (if a0 ≤ 122 then (some true) else (if a0 ≥ 65 then (some (decide (a0 ≤ 90))) else (some false))) else (if a0 ≥ 65 then (some (decide (a0 ≤ 90))) else (some false))
theorem token_letter.calls (a0 : Int) (r : Bool) (w : World) (h : token_letter.f a0 = some r) :
  Calls Try.prog 111 #[.int .u8 a0] w fun e w' => e = .returned (.bool r) ∧ Drawn0 w w' := by
 have H : (if a0 ≥ 97 then (if a0 ≤ 122 then (some true) else (if a0 ≥ 65 then (some (decide (a0 ≤ 90))) else (some false))) else (if a0 ≥ 65 then (some (decide (a0 ≤ 90))) else (some false))) = some r := h
 clear h
 by_cases c2 : a0 ≥ 97
 rotate_left
 ·rw [if_neg c2] at H
  have d6 : decide (97 ≤ a0) = false := decide_eq_false c2
  clear c2
  by_cases c5 : a0 ≥ 65
  ·rw [if_pos c5] at H
   have a9 : decide (65 ≤ a0) = true := decide_eq_true c5
   clear c5
   obtain rfl := Option.some.inj H
   go_enter Try.func111, Try.ntmps111
   go_wp2
   go_ret
   exact ⟨by first | rfl | (simp; done) | (simp [*]; done), drw⟩
  rw [if_neg c5] at H
  have a9 : decide (65 ≤ a0) = false := decide_eq_false c5
  clear c5
  obtain rfl := Option.some.inj H
  go_enter Try.func111, Try.ntmps111
  go_wp2
  go_ret
  exact ⟨by first | rfl | (simp; done) | (simp [*]; done), drw⟩
 rw [if_pos c2] at H
 have d6 : decide (97 ≤ a0) = true := decide_eq_true c2
 clear c2
 by_cases c3 : a0 ≤ 122
 ·rw [if_pos c3] at H
  have g2 := decide_eq_true c3
  clear c3
  obtain rfl := Option.some.inj H
  go_enter Try.func111, Try.ntmps111
  go_wp2
  go_ret
  exact ⟨by first | rfl | (simp; done) | (simp [*]; done), drw⟩
 rw [if_neg c3] at H
 have g2 := decide_eq_false c3
 clear c3
 by_cases c4 : a0 ≥ 65
 ·rw [if_pos c4] at H
  have g9 : decide (65 ≤ a0) = true := decide_eq_true c4
  clear c4
  obtain rfl := Option.some.inj H
  go_enter Try.func111, Try.ntmps111
  go_wp2
  go_ret
  exact ⟨by first | rfl | (simp; done) | (simp [*]; done), drw⟩
 rw [if_neg c4] at H
 have g9 : decide (65 ≤ a0) = false := decide_eq_false c4
 clear c4
 obtain rfl := Option.some.inj H
 go_enter Try.func111, Try.ntmps111
 go_wp2
 go_ret
 exact ⟨by first | rfl | (simp; done) | (simp [*]; done), drw⟩
def token_digit.f (a0 : Int) : Option (Bool) := if a0 ≥ 48 then (some (decide (a0 ≤ 57))) else (some false)
theorem token_digit.calls (a0 : Int) (r : Bool) (w : World) (h : token_digit.f a0 = some r) :
  Calls Try.prog 114 #[.int .u8 a0] w fun e w' => e = .returned (.bool r) ∧ Drawn0 w w' := by
 have H : (if a0 ≥ 48 then (some (decide (a0 ≤ 57))) else (some false)) = some r := h
 clear h
 by_cases c2 : a0 ≥ 48
 ·rw [if_pos c2] at H
  have d6 : decide (48 ≤ a0) = true := decide_eq_true c2
  clear c2
  obtain rfl := Option.some.inj H
  go_enter Try.func114, Try.ntmps114
  go_wp2
  go_ret
  exact ⟨by first | rfl | (simp; done) | (simp [*]; done), drw⟩
 rw [if_neg c2] at H
 have d6 : decide (48 ≤ a0) = false := decide_eq_false c2
 clear c2
 obtain rfl := Option.some.inj H
 go_enter Try.func114, Try.ntmps114
 go_wp2
 go_ret
 exact ⟨by first | rfl | (simp; done) | (simp [*]; done), drw⟩
def token_quoted.j0 : Nat → Int → Bool → Option (Int × Int)
 | 0, _, _ => none
 | k + 1, x4, q1 => if q1 = true then (some (0, 2)) else (if x4 > 60 then (some (0, 3)) else (some (wrap64 (x4 + 2), 0)))
def token_quoted.f (k : Nat) (a0 : ByteArray) : Option (Int × Int) := if 1 ≤ (a0.size : Int) then ((token_run_quoted.f (a0.extract 1 a0.size)).bind fun a5 => (if (wrap64 (1 + a5)) = (a0.size : Int) then (token_quoted.j0 k a5 true) else (if 0 ≤ (wrap64 (1 + a5)) then (if (wrap64 (1 + a5)) < (a0.size : Int) then (token_quoted.j0 k a5 ((bt a0 (wrap64 (1 + a5))) != 34)) else (none)) else (none)))) else (none)
theorem token_quoted.mono_l : ∀ k, (∀ y0 y1, LeO (token_quoted.j0 k y0 y1) (token_quoted.j0 (k + 1) y0 y1))
 | 0 => by (intros; intro r h; simp [token_quoted.j0] at h)
 | k + 1 => by
  have ih0 := token_quoted.mono_l k
  (intros; first | unfold token_quoted.j0)
  all_goals with_reducible repeat' first | exact ih0 .. | exact LeO.refl _ | exact LeO.none _ | refine LeO.ite ?_ ?_ | refine LeO.bind ?_ fun _ => ?_
theorem token_quoted.mono : ∀ a0 k, LeO (token_quoted.f k a0) (token_quoted.f (k + 1) a0) := by
 intro a0 k
 have ih0 := token_quoted.mono_l k
 unfold token_quoted.f
 with_reducible repeat' first | exact ih0 .. | exact LeO.refl _ | exact LeO.none _ | refine LeO.ite ?_ ?_ | refine LeO.bind ?_ fun _ => ?_
theorem token_quoted.calls (k : Nat) (a0 : ByteArray) (r1 : Int) (r2 : Int) (w : World) (h : token_quoted.f k a0 = some (r1, r2)) :
  Calls Try.prog 115 #[.string a0] w fun e w' => e = .returned (.tuple #[.int .i64 r1, .int .i64 r2]) ∧ Drawn0 w w' := by
 have H : (if 1 ≤ (a0.size : Int) then ((token_run_quoted.f (a0.extract 1 a0.size)).bind fun a5 => (if (wrap64 (1 + a5)) = (a0.size : Int) then (token_quoted.j0 k a5 true) else (if 0 ≤ (wrap64 (1 + a5)) then (if (wrap64 (1 + a5)) < (a0.size : Int) then (token_quoted.j0 k a5 ((bt a0 (wrap64 (1 + a5))) != 34)) else (none)) else (none)))) else (none)) = some (r1, r2) := h
 clear h
 obtain ⟨c2, H⟩ := itn H
 have d6 := eq_true c2
 have n9 := decide_eq_true c2
 clear c2
 obtain ⟨a5, A3, H⟩ := obA H
 have j3 := Aside0.mk H
 clear H
 go_enter Try.func115, Try.ntmps115
 go_upto_region 2 with (first | ((with_reducible refine gate_callee (f := 112) rfl ?_); refine gl 7 Try.func112 #[.string (a0.extract 1 a0.size), .func (.func 125) #[] #[]] (h := ?_); (with_reducible refine (token_run_quoted.calls (a0.extract 1 a0.size)  a5 _ A3.out).mono ?_); rintro e w' ⟨rfl, ⟨nd, rfl⟩⟩; refine ⟨_, rfl, ?_⟩))
 (try simp only [Act.put, List.setIfInBounds_toArray, List.set_cons_zero, List.set_cons_succ])
 go_cut [19] (fun q2 wc => ∃ (kq : Nat) (d5 : Bool), q2 = .bool d5 ∧ Aside0 (token_quoted.j0 kq a5 d5 = some (r1, r2)) ∧ Aside0 (kq ≤ k) ∧ Drawn0 w wc)
 case first =>
  have H := j3.out
  clear j3
  by_cases c5 : (wrap64 (1 + a5)) = (a0.size : Int)
  ·rw [if_pos c5] at H
   have a9 := beq_iff_eq.mpr c5
   have h9 := bne_eq_false_iff_eq.mpr c5
   clear c5
   (first | rw [a9] | (simp only [i64_w, i32_w]; rw [a9]) | skip)
   have H' := Aside0.mk H
   clear H
   go_wp2
   go_meet
   case rel => exact ⟨_, (true), eqs, H', ⟨by first | omega | exact Nat.le_refl _⟩, drw⟩
  rw [if_neg c5] at H
  have a9 := beq_eq_false_iff_ne.mpr c5
  have h9 := bne_iff_ne.mpr c5
  (first | rw [a9] | (simp only [i64_w, i32_w]; rw [a9]) | skip)
  obtain ⟨d4, d1⟩ : ∃ j_ : Int, (wrap64 (1 + a5)) = j_ := ⟨_, rfl⟩
  replace H : (if 0 ≤ (d4) then (if (d4) < (a0.size : Int) then (token_quoted.j0 k a5 ((bt a0 (d4)) != 34)) else (none)) else (none)) = some (r1, r2) := by first | (rw [d1] at H; exact H) | (simp only [d1] at H ⊢; exact H)
  (try rw [d1] at a9)
  (try rw [d1] at h9)
  have hji6w : (IntKind.i64.wrap (1 + a5)) = d4 := (i64_w _).trans d1
  obtain ⟨c7, H⟩ := itn H
  have r8 := decide_eq_true c7
  clear c7
  obtain ⟨c8, H⟩ := itn H
  have r7 := decide_eq_true c8
  clear c8
  have H' := Aside0.mk H
  clear H
  have p9 : 0 ≤ ((d4) : Int) := odt
  have q9 : (d4) < (a0.size : Int) := odt
  have s4 := bt_at a0 (d4)
  replace p9 := eq_true p9
  replace q9 := eq_true q9
  go_wp2
  go_meet
  case rel => exact ⟨_, (((bt a0 (d4)) != 34)), (by first | rfl | (simp; done) | (simp only [← d1] <;> (first | rfl | simp)) | (simp [*]; done)), H', ⟨by first | omega | exact Nat.le_refl _⟩, drw⟩
 case rest =>
  clear j3
  try clear d6 n9
  obtain ⟨kq, d5, rfl, HA, s5, ⟨mc3, rfl⟩⟩ := hcut
  cases kq with
  | zero => exact absurd HA.out (by simp [token_quoted.j0])
  | succ s3 =>
   have H := HA.out
   clear HA
   simp only [token_quoted.j0] at H
   by_cases h1 : d5 = true
   ·subst h1
    replace H := ift H
    simp only [Option.some.injEq, Prod.mk.injEq] at H
    obtain ⟨rfl, rfl⟩ := H
    go_wp2
    go_ret2
    exact ⟨by first | rfl | (simp; done) | (simp [*]; done), drw⟩
   replace h1 := Bool.eq_false_iff.mpr h1
   subst h1
   replace H := iff_ H
   by_cases e2 : a5 > 60
   ·rw [if_pos e2] at H
    have j6 : decide (60 < a5) = true := decide_eq_true e2
    clear e2
    simp only [Option.some.injEq, Prod.mk.injEq] at H
    obtain ⟨rfl, rfl⟩ := H
    go_wp2
    go_ret2
    exact ⟨by first | rfl | (simp; done) | (simp [*]; done), drw⟩
   rw [if_neg e2] at H
   have j6 : decide (60 < a5) = false := decide_eq_false e2
   clear e2
   simp only [Option.some.injEq, Prod.mk.injEq] at H
   obtain ⟨rfl, rfl⟩ := H
   go_wp2
   go_ret2
   exact ⟨by first | rfl | (simp; done) | (simp [*]; done), drw⟩
def slices_Index_string_string.l0 : Nat → List ByteArray → ByteArray → Int → Int → Option (Int)
 | 0, _, _, _, _ => none
 | k + 1, x0, x1, x7, x8 => if x8 < x7 then (if 0 ≤ x8 then (if x8 < (x0.length : Int) then (if x1.toList = (rdOf ByteArray.empty x0 x8).toList then (some x8) else (slices_Index_string_string.l0 k x0 x1 x7 (wrap64 (x8 + 1)))) else (none)) else (none)) else (some (-1))
def slices_Index_string_string.f (k : Nat) (l0 : List ByteArray) (a1 : ByteArray) : Option (Int) := slices_Index_string_string.l0 k l0 a1 (l0.length : Int) 0
theorem slices_Index_string_string.mono_l : ∀ k, (∀ y0 y1 y2 y3, LeO (slices_Index_string_string.l0 k y0 y1 y2 y3) (slices_Index_string_string.l0 (k + 1) y0 y1 y2 y3))
 | 0 => by (intros; intro r h; simp [slices_Index_string_string.l0] at h)
 | k + 1 => by
  have ih0 := slices_Index_string_string.mono_l k
  (intros; first | unfold slices_Index_string_string.l0)
  all_goals with_reducible repeat' first | exact ih0 .. | exact LeO.refl _ | exact LeO.none _ | refine LeO.ite ?_ ?_ | refine LeO.bind ?_ fun _ => ?_
theorem slices_Index_string_string.mono : ∀ a0 a1 k, LeO (slices_Index_string_string.f k a0 a1) (slices_Index_string_string.f (k + 1) a0 a1) := by
 intro a0 a1 k
 have ih0 := slices_Index_string_string.mono_l k
 unfold slices_Index_string_string.f
 with_reducible repeat' first | exact ih0 .. | exact LeO.refl _ | exact LeO.none _ | refine LeO.ite ?_ ?_ | refine LeO.bind ?_ fun _ => ?_
theorem slices_Index_string_string.calls (k : Nat) (A0 : Option Addr) (c0 : Nat) (l0 : List ByteArray) (a1 : ByteArray) (r : Int) (w : World) (g3 : Kd.C Kd.string w A0 l0.length l0) (g4 : l0.length ≤ c0) (h : slices_Index_string_string.f k l0 a1 = some r) :
  Calls Try.prog 118 #[.slice A0 l0.length c0, .string a1] w fun e w' => e = .returned (.int .i64 r) ∧ Drawn0 w w' := by
 have j2 := Aside0.mk g3
 have n1 := Aside0.mk g4
 clear g3 g4
 have H : (slices_Index_string_string.l0 k l0 a1 (l0.length : Int) 0) = some r := h
 clear h
 have H' := Aside0.mk H
 clear H
 go_enter Try.func118, Try.ntmps118
 go_wp2
 go_loopg [8] k (fun kq v8 w' => ∃ (b6 : Int), v8 = .int .i64 b6 ∧ Aside0 (slices_Index_string_string.l0 kq l0 a1 (l0.length : Int) b6 = some r) ∧ Aside0 (kq ≤ k) ∧ Drawn0 w w')
 case atStart => exact ⟨(0), eqs, H', ⟨Nat.le_refl _⟩, drw⟩
 case round =>
  clear H'
  obtain ⟨b6, rfl, HA, n0, ⟨m1, rfl⟩⟩ := hrel
  cases gk with
  | zero => exact absurd HA.out (by simp [slices_Index_string_string.l0])
  | succ k1 =>
   have H := HA.out
   clear HA
   simp only [slices_Index_string_string.l0] at H
   by_cases c3 : b6 < (l0.length : Int)
   rotate_left
   ·rw [if_neg c3] at H
    have g2 := decide_eq_false c3
    clear c3
    obtain rfl := Option.some.inj H
    go_wp2
    go_ret
    exact ⟨by first | rfl | (simp; done) | (simp [*]; done), drw⟩
   rw [if_pos c3] at H
   have g2 := decide_eq_true c3
   clear c3
   obtain ⟨c4, H⟩ := itn H
   have g9 := decide_eq_true c4
   clear c4
   obtain ⟨c5, H⟩ := itn H
   have a9 := decide_eq_true c5
   clear c5
   by_cases c6 : a1.toList = (rdOf ByteArray.empty l0 b6).toList
   rw [if_pos c6] at H
   have n8 := beq_iff_eq.mpr c6
   have n7 := bne_eq_false_iff_eq.mpr c6
   clear c6
   obtain rfl := Option.some.inj H
   rotate_left
   rw [if_neg c6] at H
   have n8 := beq_eq_false_iff_ne.mpr c6
   have n7 := bne_iff_ne.mpr c6
   have H' := Aside0.mk H
   clear H
   all_goals
    have g7 : 0 ≤ b6 := odt
    have g6 : b6 < (l0.length : Int) := odt
    obtain ⟨r4, n4, o1⟩ := Kd.at_string j2.out b6 g7 g6
    cases n4
    replace g7 := eq_true g7
    replace g6 := eq_true g6
    go_wp2
   ·go_roundg k1
    case measure => have := n0.out; omega
    case rel => exact ⟨(wrap64 (b6 + 1)), eqs, H', ⟨by have := n0.out; omega⟩, drw⟩
   ·go_ret
    exact ⟨by first | rfl | (simp; done) | (simp [*]; done), drw⟩
def slices_Contains_string_string.f (k : Nat) (l0 : List ByteArray) (a1 : ByteArray) : Option (Bool) := (slices_Index_string_string.f k l0 a1).bind fun e3 => (some (decide (e3 ≥ 0)))
theorem slices_Contains_string_string.mono : ∀ a0 a1 k, LeO (slices_Contains_string_string.f k a0 a1) (slices_Contains_string_string.f (k + 1) a0 a1) := by
 intro a0 a1 k
 unfold slices_Contains_string_string.f
 with_reducible repeat' first | exact slices_Index_string_string.mono .. | exact LeO.refl _ | exact LeO.none _ | refine LeO.ite ?_ ?_ | refine LeO.bind ?_ fun _ => ?_
theorem slices_Contains_string_string.calls (k : Nat) (A0 : Option Addr) (c0 : Nat) (l0 : List ByteArray) (a1 : ByteArray) (r : Bool) (w : World) (g3 : Kd.C Kd.string w A0 l0.length l0) (g4 : l0.length ≤ c0) (h : slices_Contains_string_string.f k l0 a1 = some r) :
  Calls Try.prog 105 #[.slice A0 l0.length c0, .string a1] w fun e w' => e = .returned (.bool r) ∧ Drawn0 w w' := by
 have j2 := Aside0.mk g3
 have n1 := Aside0.mk g4
 clear g3 g4
 have H : ((slices_Index_string_string.f k l0 a1).bind fun e3 => (some (decide (e3 ≥ 0)))) = some r := h
 clear h
 obtain ⟨e3, A3, H⟩ := obA H
 obtain rfl := Option.some.inj H
 go_enter Try.func105, Try.ntmps105
 go_wp2_with (first | ((with_reducible refine gate_callee (f := 118) rfl ?_); refine gl 7 Try.func118 #[.slice A0 l0.length c0, .string a1] (h := ?_); (with_reducible refine (slices_Index_string_string.calls _ _ _ _ _ _ _ ?e5 ?e4 A3.out).mono ?_); (case e5 => repeat (first | exact j2.out | (with_reducible refine Kd.C_alloc ?_ _) | (with_reducible refine Kd.C_drewN ?_ _) | (with_reducible refine Kd.C_drew ?_))); (case e4 => exact n1.out); rintro e w' ⟨rfl, ⟨nd, rfl⟩⟩; refine ⟨_, rfl, ?_⟩))
 go_ret
 exact ⟨by first | rfl | (simp; done) | (simp [*]; done), drw⟩
end Go.Proofs.Ytfpianecohobjaa.P
