/- StatisticOf: a part of its proof. No condition. -/
import Derived.Test.YtfpianecohobjaaVPx0
import Derived.Test.YtfpianecohobjaaVPx2
import Derived.Test.YtfpianecohobjaaVPx3
import Derived.Test.YtfpianecohobjaaVPx4
import Derived.Test.YtfpianecohobjaaVH0
namespace Go.Proofs.Ytfpianecohobjaa.P
open Go.RowKit Go.Proofs.YtfpianecohobjaaW.PrintWords Go.Proofs.YtfpianecohobjaaW.PrintLast Go.Proofs.YtfpianecohobjaaW.PrintMore
set_option maxHeartbeats 8000000
set_option maxRecDepth 100000
set_option linter.unusedVariables false
set_option linter.unusedSimpArgs false
mutual
def types_node.j0 : Nat → Int → Bool → List (S68) → List (S71) → ByteArray → Int → Bool → List (S77) → Option (Int)
 | 0, _, _, _, _, _, _, _, _ => none
 | k + 1, x1, D1, o8, o7, w4, w3, w2, g4 => if D1 = true then (some 6) else (if (g4.length : Int) > 4 then (some 3) else ((types_attrs.f k o8 o7 x1).bind fun a5 => (if (a5.length : Int) > 8 then (some 3) else (types_node.l0 k a5 (wrap64 ((a5.length : Int) - (g4.length : Int)))))))
def types_node.l0 : Nat → List (S77) → Int → Option (Int)
 | 0, _, _ => none
 | k + 1, x6, x7 => if x7 < (x6.length : Int) then (if 0 ≤ x7 then (if x7 ≤ (x6.length : Int) then ((types_attribute.f k ((rd_T77 x6 x7).f0) ((rd_T77 x6 x7).f1) ((rd_T77 x6 x7).f2) ((rd_T77 x6 x7).f3) (x6.take (x7 : Int).toNat)).bind fun e1 => (if e1 = 0 then (types_node.l0 k x6 (wrap64 (x7 + 1))) else (some e1))) else (none)) else (none)) else (some 0)
end
def types_node.f (k : Nat) (a3 : List (S68)) (a9 : List (S71)) (a1 : Int) : Option (Int) := if 0 ≤ a1 then (if a1 < (a3.length : Int) then ((token_IsName.f k ((rd_T68 a3 a1).f0)).bind fun g2 => (if g2 = true then (if a1 ≤ (a3.length : Int) then ((any_node.f (a3.take (a1 : Int).toNat) ((rd_T68 a3 a1).f0)).bind fun e2 => (if e2 = true then (some 5) else (if ((rd_T68 a3 a1).f1) < (-1) then (types_node.j0 k a1 true a3 a9 ((rd_T68 a3 a1).f0) ((rd_T68 a3 a1).f1) ((rd_T68 a3 a1).f2) ((rd_T68 a3 a1).f3)) else (types_node.j0 k a1 (decide (((rd_T68 a3 a1).f1) ≥ a1)) a3 a9 ((rd_T68 a3 a1).f0) ((rd_T68 a3 a1).f1) ((rd_T68 a3 a1).f2) ((rd_T68 a3 a1).f3))))) else (none)) else (some 2))) else (none)) else (none)
theorem types_node.mono_l : ∀ k, (∀ y0 y1 y2 y3 y4 y5 y6 y7, LeO (types_node.j0 k y0 y1 y2 y3 y4 y5 y6 y7) (types_node.j0 (k + 1) y0 y1 y2 y3 y4 y5 y6 y7)) ∧ (∀ y0 y1, LeO (types_node.l0 k y0 y1) (types_node.l0 (k + 1) y0 y1))
 | 0 => by refine ⟨?_, ?_⟩ <;> (intros; intro r h; simp [types_node.j0, types_node.l0] at h)
 | k + 1 => by
  obtain ⟨ih0, ih1⟩ := types_node.mono_l k
  refine ⟨?_, ?_⟩ <;> (intros; first | unfold types_node.j0 | unfold types_node.l0)
  all_goals with_reducible repeat' first | exact ih0 .. | exact ih1 .. | exact token_IsName.mono .. | exact types_attribute.mono .. | exact types_attrs.mono .. | exact LeO.refl _ | exact LeO.none _ | refine LeO.ite ?_ ?_ | refine LeO.bind ?_ fun _ => ?_
theorem types_node.mono : ∀ a0 a1 a2 k, LeO (types_node.f k a0 a1 a2) (types_node.f (k + 1) a0 a1 a2) := by
 intro a0 a1 a2 k
 obtain ⟨ih0, ih1⟩ := types_node.mono_l k
 unfold types_node.f
 with_reducible repeat' first | exact ih0 .. | exact ih1 .. | exact token_IsName.mono .. | exact types_attribute.mono .. | exact types_attrs.mono .. | exact LeO.refl _ | exact LeO.none _ | refine LeO.ite ?_ ?_ | refine LeO.bind ?_ fun _ => ?_
def types_node.T16 : Bool × List (List Nat × List Nat) := (true, [([], []), ([], []), ([0, 1], [0, 1]), ([2], [2]), ([], []), ([], []), ([4, 5], [4, 5]), ([3, 6], [3, 6]), ([7, 7, 0, 1, 2, 3, 4, 5, 6, 7], [7])])
def types_node.B16 : List Nat := [0, 0, 3, 7, 0, 0, 48, 127, 255]
theorem types_node.tab16 : rtab .any (opsOf Try.f39 16) = types_node.T16 := by kernel_rfl
theorem types_node.bits16 : waitsOk types_node.T16.2 types_node.B16 = true := by kernel_rfl
theorem types_node.calls (k : Nat) (j3 : Option Addr) (b0 : Nat) (a3 : List (S68)) (d1 : Option Addr) (d0 : Nat) (a9 : List (S71)) (a1 : Int) (r : Int) (w : World) (n3 : Kd.C k68 w j3 a3.length a3) (n9 : a3.length ≤ b0) (n2 : Kd.C k71 w d1 a9.length a9) (n8 : a9.length ≤ d0) (h : types_node.f k a3 a9 a1 = some r) :
  Calls Try.prog 39 #[.agg #[.slice j3 a3.length b0, .slice d1 a9.length d0], .int .i64 a1] w fun e w' => e = .returned (.int .i64 r) ∧ Below w.heap.size w w' := by
 have hu25 := Try.underlying25
 have hu68 := Try.underlying68
 have hu77 := Try.underlying77
 have e8 := Aside0.mk n3
 have j2 := Aside0.mk n9
 clear n3 n9
 have t7 := Aside0.mk n2
 have t9 := Aside0.mk n8
 clear n2 n8
 have HB := Aside0.mk (Below.refl w.heap.size w)
 have H : (if 0 ≤ a1 then (if a1 < (a3.length : Int) then ((token_IsName.f k ((rd_T68 a3 a1).f0)).bind fun g2 => (if g2 = true then (if a1 ≤ (a3.length : Int) then ((any_node.f (a3.take (a1 : Int).toNat) ((rd_T68 a3 a1).f0)).bind fun e2 => (if e2 = true then (some 5) else (if ((rd_T68 a3 a1).f1) < (-1) then (types_node.j0 k a1 true a3 a9 ((rd_T68 a3 a1).f0) ((rd_T68 a3 a1).f1) ((rd_T68 a3 a1).f2) ((rd_T68 a3 a1).f3)) else (types_node.j0 k a1 (decide (((rd_T68 a3 a1).f1) ≥ a1)) a3 a9 ((rd_T68 a3 a1).f0) ((rd_T68 a3 a1).f1) ((rd_T68 a3 a1).f2) ((rd_T68 a3 a1).f3))))) else (none)) else (some 2))) else (none)) else (none)) = some r := h
 clear h
 obtain ⟨c3, H⟩ := itn H
 have w0 := decide_eq_true c3
 clear c3
 obtain ⟨c4, H⟩ := itn H
 have v9 := decide_eq_true c4
 clear c4
 obtain ⟨g2, A5, H⟩ := obA H
 by_cases c6 : g2 = true
 subst c6
 replace H := ift H
 have v8 := eq_true (odt : 0 ≤ a1)
 obtain ⟨c8, H⟩ := itn H
 have v6 := eq_true c8
 have v5 := decide_eq_true c8
 clear c8
 obtain ⟨d5, e5⟩ : ∃ y_ : List (S68), y_ = (a3.take (a1 : Int).toNat) := ⟨_, rfl⟩
 replace H : ((any_node.f d5 ((rd_T68 a3 a1).f0)).bind fun e2 => (if e2 = true then (some 5) else (if ((rd_T68 a3 a1).f1) < (-1) then (types_node.j0 k a1 true a3 a9 ((rd_T68 a3 a1).f0) ((rd_T68 a3 a1).f1) ((rd_T68 a3 a1).f2) ((rd_T68 a3 a1).f3)) else (types_node.j0 k a1 (decide (((rd_T68 a3 a1).f1) ≥ a1)) a3 a9 ((rd_T68 a3 a1).f0) ((rd_T68 a3 a1).f1) ((rd_T68 a3 a1).f2) ((rd_T68 a3 a1).f3))))) = some r := by first | (rw [e5]; with_reducible exact H) | (have H2_ := (Option.bind_some _ _).symm.trans H; rw [e5]; with_reducible exact H2_) | (have H2_ := (Option.bind_some _ _).symm.trans H; with_reducible exact H2_) | with_reducible exact H | (rw [e5]; exact H) | exact H
 have g1 := Aside0.mk e5
 clear e5
 obtain ⟨e2, A9, H⟩ := obA H
 by_cases j5 : e2 = true
 rotate_left
 ·replace j5 := Bool.eq_false_iff.mpr j5
  subst j5
  replace H := iff_ H
  have n0 := Aside0.mk H
  clear H
  go_enter Try.func39, Try.ntmps39
  go_upto_region 6 with (first | ((with_reducible refine gate_dst (N := 2) rfl ?_); refine be 2 #[.slice j3 a3.length b0, .slice d1 a9.length d0] 25 ?_; intro c9 hg F7 hbox hb; have a6 := Aside0.mk (hbox); have o6 := bsz HB hg; replace HB := bstep HB hb; clear hb hbox hg; obtain ⟨s8, s7, q6, q5⟩ := cz2 a6; have d7 : 0 ≤ a1 := odt; have d6 : a1 < (a3.length : Int) := odt; obtain ⟨b1, b7, b6, m5, c2, c1, c0, b9, d3, d4⟩ := at_T68 e8.out a1 d7 d6; cases m5; replace c2 := hxc HB c2; replace c1 := hxc HB c1; replace c0 := hxc HB c0; replace b9 := hxc HB b9; have s9 := Aside0.mk d4; have t0 := Aside0.mk d3; clear d4 d3; replace d7 := eq_true d7; replace d6 := eq_true d6) | ((with_reducible refine gate_dst (N := 5) rfl ?_); refine be 5 #[.string (⟨#[]⟩ : ByteArray), .int .i64 0, .bool false, .slice none 0 0] 68 ?_; intro b2 hg F6 hbox hb; have a7 := Aside0.mk (hbox); have o5 := bsz HB hg; replace HB := bstep HB hb; have b4 := blt a6 hg; have b3 := bgt a6 hg; replace a6 := bkb a6 hb; clear hb hbox hg; have E2 := b3.out; have D7 := b4.out; obtain ⟨s6, s5, s4, r9, q4, q3, q2, q1⟩ := cz4 a7) | ((with_reducible refine gate_callee (f := 59) rfl ?_); refine gl 17 Try.func59 #[.string ((rd_T68 a3 a1).f0)] (h := ?_); (with_reducible refine (token_IsName.calls _ _ _ _ A5.out).mono ?_); rintro e F5 ⟨rfl, hb⟩; refine ⟨_, rfl, ?_⟩; replace a6 := Aside0.mk (blk_below (g := c9) (o := .cells #[.slice (some b1) a3.length b0, .slice d1 a9.length d0] 25 (0, 0)) (bkF a6) hb); replace a7 := Aside0.mk (blk_below (g := b2) (o := .cells #[.string ((rd_T68 a3 a1).f0), .int .i64 ((rd_T68 a3 a1).f1), .bool ((rd_T68 a3 a1).f2), .slice b7 ((rd_T68 a3 a1).f3).length b6] 68 (0, 0)) (bkP a7) hb); replace HB := bstep HB hb; clear hb; obtain ⟨r8, r7, q0, p9⟩ := cz2 a6; have n1 : (a1 : Int) ≤ ((a3.length : Int) : Int) := odt; obtain ⟨i028, n6, _, hsz28, _⟩ := info_parts info68; have hroom28 : a3.length ≤ b0 := j2.out; have hC28 : Kd.C k68 _ (some b1) a3.length a3 := e8.out; have hcut28 := cut_to (P := Try.prog) 22 68 .i64 Try.underlying22 n6 (some b1) a3.length b0 a1 (odt) n1 hroom28; have m3 := Kd.C_take (m := (a1 : Int).toNat) hC28 (by omega); have j9 : d5.length = (a1 : Int).toNat := (by rw [g1.out, List.length_take]; omega); rw [← g1.out] at m3; rw [← j9] at hcut28; have h9 := Aside0.mk m3; have j1 := Aside0.mk (show d5.length ≤ b0 from by omega); clear m3 hC28 hroom28 n6 hsz28; have KY28 := Aside0.mk j9; clear j9; replace n1 := eq_true n1) | ((with_reducible refine gate_callee (f := 60) rfl ?_); refine gl 25 Try.func60 #[.slice (some b1) d5.length b0, .func (.func 61) #[] #[.pointer (some ⟨b2, 0, none⟩)]] (h := ?_); (with_reducible refine (any_node.calls _ _ d5 b2 ((rd_T68 a3 a1).f0) (.int .i64 ((rd_T68 a3 a1).f1)) (.bool ((rd_T68 a3 a1).f2)) (.slice b7 ((rd_T68 a3 a1).f3).length b6) false _ (cb h9 HB) j1.out (bk a7) A9.out).mono ?_); rintro e F4 ⟨rfl, hb⟩; refine ⟨_, rfl, ?_⟩; replace a6 := bkb a6 hb; replace a7 := bkb a7 hb; replace HB := bstep HB hb; clear hb))
  (try simp only [Act.put, List.setIfInBounds_toArray, List.set_cons_zero, List.set_cons_succ])
  go_cut [26] (fun D2 wc => ∃ (kq : Nat) (e3 : Bool), D2 = .bool e3 ∧ Aside0 (types_node.j0 kq a1 e3 a3 a9 ((rd_T68 a3 a1).f0) ((rd_T68 a3 a1).f1) ((rd_T68 a3 a1).f2) ((rd_T68 a3 a1).f3) = some r) ∧ Aside0 (kq ≤ k) ∧ Aside0 (wc.heap[c9]? = some (.cells #[(.slice (some b1) a3.length b0), (.slice d1 a9.length d0)] 25 (0, 0))) ∧ Aside0 (wc.heap[b2]? = some (.cells #[.string ((rd_T68 a3 a1).f0), .int .i64 ((rd_T68 a3 a1).f1), .bool ((rd_T68 a3 a1).f2), (.slice b7 ((rd_T68 a3 a1).f3).length b6)] 68 (0, 0))) ∧ Aside0 (Below w.heap.size w wc))
  case first =>
   have H := n0.out
   clear n0
   by_cases h1 : ((rd_T68 a3 a1).f1) < (-1)
   rw [if_pos h1] at H
   have e6 := decide_eq_true h1
   clear h1
   (first | rw [e6] | (simp only [i64_w, i32_w]; rw [e6]) | skip)
   have H' := Aside0.mk H
   clear H
   rotate_left
   rw [if_neg h1] at H
   have e6 := decide_eq_false h1
   clear h1
   (first | rw [e6] | (simp only [i64_w, i32_w]; rw [e6]) | skip)
   have H' := Aside0.mk H
   clear H
   all_goals
    have E1 := b3.out
    have D6 := b4.out
    obtain ⟨C2, C1, C0, A8, x4, x2, x0, w9⟩ := cz4 a7
    go_wp2
    go_meet
    case rel => exact ⟨_, _, eqs, H', ⟨by first | omega | exact Nat.le_refl _⟩, ⟨bk a6⟩, ⟨bk a7⟩, ⟨bb HB⟩⟩
  case rest =>
   clear n0
   try clear w0 v9 c6 v8 v6 v5 j5 n1 s8 s7 s6 s5 s4 r9 r8 r7 q6 q5 q4 q3 q2 q1 q0 p9 c2 c1 c0 b9 d7 d6
   obtain ⟨kq, e3, rfl, HA, t3, a6, a7, HB⟩ := hcut
   cases kq with
   | zero => exact absurd HA.out (by simp [types_node.j0])
   | succ j6 =>
    have H := HA.out
    clear HA
    simp only [types_node.j0] at H
    by_cases j4 : e3 = true
    ·subst j4
     replace H := ift H
     obtain rfl := Option.some.inj H
     go_wp2
     go_ret
     exact ⟨erf, bb HB⟩
    replace j4 := Bool.eq_false_iff.mpr j4
    subst j4
    replace H := iff_ H
    by_cases h0 : (((rd_T68 a3 a1).f3).length : Int) > 4
    ·rw [if_pos h0] at H
     have o3 : decide (4 < (((rd_T68 a3 a1).f3).length : Int)) = true := decide_eq_true h0
     have o2 : decide (4 < ((rd_T68 a3 a1).f3).length) = true := decide_eq_true (by omega)
     clear h0
     obtain rfl := Option.some.inj H
     have E0 := b3.out
     have D5 := b4.out
     obtain ⟨A7, A6, A4, A3, w8, w7, w6, w5⟩ := cz4 a7
     go_wp2
     go_ret
     exact ⟨erf, bb HB⟩
    rw [if_neg h0] at H
    have o3 : decide (4 < (((rd_T68 a3 a1).f3).length : Int)) = false := decide_eq_false h0
    have o2 : decide (4 < ((rd_T68 a3 a1).f3).length) = false := decide_eq_false (by omega)
    clear h0
    obtain ⟨a5, D3, H⟩ := obA H
    by_cases g9 : (a5.length : Int) > 8
    rw [if_pos g9] at H
    have o1 : decide (8 < (a5.length : Int)) = true := decide_eq_true g9
    have o0 : decide (8 < a5.length) = true := decide_eq_true (by omega)
    clear g9
    obtain rfl := Option.some.inj H
    rotate_left
    rw [if_neg g9] at H
    have o1 : decide (8 < (a5.length : Int)) = false := decide_eq_false g9
    have o0 : decide (8 < a5.length) = false := decide_eq_false (by omega)
    clear g9
    have H' := Aside0.mk H
    clear H
    all_goals
     have D9 := b3.out
     have D4 := b4.out
     obtain ⟨r6, r5, r4, r3, p8, p7, p6, p5⟩ := cz4 a7
     obtain ⟨r2, r1, p4, p3⟩ := cz2 a6
     go_wp2_with ((with_reducible refine gate_callee (f := 49) rfl ?_); refine gl 43 Try.func49 #[.agg #[.slice (some b1) a3.length b0, .slice d1 a9.length d0], .int .i64 a1] (h := ?_); (with_reducible refine (types_attrs.calls j6 (fun k_ => k_ < w.heap.size) _ _ a3 _ _ a9 a1 a5 _ (Kd.V_mk j2.out (Kd.F_below (Kd.C_F k68_heap e8.out) (bb HB))) (cb t7 HB) t9.out D3.out).mono ?_); rintro e F3 ⟨E8, rfl, v0, hb⟩; refine ⟨_, rfl, ?_⟩; have o4 := Aside0.mk (Kd.N_lower (Kd.N_mono (ok' := fun k_ => k_ ≠ c9 ∧ k_ ≠ b2) v0 (fun k_ hk_ => ⟨Or.elim hk_ (fun hs_ => fun e_ => Nat.not_le.2 hs_ (by rw [e_]; exact o6.out)) (fun hn_ => (Kd.freshB (g := c9) (o := .cells #[.slice (some b1) a3.length b0, .slice d1 a9.length d0] 25 (0, 0)) (bk a6) k_ hn_)), Or.elim hk_ (fun hs_ => fun e_ => Nat.not_le.2 hs_ (by rw [e_]; exact o5.out)) (fun hn_ => (Kd.freshB (g := b2) (o := .cells #[.string ((rd_T68 a3 a1).f0), .int .i64 ((rd_T68 a3 a1).f1), .bool ((rd_T68 a3 a1).f2), .slice b7 ((rd_T68 a3 a1).f3).length b6] 68 (0, 0)) (bk a7) k_ hn_))⟩)) (below_size (bb HB))); replace a6 := bkb a6 hb; replace a7 := bkb a7 hb; replace HB := bstep HB hb; clear hb v0; obtain ⟨w1, c7, eo45⟩ := Kd.N_slice o4.out; subst eo45; obtain ⟨r0, q9, q8, q7, p2, p1, p0, o9⟩ := cz4 a7)
    ·go_loopg [7] j6 (fun kq v7 w' => ∃ (a4 : Int), v7 = .int .i64 a4 ∧ Aside0 (types_node.l0 kq a5 a4 = some r) ∧ Aside0 (kq ≤ j6) ∧ Aside0 (Kd.N k77 77 w' w.heap.size (fun k_ => k_ ≠ c9 ∧ k_ ≠ b2) (.slice w1 a5.length c7) a5) ∧ Aside0 (w'.heap[c9]? = some (.cells #[(.slice (some b1) a3.length b0), (.slice d1 a9.length d0)] 25 (0, 0))) ∧ Aside0 (w'.heap[b2]? = some (.cells #[.string ((rd_T68 a3 a1).f0), .int .i64 ((rd_T68 a3 a1).f1), .bool ((rd_T68 a3 a1).f2), (.slice b7 ((rd_T68 a3 a1).f3).length b6)] 68 (0, 0))) ∧ Aside0 (Below w.heap.size w w'))
     case atStart => exact ⟨(wrap64 ((a5.length : Int) - (((rd_T68 a3 a1).f3).length : Int))), eqs, H', ⟨Nat.le_refl _⟩, ⟨kN o4⟩, ⟨bk a6⟩, ⟨bk a7⟩, ⟨bb HB⟩⟩
     case round =>
      clear H'
      try clear j4 o3 o2 o1 o0 r6 r5 r4 r3 r2 r1 r0 q9 q8 q7 p8 p7 p6 p5 p4 p3 p2 p1 p0 o9
      obtain ⟨a4, rfl, HA, v2, HO_6, a6, a7, HB⟩ := hrel
      cases gk with
      | zero => exact absurd HA.out (by simp [types_node.l0])
      | succ k2 =>
       have H := HA.out
       clear HA
       simp only [types_node.l0] at H
       by_cases g8 : a4 < (a5.length : Int)
       rotate_left
       ·rw [if_neg g8] at H
        have t6 := decide_eq_false g8
        clear g8
        obtain rfl := Option.some.inj H
        go_wp2
        go_ret
        exact ⟨erf, bb HB⟩
       rw [if_pos g8] at H
       have t6 := decide_eq_true g8
       clear g8
       obtain ⟨v1, H⟩ := itn H
       have E7 := decide_eq_true v1
       clear v1
       have E6 := eq_true (odt : 0 ≤ a4)
       obtain ⟨t2, H⟩ := itn H
       have E5 := eq_true t2
       have E4 := decide_eq_true t2
       clear t2
       obtain ⟨c5, e4⟩ : ∃ y_ : List (S77), y_ = (a5.take (a4 : Int).toNat) := ⟨_, rfl⟩
       replace H : ((types_attribute.f k2 ((rd_T77 a5 a4).f0) ((rd_T77 a5 a4).f1) ((rd_T77 a5 a4).f2) ((rd_T77 a5 a4).f3) c5).bind fun e1 => (if e1 = 0 then (types_node.l0 k2 a5 (wrap64 (a4 + 1))) else (some e1))) = some r := by first | (rw [e4]; with_reducible exact H) | (have H2_ := (Option.bind_some _ _).symm.trans H; rw [e4]; with_reducible exact H2_) | (have H2_ := (Option.bind_some _ _).symm.trans H; with_reducible exact H2_) | with_reducible exact H | (rw [e4]; exact H) | exact H
       have g0 := Aside0.mk e4
       clear e4
       obtain ⟨e1, v3, H⟩ := obA H
       by_cases g3 : e1 = 0
       rw [if_pos g3] at H
       have t5 := beq_iff_eq.mpr g3
       have t4 := bne_eq_false_iff_eq.mpr g3
       clear g3
       have H' := Aside0.mk H
       clear H
       rotate_left
       rw [if_neg g3] at H
       have t5 := beq_eq_false_iff_ne.mpr g3
       have t4 := bne_iff_ne.mpr g3
       obtain rfl := Option.some.inj H
       all_goals
        try go_wp2
        replace HO_6 := Aside0.mk (Kd.N_drew HO_6.out)
        replace a6 := Aside0.mk (blk_drew a6.out)
        replace a7 := Aside0.mk (blk_drew a7.out)
        replace HB := Aside0.mk (below_drew1 HB.out)
        have h8 : 0 ≤ a4 := odt
        have h7 : a4 < (a5.length : Int) := odt
        obtain ⟨a8, e9, e7, v4, e0, d9, d8, d2, g6, g7⟩ := at_T77 (Kd.N_reads' HO_6.out).2.2 a4 h8 h7
        cases v4
        obtain ⟨ce157, hce157, hMe157, hcc157⟩ := Kd.N_get HO_6.out z77 a4 h8 (by first | exact h7 | exact odt | (have e_ := (Kd.N_reads' HO_6.out).1; omega))
        obtain ⟨ua157_3, uc157_3, rfl, ul157_3, ge157_3⟩ := k77_openF hMe157
        have hv157_3 := hcc157 3 _ rfl
        rw [add_field _ _ 3 (by omega)] at hv157_3
        replace hv157_3 := Option.some.inj (hv157_3.symm.trans d2)
        injection hv157_3 with hva_ hvn_ hvc_
        rw [hva_] at ge157_3
        rw [hvc_] at ul157_3
        have HL157_3 := Aside0.mk (show Kd.V Kd.string 9 _ w.heap.size _ _ ((rd_T77 a5 a4).f3) from Kd.V_mk ul157_3 ge157_3)
        clear hva_ hvn_ hvc_ ge157_3 ul157_3 hcc157 hce157
        have b5 := Aside0.mk g7
        have h2 := Aside0.mk g6
        clear g7 g6
        replace h8 := eq_true h8
        replace h7 := eq_true h7
        have g5 : (a4 : Int) ≤ ((a5.length : Int) : Int) := odt
       ·obtain ⟨i062, n4, _, hsz62, _⟩ := info_parts info77
        have hroom62 : a5.length ≤ c7 := (Kd.N_reads' HO_6.out).2.1
        have hC62 : Kd.F k77 _ _ (some a8) a5.length a5 := (Kd.V_at (base := w.heap.size) (Kd.N_V HO_6.out)).2.2
        have hcut62 := cut_to (P := Try.prog) 45 77 .i64 Try.underlying45 n4 (some a8) a5.length c7 a4 (odt) g5 hroom62
        have m1 := Kd.F_take (m := (a4 : Int).toNat) hC62 (by omega)
        have j7 : c5.length = (a4 : Int).toNat := (by rw [g0.out, List.length_take]; omega)
        rw [← g0.out] at m1
        rw [← j7] at hcut62
        have b8 := Aside0.mk (show Kd.V k77 77 _ w.heap.size _ (.slice (some a8) c5.length c7) c5 from Kd.V_mk (by omega) m1)
        have t8 := Aside0.mk (show c5.length ≤ c7 from by omega)
        clear m1 hC62 hroom62 n4 hsz62
        have KY62 := Aside0.mk j7
        clear j7
        replace g5 := eq_true g5
        refine start_ (n := 9) (S := fun w' => w'.cell? (a8.add ((a4).toNat * 4)) = some (.string ((rd_T77 a5 a4).f0)) ∧ w'.cell? ⟨(a8.add ((a4).toNat * 4)).block, (a8.add ((a4).toNat * 4)).off + 1, none⟩ = some (.int .i64 ((rd_T77 a5 a4).f1)) ∧ w'.cell? ⟨(a8.add ((a4).toNat * 4)).block, (a8.add ((a4).toNat * 4)).off + 2, none⟩ = some (.int .i64 ((rd_T77 a5 a4).f2)) ∧ w'.cell? ⟨(a8.add ((a4).toNat * 4)).block, (a8.add ((a4).toNat * 4)).off + 3, none⟩ = some (.slice e9 ((rd_T77 a5 a4).f3).length e7)) (ds := []) #[false, false, false, false, false, false, false, false, false] (by kernel_rfl) rfl rfl ⟨e0, d9, d8, d2⟩ (fun hHeld => ?_); refine with_tabW types_node.tab16 types_node.bits16 (fun HT_ HW_ => ?_)
        generalize wr.drew = F0 at HO_6 a6 a7 HB HL157_3 b8 b5 e0 d9 d8 d2 hHeld ⊢
        refine pu 0 59 (bits 9 0x1) HT_ (h := ?_)
        refine pu 1 60 (bits 9 0x3) HT_ (h := ?_)
        refine pu 2 61 (bits 9 0x7) HT_ (h := ?_)
        refine pu 4 63 (bits 9 0x17) HT_ (h := ?_)
        refine pu 5 64 (bits 9 0x37) HT_ (h := ?_)
        refine pu 6 65 (bits 9 0x77) HT_ (h := ?_)
        refine tk 3 62 (bits 9 0x7f) HT_ HW_ hHeld (hy := by rintro w' ⟨s0, s1, s2, s3⟩; go_simp; with_reducible rfl) (h := ?_)
        refine one_ (i := 7) (N := some 66) #[true, true, true, true, true, true, true, true, false] rfl rfl (one_of HT_.out (by kernel_rfl)) (by decide) (fun K hK => ?_)
        refine goes_ Try.func62 (by kernel_rfl) rfl #[.agg #[.string ((rd_T77 a5 a4).f0), .int .i64 ((rd_T77 a5 a4).f1), .int .i64 ((rd_T77 a5 a4).f2), .slice e9 ((rd_T77 a5 a4).f3).length e7], .slice (some a8) c5.length c7] (by rfl) rfl rfl (by (try simp only [List.map_toArray, List.map_cons, List.map_nil]); first | done | rfl | (simp only [List.length_drop, List.length_take]; rfl)) ?_
        with_reducible refine (types_attribute.calls _ _ _ _ _ _ _ _ _ _ _ _ ?h6 ?h5 ?h4 ?h3 v3.out).mono ?_
        (case h6 => repeat (first | exact (kC b5) | (with_reducible refine Kd.C_alloc ?_ _) | (with_reducible refine Kd.C_drewN ?_ _) | (with_reducible refine Kd.C_drew ?_)))
        (case h5 => exact h2.out)
        (case h4 => repeat (first | exact (Kd.V_reads' b8.out).2.2 | (with_reducible refine Kd.C_alloc ?_ _) | (with_reducible refine Kd.C_drewN ?_ _) | (with_reducible refine Kd.C_drew ?_)))
        (case h3 => exact (Kd.V_reads' b8.out).2.1)
        rintro e E9 ⟨rfl, hb⟩
        have m9 := (hb.cell (World.block_lt_of_cell? _ _ (hHeld.1))).trans (hHeld.1)
        have m8 := (hb.cell (World.block_lt_of_cell? _ _ (hHeld.2.1))).trans (hHeld.2.1)
        have m7 := (hb.cell (World.block_lt_of_cell? _ _ (hHeld.2.2.1))).trans (hHeld.2.2.1)
        have m6 := (hb.cell (World.block_lt_of_cell? _ _ (hHeld.2.2.2))).trans (hHeld.2.2.2)
        refine ⟨_, rfl, ?_⟩
        replace HO_6 := kNb HO_6 hb
        replace HL157_3 := kVb HL157_3 hb
        replace b8 := kVb b8 hb
        replace a6 := bkb a6 hb
        replace a7 := bkb a7 hb
        replace b5 := kCb b5 hb
        replace HB := bstep HB hb
        (try clear hb)
        (try clear hb2)
        (try clear hk)
        (try clear hi)
        refine hK.out _ _ ⟨m9, m8, m7, m6⟩ (fun hHeld => ?_)
        clear hK K
        refine norm_ (a' := ?_) ?_ ?_
        rotate_left
        ·show Act.put _ (some 66) _ = _
         simp only [Act.put, List.setIfInBounds_toArray, List.set_cons_zero, List.set_cons_succ, i64_w, i32_w]
         rfl
        refine pu 8 8 (bits 9 0x1ff) HT_ (h := ?_)
        refine done_ (done_of HT_.out (by kernel_rfl)) ?_
        try go_wp2
        go_ret
        exact ⟨erf, bb HB⟩
       ·obtain ⟨i059, n5, _, hsz59, _⟩ := info_parts info77
        have hroom59 : a5.length ≤ c7 := (Kd.N_reads' HO_6.out).2.1
        have hC59 : Kd.F k77 _ _ (some a8) a5.length a5 := (Kd.V_at (base := w.heap.size) (Kd.N_V HO_6.out)).2.2
        have hcut59 := cut_to (P := Try.prog) 45 77 .i64 Try.underlying45 n5 (some a8) a5.length c7 a4 (odt) g5 hroom59
        have m2 := Kd.F_take (m := (a4 : Int).toNat) hC59 (by omega)
        have j8 : c5.length = (a4 : Int).toNat := (by rw [g0.out, List.length_take]; omega)
        rw [← g0.out] at m2
        rw [← j8] at hcut59
        have b8 := Aside0.mk (show Kd.V k77 77 _ w.heap.size _ (.slice (some a8) c5.length c7) c5 from Kd.V_mk (by omega) m2)
        have t8 := Aside0.mk (show c5.length ≤ c7 from by omega)
        clear m2 hC59 hroom59 n5 hsz59
        have KY59 := Aside0.mk j8
        clear j8
        replace g5 := eq_true g5
        refine start_ (n := 9) (S := fun w' => w'.cell? (a8.add ((a4).toNat * 4)) = some (.string ((rd_T77 a5 a4).f0)) ∧ w'.cell? ⟨(a8.add ((a4).toNat * 4)).block, (a8.add ((a4).toNat * 4)).off + 1, none⟩ = some (.int .i64 ((rd_T77 a5 a4).f1)) ∧ w'.cell? ⟨(a8.add ((a4).toNat * 4)).block, (a8.add ((a4).toNat * 4)).off + 2, none⟩ = some (.int .i64 ((rd_T77 a5 a4).f2)) ∧ w'.cell? ⟨(a8.add ((a4).toNat * 4)).block, (a8.add ((a4).toNat * 4)).off + 3, none⟩ = some (.slice e9 ((rd_T77 a5 a4).f3).length e7)) (ds := []) #[false, false, false, false, false, false, false, false, false] (by kernel_rfl) rfl rfl ⟨e0, d9, d8, d2⟩ (fun hHeld => ?_); refine with_tabW types_node.tab16 types_node.bits16 (fun HT_ HW_ => ?_)
        generalize wr.drew = F2 at HO_6 a6 a7 HB HL157_3 b8 b5 e0 d9 d8 d2 hHeld ⊢
        refine pu 0 59 (bits 9 0x1) HT_ (h := ?_)
        refine pu 1 60 (bits 9 0x3) HT_ (h := ?_)
        refine pu 2 61 (bits 9 0x7) HT_ (h := ?_)
        refine pu 4 63 (bits 9 0x17) HT_ (h := ?_)
        refine pu 5 64 (bits 9 0x37) HT_ (h := ?_)
        refine pu 6 65 (bits 9 0x77) HT_ (h := ?_)
        refine tk 3 62 (bits 9 0x7f) HT_ HW_ hHeld (hy := by rintro w' ⟨s0, s1, s2, s3⟩; go_simp; with_reducible rfl) (h := ?_)
        refine one_ (i := 7) (N := some 66) #[true, true, true, true, true, true, true, true, false] rfl rfl (one_of HT_.out (by kernel_rfl)) (by decide) (fun K hK => ?_)
        refine goes_ Try.func62 (by kernel_rfl) rfl #[.agg #[.string ((rd_T77 a5 a4).f0), .int .i64 ((rd_T77 a5 a4).f1), .int .i64 ((rd_T77 a5 a4).f2), .slice e9 ((rd_T77 a5 a4).f3).length e7], .slice (some a8) c5.length c7] (by rfl) rfl rfl (by (try simp only [List.map_toArray, List.map_cons, List.map_nil]); first | done | rfl | (simp only [List.length_drop, List.length_take]; rfl)) ?_
        with_reducible refine (types_attribute.calls _ _ _ _ _ _ _ _ _ _ _ _ ?h6 ?h5 ?h4 ?h3 v3.out).mono ?_
        (case h6 => repeat (first | exact (kC b5) | (with_reducible refine Kd.C_alloc ?_ _) | (with_reducible refine Kd.C_drewN ?_ _) | (with_reducible refine Kd.C_drew ?_)))
        (case h5 => exact h2.out)
        (case h4 => repeat (first | exact (Kd.V_reads' b8.out).2.2 | (with_reducible refine Kd.C_alloc ?_ _) | (with_reducible refine Kd.C_drewN ?_ _) | (with_reducible refine Kd.C_drew ?_)))
        (case h3 => exact (Kd.V_reads' b8.out).2.1)
        rintro e F1 ⟨rfl, hb⟩
        have m9 := (hb.cell (World.block_lt_of_cell? _ _ (hHeld.1))).trans (hHeld.1)
        have m8 := (hb.cell (World.block_lt_of_cell? _ _ (hHeld.2.1))).trans (hHeld.2.1)
        have m7 := (hb.cell (World.block_lt_of_cell? _ _ (hHeld.2.2.1))).trans (hHeld.2.2.1)
        have m6 := (hb.cell (World.block_lt_of_cell? _ _ (hHeld.2.2.2))).trans (hHeld.2.2.2)
        refine ⟨_, rfl, ?_⟩
        replace HO_6 := kNb HO_6 hb
        replace a6 := bkb a6 hb
        replace a7 := bkb a7 hb
        replace b5 := kCb b5 hb
        replace HB := bstep HB hb
        (try clear hb)
        (try clear hb2)
        (try clear hk)
        (try clear hi)
        refine hK.out _ _ ⟨m9, m8, m7, m6⟩ (fun hHeld => ?_)
        clear hK K
        refine norm_ (a' := ?_) ?_ ?_
        rotate_left
        ·show Act.put _ (some 66) _ = _
         simp only [Act.put, List.setIfInBounds_toArray, List.set_cons_zero, List.set_cons_succ, i64_w, i32_w]
         rfl
        refine pu 8 8 (bits 9 0x1ff) HT_ (h := ?_)
        refine done_ (done_of HT_.out (by kernel_rfl)) ?_
        try go_wp2
        go_roundg k2
        case measure => have := t3.out; have := v2.out; omega
        case rel => exact ⟨(wrap64 (a4 + 1)), eqs, H', ⟨by have := t3.out; have := v2.out; omega⟩, ⟨kN HO_6⟩, ⟨bk a6⟩, ⟨bk a7⟩, ⟨bb HB⟩⟩
    ·go_ret
     exact ⟨erf, bb HB⟩
 rotate_left
 subst j5
 replace H := ift H
 obtain rfl := Option.some.inj H
 rotate_left
 replace c6 := Bool.eq_false_iff.mpr c6
 subst c6
 replace H := iff_ H
 obtain rfl := Option.some.inj H
 all_goals
  go_enter Try.func39, Try.ntmps39
  go_wp2_with (first | ((with_reducible refine gate_dst (N := 2) rfl ?_); refine be 2 #[.slice j3 a3.length b0, .slice d1 a9.length d0] 25 ?_; intro c9 hg G1 hbox hb; have a6 := Aside0.mk (hbox); have o6 := bsz HB hg; replace HB := bstep HB hb; clear hb hbox hg; obtain ⟨D0, C9, A2, A1⟩ := cz2 a6; have d7 : 0 ≤ a1 := odt; have d6 : a1 < (a3.length : Int) := odt; obtain ⟨b1, b7, b6, m5, c2, c1, c0, b9, d3, d4⟩ := at_T68 e8.out a1 d7 d6; cases m5; replace c2 := hxc HB c2; replace c1 := hxc HB c1; replace c0 := hxc HB c0; replace b9 := hxc HB b9; have s9 := Aside0.mk d4; have t0 := Aside0.mk d3; clear d4 d3; replace d7 := eq_true d7; replace d6 := eq_true d6) | ((with_reducible refine gate_dst (N := 5) rfl ?_); refine be 5 #[.string (⟨#[]⟩ : ByteArray), .int .i64 0, .bool false, .slice none 0 0] 68 ?_; intro b2 hg G0 hbox hb; have a7 := Aside0.mk (hbox); have o5 := bsz HB hg; replace HB := bstep HB hb; have b4 := blt a6 hg; have b3 := bgt a6 hg; replace a6 := bkb a6 hb; clear hb hbox hg; have E3 := b3.out; have D8 := b4.out; obtain ⟨C8, C7, C6, C5, A0, y9, y8, x9⟩ := cz4 a7) | ((with_reducible refine gate_callee (f := 59) rfl ?_); refine gl 17 Try.func59 #[.string ((rd_T68 a3 a1).f0)] (h := ?_); (with_reducible refine (token_IsName.calls _ _ _ _ A5.out).mono ?_); rintro e F9 ⟨rfl, hb⟩; refine ⟨_, rfl, ?_⟩; replace a6 := Aside0.mk (blk_below (g := c9) (o := .cells #[.slice (some b1) a3.length b0, .slice d1 a9.length d0] 25 (0, 0)) (bkF a6) hb); replace a7 := Aside0.mk (blk_below (g := b2) (o := .cells #[.string ((rd_T68 a3 a1).f0), .int .i64 ((rd_T68 a3 a1).f1), .bool ((rd_T68 a3 a1).f2), .slice b7 ((rd_T68 a3 a1).f3).length b6] 68 (0, 0)) (bkP a7) hb); replace HB := bstep HB hb; clear hb; obtain ⟨C4, C3, x8, x5⟩ := cz2 a6; (try (have t1 : (a1 : Int) ≤ ((a3.length : Int) : Int) := odt; obtain ⟨i018, n7, _, hsz18, _⟩ := info_parts info68; have hroom18 : a3.length ≤ b0 := j2.out; have hC18 : Kd.C k68 _ (some b1) a3.length a3 := e8.out; have hcut18 := cut_to (P := Try.prog) 22 68 .i64 Try.underlying22 n7 (some b1) a3.length b0 a1 (odt) t1 hroom18; have m4 := Kd.C_take (m := (a1 : Int).toNat) hC18 (by omega); have m0 : d5.length = (a1 : Int).toNat := (by rw [g1.out, List.length_take]; omega); rw [← g1.out] at m4; rw [← m0] at hcut18; have h9 := Aside0.mk m4; have j1 := Aside0.mk (show d5.length ≤ b0 from by omega); clear m4 hC18 hroom18 n7 hsz18; have KY18 := Aside0.mk m0; clear m0; replace t1 := eq_true t1))) | ((with_reducible refine gate_callee (f := 60) rfl ?_); refine gl 25 Try.func60 #[.slice (some b1) d5.length b0, .func (.func 61) #[] #[.pointer (some ⟨b2, 0, none⟩)]] (h := ?_); (with_reducible refine (any_node.calls _ _ d5 b2 ((rd_T68 a3 a1).f0) (.int .i64 ((rd_T68 a3 a1).f1)) (.bool ((rd_T68 a3 a1).f2)) (.slice b7 ((rd_T68 a3 a1).f3).length b6) true _ (cb h9 HB) j1.out (bk a7) A9.out).mono ?_); rintro e F8 ⟨rfl, hb⟩; refine ⟨_, rfl, ?_⟩; replace a6 := bkb a6 hb; replace a7 := bkb a7 hb; replace HB := bstep HB hb; clear hb))
  go_ret
  exact ⟨erf, bb HB⟩
end Go.Proofs.Ytfpianecohobjaa.P
