/- StatisticOf: a part of its proof. No condition. -/
import Derived.Test.YtfpianecohobjaaGreatOPx0
import Derived.Test.YtfpianecohobjaaGreatOMc
import Derived.Test.YtfpianecohobjaaGreatOH0
namespace Go.Proofs.YtfpianecohobjaaGreat.P
open Go.RowKit Go.Proofs.YtfpianecohobjaaGreatW.PrintWords Go.Proofs.YtfpianecohobjaaGreatW.PrintLast Go.Proofs.YtfpianecohobjaaGreatW.PrintMore
set_option maxHeartbeats 8000000
set_option maxRecDepth 100000
set_option linter.unusedVariables false
set_option linter.unusedSimpArgs false
mutual
def types_node.j0 : Nat → Int → Bool → List (S96) → List (S101) → ByteArray → Int → Bool → List (S99) → Option (Int)
 | 0, _, _, _, _, _, _, _, _ => none
 | k + 1, x1, D1, o8, o7, w4, w3, w2, g4 => if D1 = true then (some 6) else (if (g4.length : Int) > 4 then (some 3) else ((types_attrs.f k o8 o7 x1).bind fun a5 => (if (a5.length : Int) > 8 then (some 3) else (types_node.l0 k a5 (wrap64 ((a5.length : Int) - (g4.length : Int)))))))
def types_node.l0 : Nat → List (S99) → Int → Option (Int)
 | 0, _, _ => none
 | k + 1, x6, x7 => if x7 < (x6.length : Int) then (if 0 ≤ x7 then (if x7 ≤ (x6.length : Int) then ((types_attribute.f k ((rd_T99 x6 x7).f0) ((rd_T99 x6 x7).f1) ((rd_T99 x6 x7).f2) ((rd_T99 x6 x7).f3) (x6.take (x7 : Int).toNat)).bind fun e1 => (if e1 = 0 then (types_node.l0 k x6 (wrap64 (x7 + 1))) else (some e1))) else (none)) else (none)) else (some 0)
end
def types_node.f (k : Nat) (a3 : List (S96)) (a9 : List (S101)) (a1 : Int) : Option (Int) := if 0 ≤ a1 then (if a1 < (a3.length : Int) then ((token_IsName.f k ((rd_T96 a3 a1).f0)).bind fun g2 => (if g2 = true then (if a1 ≤ (a3.length : Int) then ((any_node.f (a3.take (a1 : Int).toNat) ((rd_T96 a3 a1).f0)).bind fun e2 => (if e2 = true then (some 5) else (if ((rd_T96 a3 a1).f1) < (-1) then (types_node.j0 k a1 true a3 a9 ((rd_T96 a3 a1).f0) ((rd_T96 a3 a1).f1) ((rd_T96 a3 a1).f2) ((rd_T96 a3 a1).f3)) else (types_node.j0 k a1 (decide (((rd_T96 a3 a1).f1) ≥ a1)) a3 a9 ((rd_T96 a3 a1).f0) ((rd_T96 a3 a1).f1) ((rd_T96 a3 a1).f2) ((rd_T96 a3 a1).f3))))) else (none)) else (some 2))) else (none)) else (none)
theorem types_node.mono_l : ∀ k, (∀ y0 y1 y2 y3 y4 y5 y6 y7, LeO (types_node.j0 k y0 y1 y2 y3 y4 y5 y6 y7) (types_node.j0 (k + 1) y0 y1 y2 y3 y4 y5 y6 y7)) ∧ (∀ y0 y1, LeO (types_node.l0 k y0 y1) (types_node.l0 (k + 1) y0 y1))
 | 0 => by refine ⟨?_, ?_⟩ <;> (intros; intro r h; simp [types_node.j0, types_node.l0] at h)
 | k + 1 => by
  obtain ⟨ih0, ih1⟩ := types_node.mono_l k
  refine ⟨?_, ?_⟩ <;> (intros; first | unfold types_node.j0 | unfold types_node.l0)
  all_goals with_reducible repeat' first | exact ih0 .. | exact ih1 .. | exact token_IsName.mono .. | exact types_attribute.mono .. | exact types_attrs.mono .. | exact LeO.refl _ | exact LeO.none _ | refine LeO.ite ?_ ?_ | refine LeO.bind ?_ fun _ => ?_
theorem types_node.mono : ∀ a0 a1 a2 k, LeO (types_node.f k a0 a1 a2) (types_node.f (k + 1) a0 a1 a2) := by
 intro a0 a1 a2 k
 obtain ⟨ih0, ih1⟩ := types_node.mono_l k
 unfold types_node.f
 with_reducible repeat' first | exact ih0 .. | exact ih1 .. | exact token_IsName.mono .. | exact types_attribute.mono .. | exact types_attrs.mono .. | exact LeO.refl _ | exact LeO.none _ | refine LeO.ite ?_ ?_ | refine LeO.bind ?_ fun _ => ?_
def types_node.T16 : Bool × List (List Nat × List Nat) := (true, [([], []), ([], []), ([0, 1], [0, 1]), ([2], [2]), ([], []), ([], []), ([4, 5], [4, 5]), ([3, 6], [3, 6]), ([7, 7, 0, 1, 2, 3, 4, 5, 6, 7], [7])])
def types_node.B16 : List Nat := [0, 0, 3, 7, 0, 0, 48, 127, 255]
theorem types_node.tab16 : rtab .any (opsOf Tryz.f83 16) = types_node.T16 := by kernel_rfl
theorem types_node.bits16 : waitsOk types_node.T16.2 types_node.B16 = true := by kernel_rfl
theorem types_node.calls (k : Nat) (j3 : Option Addr) (b0 : Nat) (a3 : List (S96)) (d1 : Option Addr) (d0 : Nat) (a9 : List (S101)) (a1 : Int) (r : Int) (w : World) (n1 : Kd.C k96 w j3 a3.length a3) (n7 : a3.length ≤ b0) (n0 : Kd.C k101 w d1 a9.length a9) (n6 : a9.length ≤ d0) (h : types_node.f k a3 a9 a1 = some r) :
  Calls Tryz.prog 83 #[.agg #[.slice j3 a3.length b0, .slice d1 a9.length d0], .int .i64 a1] w fun e w' => e = .returned (.int .i64 r) ∧ Below w.heap.size w w' := by
 have hu31 := Tryz.underlying31
 have hu96 := Tryz.underlying96
 have hu99 := Tryz.underlying99
 have e8 := Aside0.mk n1
 have j2 := Aside0.mk n7
 clear n1 n7
 have t7 := Aside0.mk n0
 have t9 := Aside0.mk n6
 clear n0 n6
 have HB := Aside0.mk (Below.refl w.heap.size w)
 have H : (if 0 ≤ a1 then (if a1 < (a3.length : Int) then ((token_IsName.f k ((rd_T96 a3 a1).f0)).bind fun g2 => (if g2 = true then (if a1 ≤ (a3.length : Int) then ((any_node.f (a3.take (a1 : Int).toNat) ((rd_T96 a3 a1).f0)).bind fun e2 => (if e2 = true then (some 5) else (if ((rd_T96 a3 a1).f1) < (-1) then (types_node.j0 k a1 true a3 a9 ((rd_T96 a3 a1).f0) ((rd_T96 a3 a1).f1) ((rd_T96 a3 a1).f2) ((rd_T96 a3 a1).f3)) else (types_node.j0 k a1 (decide (((rd_T96 a3 a1).f1) ≥ a1)) a3 a9 ((rd_T96 a3 a1).f0) ((rd_T96 a3 a1).f1) ((rd_T96 a3 a1).f2) ((rd_T96 a3 a1).f3))))) else (none)) else (some 2))) else (none)) else (none)) = some r := h
 clear h
 obtain ⟨c3, H⟩ := itn H
 have w0 := decide_eq_true c3
 clear c3
 obtain ⟨c4, H⟩ := itn H
 have v9 := decide_eq_true c4
 clear c4
 obtain ⟨g2, A5, H⟩ := obA H
 by_cases c6 : g2 = true
 subst c6
 replace H := ift H
 have v8 := eq_true (odt : 0 ≤ a1)
 obtain ⟨c8, H⟩ := itn H
 have v6 := eq_true c8
 have v5 := decide_eq_true c8
 clear c8
 obtain ⟨d5, e5⟩ : ∃ y_ : List (S96), y_ = (a3.take (a1 : Int).toNat) := ⟨_, rfl⟩
 replace H : ((any_node.f d5 ((rd_T96 a3 a1).f0)).bind fun e2 => (if e2 = true then (some 5) else (if ((rd_T96 a3 a1).f1) < (-1) then (types_node.j0 k a1 true a3 a9 ((rd_T96 a3 a1).f0) ((rd_T96 a3 a1).f1) ((rd_T96 a3 a1).f2) ((rd_T96 a3 a1).f3)) else (types_node.j0 k a1 (decide (((rd_T96 a3 a1).f1) ≥ a1)) a3 a9 ((rd_T96 a3 a1).f0) ((rd_T96 a3 a1).f1) ((rd_T96 a3 a1).f2) ((rd_T96 a3 a1).f3))))) = some r := by first | (rw [e5]; with_reducible exact H) | (have H2_ := (Option.bind_some _ _).symm.trans H; rw [e5]; with_reducible exact H2_) | (have H2_ := (Option.bind_some _ _).symm.trans H; with_reducible exact H2_) | with_reducible exact H | (rw [e5]; exact H) | exact H
 have g1 := Aside0.mk e5
 clear e5
 obtain ⟨e2, A9, H⟩ := obA H
 by_cases o3 : e2 = true
 rotate_left
 ·replace o3 := Bool.eq_false_iff.mpr o3
  subst o3
  replace H := iff_ H
  have m8 := Aside0.mk H
  clear H
  go_enter Tryz.func83, Tryz.ntmps83
  go_upto_region 6 with (first | ((with_reducible refine gate_dst (N := 2) rfl ?_); refine be 2 #[.slice j3 a3.length b0, .slice d1 a9.length d0] 31 ?_; intro c9 hg F7 hbox hb; have a6 := Aside0.mk (hbox); have o6 := bsz HB hg; replace HB := bstep HB hb; clear hb hbox hg; obtain ⟨s8, s7, q6, q5⟩ := cz2 a6; have d7 : 0 ≤ a1 := odt; have d6 : a1 < (a3.length : Int) := odt; obtain ⟨b1, b8, b7, m3, c2, c1, c0, b9, d3, d4⟩ := at_T96 e8.out a1 d7 d6; cases m3; replace c2 := hxc HB c2; replace c1 := hxc HB c1; replace c0 := hxc HB c0; replace b9 := hxc HB b9; have s9 := Aside0.mk d4; have t0 := Aside0.mk d3; clear d4 d3; replace d7 := eq_true d7; replace d6 := eq_true d6) | ((with_reducible refine gate_dst (N := 5) rfl ?_); refine be 5 #[.string (⟨#[]⟩ : ByteArray), .int .i64 0, .bool false, .slice none 0 0] 96 ?_; intro b2 hg F6 hbox hb; have a7 := Aside0.mk (hbox); have o5 := bsz HB hg; replace HB := bstep HB hb; have b4 := blt a6 hg; have b3 := bgt a6 hg; replace a6 := bkb a6 hb; clear hb hbox hg; have E2 := b3.out; have D7 := b4.out; obtain ⟨s6, s5, s4, r9, q4, q3, q2, q1⟩ := cz4 a7) | ((with_reducible refine gate_callee (f := 100) rfl ?_); refine gl 17 Tryz.func100 #[.string ((rd_T96 a3 a1).f0)] (h := ?_); (with_reducible refine (token_IsName.calls _ _ _ _ A5.out).mono ?_); rintro e F5 ⟨rfl, hb⟩; refine ⟨_, rfl, ?_⟩; replace a6 := Aside0.mk (blk_below (g := c9) (o := .cells #[.slice (some b1) a3.length b0, .slice d1 a9.length d0] 31 (0, 0)) (bkF a6) hb); replace a7 := Aside0.mk (blk_below (g := b2) (o := .cells #[.string ((rd_T96 a3 a1).f0), .int .i64 ((rd_T96 a3 a1).f1), .bool ((rd_T96 a3 a1).f2), .slice b8 ((rd_T96 a3 a1).f3).length b7] 96 (0, 0)) (bkP a7) hb); replace HB := bstep HB hb; clear hb; obtain ⟨r8, r7, q0, p9⟩ := cz2 a6; have m9 : (a1 : Int) ≤ ((a3.length : Int) : Int) := odt; obtain ⟨i028, n4, _, hsz28, _⟩ := info_parts info96; have hroom28 : a3.length ≤ b0 := j2.out; have hC28 : Kd.C k96 _ (some b1) a3.length a3 := e8.out; have hcut28 := cut_to (P := Tryz.prog) 28 96 .i64 Tryz.underlying28 n4 (some b1) a3.length b0 a1 (odt) m9 hroom28; have m1 := Kd.C_take (m := (a1 : Int).toNat) hC28 (by omega); have j7 : d5.length = (a1 : Int).toNat := (by rw [g1.out, List.length_take]; omega); rw [← g1.out] at m1; rw [← j7] at hcut28; have h9 := Aside0.mk m1; have j1 := Aside0.mk (show d5.length ≤ b0 from by omega); clear m1 hC28 hroom28 n4 hsz28; have KY28 := Aside0.mk j7; clear j7; replace m9 := eq_true m9) | ((with_reducible refine gate_callee (f := 101) rfl ?_); refine gl 25 Tryz.func101 #[.slice (some b1) d5.length b0, .func (.func 102) #[] #[.pointer (some ⟨b2, 0, none⟩)]] (h := ?_); (with_reducible refine (any_node.calls _ _ d5 b2 ((rd_T96 a3 a1).f0) (.int .i64 ((rd_T96 a3 a1).f1)) (.bool ((rd_T96 a3 a1).f2)) (.slice b8 ((rd_T96 a3 a1).f3).length b7) false _ (cb h9 HB) j1.out (bk a7) A9.out).mono ?_); rintro e F4 ⟨rfl, hb⟩; refine ⟨_, rfl, ?_⟩; replace a6 := bkb a6 hb; replace a7 := bkb a7 hb; replace HB := bstep HB hb; clear hb))
  (try simp only [Act.put, List.setIfInBounds_toArray, List.set_cons_zero, List.set_cons_succ])
  go_cut [26] (fun D2 wc => ∃ (kq : Nat) (e3 : Bool), D2 = .bool e3 ∧ Aside0 (types_node.j0 kq a1 e3 a3 a9 ((rd_T96 a3 a1).f0) ((rd_T96 a3 a1).f1) ((rd_T96 a3 a1).f2) ((rd_T96 a3 a1).f3) = some r) ∧ Aside0 (kq ≤ k) ∧ Aside0 (wc.heap[c9]? = some (.cells #[(.slice (some b1) a3.length b0), (.slice d1 a9.length d0)] 31 (0, 0))) ∧ Aside0 (wc.heap[b2]? = some (.cells #[.string ((rd_T96 a3 a1).f0), .int .i64 ((rd_T96 a3 a1).f1), .bool ((rd_T96 a3 a1).f2), (.slice b8 ((rd_T96 a3 a1).f3).length b7)] 96 (0, 0))) ∧ Aside0 (Below w.heap.size w wc))
  case first =>
   have H := m8.out
   clear m8
   by_cases h1 : ((rd_T96 a3 a1).f1) < (-1)
   rw [if_pos h1] at H
   have e6 := decide_eq_true h1
   clear h1
   (first | rw [e6] | (simp only [i64_w, i32_w]; rw [e6]) | skip)
   have H' := Aside0.mk H
   clear H
   rotate_left
   rw [if_neg h1] at H
   have e6 := decide_eq_false h1
   clear h1
   (first | rw [e6] | (simp only [i64_w, i32_w]; rw [e6]) | skip)
   have H' := Aside0.mk H
   clear H
   all_goals
    have E1 := b3.out
    have D6 := b4.out
    obtain ⟨C2, C1, C0, A8, x4, x2, x0, w9⟩ := cz4 a7
    go_wp2
    go_meet
    case rel => exact ⟨_, _, eqs, H', ⟨by first | omega | exact Nat.le_refl _⟩, ⟨bk a6⟩, ⟨bk a7⟩, ⟨bb HB⟩⟩
  case rest =>
   clear m8 w0 v9 v8 v6 v5 m9 s8 s7 s6 s5 s4 r9 r8 r7 q6 q5 q4 q3 q2 q1 q0 p9 c2 c1 c0 b9 d7 d6
   obtain ⟨kq, e3, rfl, HA, t3, a6, a7, HB⟩ := hcut
   cases kq with
   | zero => exact absurd HA.out (by simp [types_node.j0])
   | succ j4 =>
    have H := HA.out
    clear HA
    simp only [types_node.j0] at H
    by_cases o2 : e3 = true
    ·subst o2
     replace H := ift H
     obtain rfl := Option.some.inj H
     go_wp2
     go_ret
     exact ⟨erf, bb HB⟩
    replace o2 := Bool.eq_false_iff.mpr o2
    subst o2
    replace H := iff_ H
    by_cases h0 : (((rd_T96 a3 a1).f3).length : Int) > 4
    ·rw [if_pos h0] at H
     have o1 : decide (4 < (((rd_T96 a3 a1).f3).length : Int)) = true := decide_eq_true h0
     have o0 : decide (4 < ((rd_T96 a3 a1).f3).length) = true := decide_eq_true (by omega)
     clear h0
     obtain rfl := Option.some.inj H
     have E0 := b3.out
     have D5 := b4.out
     obtain ⟨A7, A6, A4, A3, w8, w7, w6, w5⟩ := cz4 a7
     go_wp2
     go_ret
     exact ⟨erf, bb HB⟩
    rw [if_neg h0] at H
    have o1 : decide (4 < (((rd_T96 a3 a1).f3).length : Int)) = false := decide_eq_false h0
    have o0 : decide (4 < ((rd_T96 a3 a1).f3).length) = false := decide_eq_false (by omega)
    clear h0
    obtain ⟨a5, D3, H⟩ := obA H
    by_cases g9 : (a5.length : Int) > 8
    rw [if_pos g9] at H
    have n9 : decide (8 < (a5.length : Int)) = true := decide_eq_true g9
    have n8 : decide (8 < a5.length) = true := decide_eq_true (by omega)
    clear g9
    obtain rfl := Option.some.inj H
    rotate_left
    rw [if_neg g9] at H
    have n9 : decide (8 < (a5.length : Int)) = false := decide_eq_false g9
    have n8 : decide (8 < a5.length) = false := decide_eq_false (by omega)
    clear g9
    have H' := Aside0.mk H
    clear H
    all_goals
     have D9 := b3.out
     have D4 := b4.out
     obtain ⟨r6, r5, r4, r3, p8, p7, p6, p5⟩ := cz4 a7
     obtain ⟨r2, r1, p4, p3⟩ := cz2 a6
     go_wp2_with ((with_reducible refine gate_callee (f := 103) rfl ?_); refine gl 43 Tryz.func103 #[.agg #[.slice (some b1) a3.length b0, .slice d1 a9.length d0], .int .i64 a1] (h := ?_); (with_reducible refine (types_attrs.calls j4 (fun k_ => k_ < w.heap.size) _ _ a3 _ _ a9 a1 a5 _ (Kd.V_mk j2.out (Kd.F_below (Kd.C_F k96_heap e8.out) (bb HB))) (cb t7 HB) t9.out D3.out).mono ?_); rintro e F3 ⟨E8, rfl, v0, hb⟩; refine ⟨_, rfl, ?_⟩; have o4 := Aside0.mk (Kd.N_lower (Kd.N_mono (ok' := fun k_ => k_ ≠ c9 ∧ k_ ≠ b2) v0 (fun k_ hk_ => ⟨Or.elim hk_ (fun hs_ => fun e_ => Nat.not_le.2 hs_ (by rw [e_]; exact o6.out)) (fun hn_ => (Kd.freshB (g := c9) (o := .cells #[.slice (some b1) a3.length b0, .slice d1 a9.length d0] 31 (0, 0)) (bk a6) k_ hn_)), Or.elim hk_ (fun hs_ => fun e_ => Nat.not_le.2 hs_ (by rw [e_]; exact o5.out)) (fun hn_ => (Kd.freshB (g := b2) (o := .cells #[.string ((rd_T96 a3 a1).f0), .int .i64 ((rd_T96 a3 a1).f1), .bool ((rd_T96 a3 a1).f2), .slice b8 ((rd_T96 a3 a1).f3).length b7] 96 (0, 0)) (bk a7) k_ hn_))⟩)) (below_size (bb HB))); replace a6 := bkb a6 hb; replace a7 := bkb a7 hb; replace HB := bstep HB hb; clear hb v0; obtain ⟨w1, c7, eo45⟩ := Kd.N_slice o4.out; subst eo45; obtain ⟨r0, q9, q8, q7, p2, p1, p0, o9⟩ := cz4 a7)
    ·go_loopg [7] j4 (fun kq v7 w' => ∃ (a4 : Int), v7 = .int .i64 a4 ∧ Aside0 (types_node.l0 kq a5 a4 = some r) ∧ Aside0 (kq ≤ j4) ∧ Aside0 (Kd.N k99 99 w' w.heap.size (fun k_ => k_ ≠ c9 ∧ k_ ≠ b2) (.slice w1 a5.length c7) a5) ∧ Aside0 (w'.heap[c9]? = some (.cells #[(.slice (some b1) a3.length b0), (.slice d1 a9.length d0)] 31 (0, 0))) ∧ Aside0 (w'.heap[b2]? = some (.cells #[.string ((rd_T96 a3 a1).f0), .int .i64 ((rd_T96 a3 a1).f1), .bool ((rd_T96 a3 a1).f2), (.slice b8 ((rd_T96 a3 a1).f3).length b7)] 96 (0, 0))) ∧ Aside0 (Below w.heap.size w w'))
     case atStart => exact ⟨(wrap64 ((a5.length : Int) - (((rd_T96 a3 a1).f3).length : Int))), eqs, H', ⟨Nat.le_refl _⟩, ⟨kN o4⟩, ⟨bk a6⟩, ⟨bk a7⟩, ⟨bb HB⟩⟩
     case round =>
      clear H' o1 o0 n9 n8 r6 r5 r4 r3 r2 r1 r0 q9 q8 q7 p8 p7 p6 p5 p4 p3 p2 p1 p0 o9
      obtain ⟨a4, rfl, HA, v2, HO_6, a6, a7, HB⟩ := hrel
      cases gk with
      | zero => exact absurd HA.out (by simp [types_node.l0])
      | succ k2 =>
       have H := HA.out
       clear HA
       simp only [types_node.l0] at H
       by_cases g8 : a4 < (a5.length : Int)
       rotate_left
       ·rw [if_neg g8] at H
        have t6 := decide_eq_false g8
        clear g8
        obtain rfl := Option.some.inj H
        go_wp2
        go_ret
        exact ⟨erf, bb HB⟩
       rw [if_pos g8] at H
       have t6 := decide_eq_true g8
       clear g8
       obtain ⟨v1, H⟩ := itn H
       have E7 := decide_eq_true v1
       clear v1
       have E6 := eq_true (odt : 0 ≤ a4)
       obtain ⟨t2, H⟩ := itn H
       have E5 := eq_true t2
       have E4 := decide_eq_true t2
       clear t2
       obtain ⟨c5, e4⟩ : ∃ y_ : List (S99), y_ = (a5.take (a4 : Int).toNat) := ⟨_, rfl⟩
       replace H : ((types_attribute.f k2 ((rd_T99 a5 a4).f0) ((rd_T99 a5 a4).f1) ((rd_T99 a5 a4).f2) ((rd_T99 a5 a4).f3) c5).bind fun e1 => (if e1 = 0 then (types_node.l0 k2 a5 (wrap64 (a4 + 1))) else (some e1))) = some r := by first | (rw [e4]; with_reducible exact H) | (have H2_ := (Option.bind_some _ _).symm.trans H; rw [e4]; with_reducible exact H2_) | (have H2_ := (Option.bind_some _ _).symm.trans H; with_reducible exact H2_) | with_reducible exact H | (rw [e4]; exact H) | exact H
       have g0 := Aside0.mk e4
       clear e4
       obtain ⟨e1, v3, H⟩ := obA H
       by_cases g3 : e1 = 0
       rw [if_pos g3] at H
       have t5 := beq_iff_eq.mpr g3
       have t4 := bne_eq_false_iff_eq.mpr g3
       clear g3
       have H' := Aside0.mk H
       clear H
       rotate_left
       rw [if_neg g3] at H
       have t5 := beq_eq_false_iff_ne.mpr g3
       have t4 := bne_iff_ne.mpr g3
       obtain rfl := Option.some.inj H
       all_goals
        try go_wp2
        replace HO_6 := Aside0.mk (Kd.N_drew HO_6.out)
        replace a6 := Aside0.mk (blk_drew a6.out)
        replace a7 := Aside0.mk (blk_drew a7.out)
        replace HB := Aside0.mk (below_drew1 HB.out)
        have h8 : 0 ≤ a4 := odt
        have h7 : a4 < (a5.length : Int) := odt
        obtain ⟨a8, e9, e7, v4, e0, d9, d8, d2, g6, g7⟩ := at_T99 (Kd.N_reads' HO_6.out).2.2 a4 h8 h7
        cases v4
        obtain ⟨ce160, hce160, hMe160, hcc160⟩ := Kd.N_get HO_6.out z99 a4 h8 (by first | exact h7 | exact odt | (have e_ := (Kd.N_reads' HO_6.out).1; omega))
        obtain ⟨ua160_3, uc160_3, rfl, ul160_3, ge160_3⟩ := k99_openF hMe160
        have hv160_3 := hcc160 3 _ rfl
        rw [add_field _ _ 3 (by omega)] at hv160_3
        replace hv160_3 := Option.some.inj (hv160_3.symm.trans d2)
        injection hv160_3 with hva_ hvn_ hvc_
        rw [hva_] at ge160_3
        rw [hvc_] at ul160_3
        have HL160_3 := Aside0.mk (show Kd.V Kd.string 9 _ w.heap.size _ _ ((rd_T99 a5 a4).f3) from Kd.V_mk ul160_3 ge160_3)
        clear hva_ hvn_ hvc_ ge160_3 ul160_3 hcc160 hce160
        have b5 := Aside0.mk g7
        have h2 := Aside0.mk g6
        clear g7 g6
        replace h8 := eq_true h8
        replace h7 := eq_true h7
        have g5 : (a4 : Int) ≤ ((a5.length : Int) : Int) := odt
       ·obtain ⟨i062, n2, _, hsz62, _⟩ := info_parts info99
        have hroom62 : a5.length ≤ c7 := (Kd.N_reads' HO_6.out).2.1
        have hC62 : Kd.F k99 _ _ (some a8) a5.length a5 := (Kd.V_at (base := w.heap.size) (Kd.N_V HO_6.out)).2.2
        have hcut62 := cut_to (P := Tryz.prog) 94 99 .i64 Tryz.underlying94 n2 (some a8) a5.length c7 a4 (odt) g5 hroom62
        have j9 := Kd.F_take (m := (a4 : Int).toNat) hC62 (by omega)
        have j5 : c5.length = (a4 : Int).toNat := (by rw [g0.out, List.length_take]; omega)
        rw [← g0.out] at j9
        rw [← j5] at hcut62
        have b6 := Aside0.mk (show Kd.V k99 99 _ w.heap.size _ (.slice (some a8) c5.length c7) c5 from Kd.V_mk (by omega) j9)
        have t8 := Aside0.mk (show c5.length ≤ c7 from by omega)
        clear j9 hC62 hroom62 n2 hsz62
        have KY62 := Aside0.mk j5
        clear j5
        replace g5 := eq_true g5
        refine start_ (n := 9) (S := fun w' => w'.cell? (a8.add ((a4).toNat * 4)) = some (.string ((rd_T99 a5 a4).f0)) ∧ w'.cell? ⟨(a8.add ((a4).toNat * 4)).block, (a8.add ((a4).toNat * 4)).off + 1, none⟩ = some (.int .i64 ((rd_T99 a5 a4).f1)) ∧ w'.cell? ⟨(a8.add ((a4).toNat * 4)).block, (a8.add ((a4).toNat * 4)).off + 2, none⟩ = some (.int .i64 ((rd_T99 a5 a4).f2)) ∧ w'.cell? ⟨(a8.add ((a4).toNat * 4)).block, (a8.add ((a4).toNat * 4)).off + 3, none⟩ = some (.slice e9 ((rd_T99 a5 a4).f3).length e7)) (ds := []) #[false, false, false, false, false, false, false, false, false] (by kernel_rfl) rfl rfl ⟨e0, d9, d8, d2⟩ (fun hHeld => ?_); refine with_tabW types_node.tab16 types_node.bits16 (fun HT_ HW_ => ?_)
        generalize wr.drew = F0 at HO_6 a6 a7 HB HL160_3 b6 b5 e0 d9 d8 d2 hHeld ⊢
        refine pu 0 59 (bits 9 0x1) HT_ (h := ?_)
        refine pu 1 60 (bits 9 0x3) HT_ (h := ?_)
        refine pu 2 61 (bits 9 0x7) HT_ (h := ?_)
        refine pu 4 63 (bits 9 0x17) HT_ (h := ?_)
        refine pu 5 64 (bits 9 0x37) HT_ (h := ?_)
        refine pu 6 65 (bits 9 0x77) HT_ (h := ?_)
        refine tk 3 62 (bits 9 0x7f) HT_ HW_ hHeld (hy := by rintro w' ⟨s0, s1, s2, s3⟩; go_simp; with_reducible rfl) (h := ?_)
        refine one_ (i := 7) (N := some 66) #[true, true, true, true, true, true, true, true, false] rfl rfl (one_of HT_.out (by kernel_rfl)) (by decide) (fun K hK => ?_)
        refine goes_ Tryz.func104 (by kernel_rfl) rfl #[.agg #[.string ((rd_T99 a5 a4).f0), .int .i64 ((rd_T99 a5 a4).f1), .int .i64 ((rd_T99 a5 a4).f2), .slice e9 ((rd_T99 a5 a4).f3).length e7], .slice (some a8) c5.length c7] (by rfl) rfl rfl (by (try simp only [List.map_toArray, List.map_cons, List.map_nil]); first | done | rfl | (simp only [List.length_drop, List.length_take]; rfl)) ?_
        with_reducible refine (types_attribute.calls _ _ _ _ _ _ _ _ _ _ _ _ ?h6 ?h5 ?h4 ?h3 v3.out).mono ?_
        (case h6 => repeat (first | exact (kC b5) | (with_reducible refine Kd.C_alloc ?_ _) | (with_reducible refine Kd.C_drewN ?_ _) | (with_reducible refine Kd.C_drew ?_)))
        (case h5 => exact h2.out)
        (case h4 => repeat (first | exact (Kd.V_reads' b6.out).2.2 | (with_reducible refine Kd.C_alloc ?_ _) | (with_reducible refine Kd.C_drewN ?_ _) | (with_reducible refine Kd.C_drew ?_)))
        (case h3 => exact (Kd.V_reads' b6.out).2.1)
        rintro e E9 ⟨rfl, hb⟩
        have m7 := (hb.cell (World.block_lt_of_cell? _ _ (hHeld.1))).trans (hHeld.1)
        have m6 := (hb.cell (World.block_lt_of_cell? _ _ (hHeld.2.1))).trans (hHeld.2.1)
        have m5 := (hb.cell (World.block_lt_of_cell? _ _ (hHeld.2.2.1))).trans (hHeld.2.2.1)
        have m4 := (hb.cell (World.block_lt_of_cell? _ _ (hHeld.2.2.2))).trans (hHeld.2.2.2)
        refine ⟨_, rfl, ?_⟩
        replace HO_6 := kNb HO_6 hb
        replace HL160_3 := kVb HL160_3 hb
        replace b6 := kVb b6 hb
        replace a6 := bkb a6 hb
        replace a7 := bkb a7 hb
        replace b5 := kCb b5 hb
        replace HB := bstep HB hb
        clear hb
        refine hK.out _ _ ⟨m7, m6, m5, m4⟩ (fun hHeld => ?_)
        clear hK K
        refine norm_ (a' := ?_) ?_ ?_
        rotate_left
        ·show Act.put _ (some 66) _ = _
         simp only [Act.put, List.setIfInBounds_toArray, List.set_cons_zero, List.set_cons_succ, i64_w, i32_w]
         rfl
        refine pu 8 8 (bits 9 0x1ff) HT_ (h := ?_)
        refine done_ (done_of HT_.out (by kernel_rfl)) ?_
        try go_wp2
        go_ret
        exact ⟨erf, bb HB⟩
       ·obtain ⟨i059, n3, _, hsz59, _⟩ := info_parts info99
        have hroom59 : a5.length ≤ c7 := (Kd.N_reads' HO_6.out).2.1
        have hC59 : Kd.F k99 _ _ (some a8) a5.length a5 := (Kd.V_at (base := w.heap.size) (Kd.N_V HO_6.out)).2.2
        have hcut59 := cut_to (P := Tryz.prog) 94 99 .i64 Tryz.underlying94 n3 (some a8) a5.length c7 a4 (odt) g5 hroom59
        have m0 := Kd.F_take (m := (a4 : Int).toNat) hC59 (by omega)
        have j6 : c5.length = (a4 : Int).toNat := (by rw [g0.out, List.length_take]; omega)
        rw [← g0.out] at m0
        rw [← j6] at hcut59
        have b6 := Aside0.mk (show Kd.V k99 99 _ w.heap.size _ (.slice (some a8) c5.length c7) c5 from Kd.V_mk (by omega) m0)
        have t8 := Aside0.mk (show c5.length ≤ c7 from by omega)
        clear m0 hC59 hroom59 n3 hsz59
        have KY59 := Aside0.mk j6
        clear j6
        replace g5 := eq_true g5
        refine start_ (n := 9) (S := fun w' => w'.cell? (a8.add ((a4).toNat * 4)) = some (.string ((rd_T99 a5 a4).f0)) ∧ w'.cell? ⟨(a8.add ((a4).toNat * 4)).block, (a8.add ((a4).toNat * 4)).off + 1, none⟩ = some (.int .i64 ((rd_T99 a5 a4).f1)) ∧ w'.cell? ⟨(a8.add ((a4).toNat * 4)).block, (a8.add ((a4).toNat * 4)).off + 2, none⟩ = some (.int .i64 ((rd_T99 a5 a4).f2)) ∧ w'.cell? ⟨(a8.add ((a4).toNat * 4)).block, (a8.add ((a4).toNat * 4)).off + 3, none⟩ = some (.slice e9 ((rd_T99 a5 a4).f3).length e7)) (ds := []) #[false, false, false, false, false, false, false, false, false] (by kernel_rfl) rfl rfl ⟨e0, d9, d8, d2⟩ (fun hHeld => ?_); refine with_tabW types_node.tab16 types_node.bits16 (fun HT_ HW_ => ?_)
        generalize wr.drew = F2 at HO_6 a6 a7 HB HL160_3 b6 b5 e0 d9 d8 d2 hHeld ⊢
        refine pu 0 59 (bits 9 0x1) HT_ (h := ?_)
        refine pu 1 60 (bits 9 0x3) HT_ (h := ?_)
        refine pu 2 61 (bits 9 0x7) HT_ (h := ?_)
        refine pu 4 63 (bits 9 0x17) HT_ (h := ?_)
        refine pu 5 64 (bits 9 0x37) HT_ (h := ?_)
        refine pu 6 65 (bits 9 0x77) HT_ (h := ?_)
        refine tk 3 62 (bits 9 0x7f) HT_ HW_ hHeld (hy := by rintro w' ⟨s0, s1, s2, s3⟩; go_simp; with_reducible rfl) (h := ?_)
        refine one_ (i := 7) (N := some 66) #[true, true, true, true, true, true, true, true, false] rfl rfl (one_of HT_.out (by kernel_rfl)) (by decide) (fun K hK => ?_)
        refine goes_ Tryz.func104 (by kernel_rfl) rfl #[.agg #[.string ((rd_T99 a5 a4).f0), .int .i64 ((rd_T99 a5 a4).f1), .int .i64 ((rd_T99 a5 a4).f2), .slice e9 ((rd_T99 a5 a4).f3).length e7], .slice (some a8) c5.length c7] (by rfl) rfl rfl (by (try simp only [List.map_toArray, List.map_cons, List.map_nil]); first | done | rfl | (simp only [List.length_drop, List.length_take]; rfl)) ?_
        with_reducible refine (types_attribute.calls _ _ _ _ _ _ _ _ _ _ _ _ ?h6 ?h5 ?h4 ?h3 v3.out).mono ?_
        (case h6 => repeat (first | exact (kC b5) | (with_reducible refine Kd.C_alloc ?_ _) | (with_reducible refine Kd.C_drewN ?_ _) | (with_reducible refine Kd.C_drew ?_)))
        (case h5 => exact h2.out)
        (case h4 => repeat (first | exact (Kd.V_reads' b6.out).2.2 | (with_reducible refine Kd.C_alloc ?_ _) | (with_reducible refine Kd.C_drewN ?_ _) | (with_reducible refine Kd.C_drew ?_)))
        (case h3 => exact (Kd.V_reads' b6.out).2.1)
        rintro e F1 ⟨rfl, hb⟩
        have m7 := (hb.cell (World.block_lt_of_cell? _ _ (hHeld.1))).trans (hHeld.1)
        have m6 := (hb.cell (World.block_lt_of_cell? _ _ (hHeld.2.1))).trans (hHeld.2.1)
        have m5 := (hb.cell (World.block_lt_of_cell? _ _ (hHeld.2.2.1))).trans (hHeld.2.2.1)
        have m4 := (hb.cell (World.block_lt_of_cell? _ _ (hHeld.2.2.2))).trans (hHeld.2.2.2)
        refine ⟨_, rfl, ?_⟩
        replace HO_6 := kNb HO_6 hb
        replace HL160_3 := kVb HL160_3 hb
        replace b6 := kVb b6 hb
        replace a6 := bkb a6 hb
        replace a7 := bkb a7 hb
        replace b5 := kCb b5 hb
        replace HB := bstep HB hb
        clear hb
        refine hK.out _ _ ⟨m7, m6, m5, m4⟩ (fun hHeld => ?_)
        clear hK K
        refine norm_ (a' := ?_) ?_ ?_
        rotate_left
        ·show Act.put _ (some 66) _ = _
         simp only [Act.put, List.setIfInBounds_toArray, List.set_cons_zero, List.set_cons_succ, i64_w, i32_w]
         rfl
        refine pu 8 8 (bits 9 0x1ff) HT_ (h := ?_)
        refine done_ (done_of HT_.out (by kernel_rfl)) ?_
        try go_wp2
        go_roundg k2
        case measure => have := t3.out; have := v2.out; omega
        case rel => exact ⟨(wrap64 (a4 + 1)), eqs, H', ⟨by have := t3.out; have := v2.out; omega⟩, ⟨kN HO_6⟩, ⟨bk a6⟩, ⟨bk a7⟩, ⟨bb HB⟩⟩
    ·go_ret
     exact ⟨erf, bb HB⟩
 rotate_left
 subst o3
 replace H := ift H
 obtain rfl := Option.some.inj H
 rotate_left
 replace c6 := Bool.eq_false_iff.mpr c6
 subst c6
 replace H := iff_ H
 obtain rfl := Option.some.inj H
 all_goals
  go_enter Tryz.func83, Tryz.ntmps83
  go_wp2_with (first | ((with_reducible refine gate_dst (N := 2) rfl ?_); refine be 2 #[.slice j3 a3.length b0, .slice d1 a9.length d0] 31 ?_; intro c9 hg G1 hbox hb; have a6 := Aside0.mk (hbox); have o6 := bsz HB hg; replace HB := bstep HB hb; clear hb hbox hg; obtain ⟨D0, C9, A2, A1⟩ := cz2 a6; have d7 : 0 ≤ a1 := odt; have d6 : a1 < (a3.length : Int) := odt; obtain ⟨b1, b8, b7, m3, c2, c1, c0, b9, d3, d4⟩ := at_T96 e8.out a1 d7 d6; cases m3; replace c2 := hxc HB c2; replace c1 := hxc HB c1; replace c0 := hxc HB c0; replace b9 := hxc HB b9; have s9 := Aside0.mk d4; have t0 := Aside0.mk d3; clear d4 d3; replace d7 := eq_true d7; replace d6 := eq_true d6) | ((with_reducible refine gate_dst (N := 5) rfl ?_); refine be 5 #[.string (⟨#[]⟩ : ByteArray), .int .i64 0, .bool false, .slice none 0 0] 96 ?_; intro b2 hg G0 hbox hb; have a7 := Aside0.mk (hbox); have o5 := bsz HB hg; replace HB := bstep HB hb; have b4 := blt a6 hg; have b3 := bgt a6 hg; replace a6 := bkb a6 hb; clear hb hbox hg; have E3 := b3.out; have D8 := b4.out; obtain ⟨C8, C7, C6, C5, A0, y9, y8, x9⟩ := cz4 a7) | ((with_reducible refine gate_callee (f := 100) rfl ?_); refine gl 17 Tryz.func100 #[.string ((rd_T96 a3 a1).f0)] (h := ?_); (with_reducible refine (token_IsName.calls _ _ _ _ A5.out).mono ?_); rintro e F9 ⟨rfl, hb⟩; refine ⟨_, rfl, ?_⟩; replace a6 := Aside0.mk (blk_below (g := c9) (o := .cells #[.slice (some b1) a3.length b0, .slice d1 a9.length d0] 31 (0, 0)) (bkF a6) hb); replace a7 := Aside0.mk (blk_below (g := b2) (o := .cells #[.string ((rd_T96 a3 a1).f0), .int .i64 ((rd_T96 a3 a1).f1), .bool ((rd_T96 a3 a1).f2), .slice b8 ((rd_T96 a3 a1).f3).length b7] 96 (0, 0)) (bkP a7) hb); replace HB := bstep HB hb; clear hb; obtain ⟨C4, C3, x8, x5⟩ := cz2 a6; (try (have t1 : (a1 : Int) ≤ ((a3.length : Int) : Int) := odt; obtain ⟨i018, n5, _, hsz18, _⟩ := info_parts info96; have hroom18 : a3.length ≤ b0 := j2.out; have hC18 : Kd.C k96 _ (some b1) a3.length a3 := e8.out; have hcut18 := cut_to (P := Tryz.prog) 28 96 .i64 Tryz.underlying28 n5 (some b1) a3.length b0 a1 (odt) t1 hroom18; have m2 := Kd.C_take (m := (a1 : Int).toNat) hC18 (by omega); have j8 : d5.length = (a1 : Int).toNat := (by rw [g1.out, List.length_take]; omega); rw [← g1.out] at m2; rw [← j8] at hcut18; have h9 := Aside0.mk m2; have j1 := Aside0.mk (show d5.length ≤ b0 from by omega); clear m2 hC18 hroom18 n5 hsz18; have KY18 := Aside0.mk j8; clear j8; replace t1 := eq_true t1))) | ((with_reducible refine gate_callee (f := 101) rfl ?_); refine gl 25 Tryz.func101 #[.slice (some b1) d5.length b0, .func (.func 102) #[] #[.pointer (some ⟨b2, 0, none⟩)]] (h := ?_); (with_reducible refine (any_node.calls _ _ d5 b2 ((rd_T96 a3 a1).f0) (.int .i64 ((rd_T96 a3 a1).f1)) (.bool ((rd_T96 a3 a1).f2)) (.slice b8 ((rd_T96 a3 a1).f3).length b7) true _ (cb h9 HB) j1.out (bk a7) A9.out).mono ?_); rintro e F8 ⟨rfl, hb⟩; refine ⟨_, rfl, ?_⟩; replace a6 := bkb a6 hb; replace a7 := bkb a7 hb; replace HB := bstep HB hb; clear hb))
  go_ret
  exact ⟨erf, bb HB⟩
def types_bounded.f (a0 : Int) (a1 : Int) : Option (Bool) := if a0 ≥ 0 then (if a0 ≤ 40 then (if a1 = (-1) then (some true) else (if a1 ≥ a0 then (some (decide (a1 ≤ 40))) else (some false))) else (some false)) else (some false)
theorem types_bounded.calls (a0 : Int) (a1 : Int) (r : Bool) (w : World) (h : types_bounded.f a0 a1 = some r) :
  Calls Tryz.prog 108 #[.int .i64 a0, .int .i64 a1] w fun e w' => e = .returned (.bool r) ∧ Drawn0 w w' := by
 have H : (if a0 ≥ 0 then (if a0 ≤ 40 then (if a1 = (-1) then (some true) else (if a1 ≥ a0 then (some (decide (a1 ≤ 40))) else (some false))) else (some false)) else (some false)) = some r := h
 clear h
 by_cases c3 : a0 ≥ 0
 rotate_left
 ·rw [if_neg c3] at H
  have e9 : decide (0 ≤ a0) = false := decide_eq_false c3
  clear c3
  obtain rfl := Option.some.inj H
  go_enter Tryz.func108, Tryz.ntmps108
  go_wp2
  go_ret
  exact ⟨by first | rfl | (simp; done) | (simp [*]; done), drw⟩
 rw [if_pos c3] at H
 have e9 : decide (0 ≤ a0) = true := decide_eq_true c3
 clear c3
 by_cases c4 : a0 ≤ 40
 rotate_left
 ·rw [if_neg c4] at H
  have e8 := decide_eq_false c4
  clear c4
  obtain rfl := Option.some.inj H
  go_enter Tryz.func108, Tryz.ntmps108
  go_wp2
  go_ret
  exact ⟨by first | rfl | (simp; done) | (simp [*]; done), drw⟩
 rw [if_pos c4] at H
 have e8 := decide_eq_true c4
 clear c4
 by_cases c5 : a1 = (-1)
 ·rw [if_pos c5] at H
  have o0 := beq_iff_eq.mpr c5
  have n9 := bne_eq_false_iff_eq.mpr c5
  clear c5
  obtain rfl := Option.some.inj H
  go_enter Tryz.func108, Tryz.ntmps108
  go_wp2
  go_ret
  exact ⟨by first | rfl | (simp; done) | (simp [*]; done), drw⟩
 rw [if_neg c5] at H
 have o0 := beq_eq_false_iff_ne.mpr c5
 have n9 := bne_iff_ne.mpr c5
 by_cases c6 : a1 ≥ a0
 ·rw [if_pos c6] at H
  have n8 : decide (a0 ≤ a1) = true := decide_eq_true c6
  clear c6
  obtain rfl := Option.some.inj H
  go_enter Tryz.func108, Tryz.ntmps108
  go_wp2
  go_ret
  exact ⟨by first | rfl | (simp; done) | (simp [*]; done), drw⟩
 rw [if_neg c6] at H
 have n8 : decide (a0 ≤ a1) = false := decide_eq_false c6
 clear c6
 obtain rfl := Option.some.inj H
 go_enter Tryz.func108, Tryz.ntmps108
 go_wp2
 go_ret
 exact ⟨by first | rfl | (simp; done) | (simp [*]; done), drw⟩
def types_edge.j0 : Nat → Bool → ByteArray → Int → Int → Int → Int → Int → Int → Option (Int)
 | 0, _, _, _, _, _, _, _, _ => none
 | k + 1, t4, o3, o2, o1, h7, h6, h5, h4 => if t4 = true then (some 6) else ((types_bounded.f h7 h6).bind fun e2 => (if e2 = true then ((types_bounded.f h5 h4).bind fun e1 => (if e1 = true then (some 0) else (some 6))) else (some 6)))
def types_edge.f (k : Nat) (a6 : List (S96)) (a3 : List (S101)) (a1 : Int) : Option (Int) := if 0 ≤ a1 then (if a1 < (a3.length : Int) then ((token_IsName.f k ((rd_T101 a3 a1).f0)).bind fun d7 => (if d7 = true then (if a1 ≤ (a3.length : Int) then ((any_edge.f (a3.take (a1 : Int).toNat) ((rd_T101 a3 a1).f0)).bind fun d2 => (if d2 = true then (some 5) else ((edge_inside.f ((rd_T101 a3 a1).f1) a6).bind fun d1 => (if d1 = true then ((edge_inside.f ((rd_T101 a3 a1).f2) a6).bind fun c7 => (types_edge.j0 k (!c7) ((rd_T101 a3 a1).f0) ((rd_T101 a3 a1).f1) ((rd_T101 a3 a1).f2) ((rd_T101 a3 a1).f3) ((rd_T101 a3 a1).f4) ((rd_T101 a3 a1).f5) ((rd_T101 a3 a1).f6))) else (types_edge.j0 k true ((rd_T101 a3 a1).f0) ((rd_T101 a3 a1).f1) ((rd_T101 a3 a1).f2) ((rd_T101 a3 a1).f3) ((rd_T101 a3 a1).f4) ((rd_T101 a3 a1).f5) ((rd_T101 a3 a1).f6)))))) else (none)) else (some 2))) else (none)) else (none)
theorem types_edge.mono_l : ∀ k, (∀ y0 y1 y2 y3 y4 y5 y6 y7, LeO (types_edge.j0 k y0 y1 y2 y3 y4 y5 y6 y7) (types_edge.j0 (k + 1) y0 y1 y2 y3 y4 y5 y6 y7))
 | 0 => by (intros; intro r h; simp [types_edge.j0] at h)
 | k + 1 => by
  have ih0 := types_edge.mono_l k
  (intros; first | unfold types_edge.j0)
  all_goals with_reducible repeat' first | exact ih0 .. | exact token_IsName.mono .. | exact LeO.refl _ | exact LeO.none _ | refine LeO.ite ?_ ?_ | refine LeO.bind ?_ fun _ => ?_
theorem types_edge.mono : ∀ a0 a1 a2 k, LeO (types_edge.f k a0 a1 a2) (types_edge.f (k + 1) a0 a1 a2) := by
 intro a0 a1 a2 k
 have ih0 := types_edge.mono_l k
 unfold types_edge.f
 with_reducible repeat' first | exact ih0 .. | exact token_IsName.mono .. | exact LeO.refl _ | exact LeO.none _ | refine LeO.ite ?_ ?_ | refine LeO.bind ?_ fun _ => ?_
theorem types_edge.calls (k : Nat) (c0 : Option Addr) (b9 : Nat) (a6 : List (S96)) (e0 : Option Addr) (a7 : Nat) (a3 : List (S101)) (a1 : Int) (r : Int) (w : World) (g3 : Kd.C k96 w c0 a6.length a6) (g7 : a6.length ≤ b9) (g2 : Kd.C k101 w e0 a3.length a3) (g6 : a3.length ≤ a7) (h : types_edge.f k a6 a3 a1 = some r) :
  Calls Tryz.prog 84 #[.agg #[.slice c0 a6.length b9, .slice e0 a3.length a7], .int .i64 a1] w fun e w' => e = .returned (.int .i64 r) ∧ Below w.heap.size w w' := by
 have hu31 := Tryz.underlying31
 have hu101 := Tryz.underlying101
 have v7 := Aside0.mk g3
 have v8 := Aside0.mk g7
 clear g3 g7
 have d6 := Aside0.mk g2
 have h3 := Aside0.mk g6
 clear g2 g6
 have HB := Aside0.mk (Below.refl w.heap.size w)
 have H : (if 0 ≤ a1 then (if a1 < (a3.length : Int) then ((token_IsName.f k ((rd_T101 a3 a1).f0)).bind fun d7 => (if d7 = true then (if a1 ≤ (a3.length : Int) then ((any_edge.f (a3.take (a1 : Int).toNat) ((rd_T101 a3 a1).f0)).bind fun d2 => (if d2 = true then (some 5) else ((edge_inside.f ((rd_T101 a3 a1).f1) a6).bind fun d1 => (if d1 = true then ((edge_inside.f ((rd_T101 a3 a1).f2) a6).bind fun c7 => (types_edge.j0 k (!c7) ((rd_T101 a3 a1).f0) ((rd_T101 a3 a1).f1) ((rd_T101 a3 a1).f2) ((rd_T101 a3 a1).f3) ((rd_T101 a3 a1).f4) ((rd_T101 a3 a1).f5) ((rd_T101 a3 a1).f6))) else (types_edge.j0 k true ((rd_T101 a3 a1).f0) ((rd_T101 a3 a1).f1) ((rd_T101 a3 a1).f2) ((rd_T101 a3 a1).f3) ((rd_T101 a3 a1).f4) ((rd_T101 a3 a1).f5) ((rd_T101 a3 a1).f6)))))) else (none)) else (some 2))) else (none)) else (none)) = some r := h
 clear h
 obtain ⟨c3, H⟩ := itn H
 have e9 := decide_eq_true c3
 clear c3
 obtain ⟨c4, H⟩ := itn H
 have e8 := decide_eq_true c4
 clear c4
 obtain ⟨d7, A5, H⟩ := obA H
 by_cases c6 : d7 = true
 subst c6
 replace H := ift H
 have n7 := eq_true (odt : 0 ≤ a1)
 obtain ⟨c8, H⟩ := itn H
 have n6 := eq_true c8
 have n5 := decide_eq_true c8
 clear c8
 obtain ⟨c1, d4⟩ : ∃ y_ : List (S101), y_ = (a3.take (a1 : Int).toNat) := ⟨_, rfl⟩
 replace H : ((any_edge.f c1 ((rd_T101 a3 a1).f0)).bind fun d2 => (if d2 = true then (some 5) else ((edge_inside.f ((rd_T101 a3 a1).f1) a6).bind fun d1 => (if d1 = true then ((edge_inside.f ((rd_T101 a3 a1).f2) a6).bind fun c7 => (types_edge.j0 k (!c7) ((rd_T101 a3 a1).f0) ((rd_T101 a3 a1).f1) ((rd_T101 a3 a1).f2) ((rd_T101 a3 a1).f3) ((rd_T101 a3 a1).f4) ((rd_T101 a3 a1).f5) ((rd_T101 a3 a1).f6))) else (types_edge.j0 k true ((rd_T101 a3 a1).f0) ((rd_T101 a3 a1).f1) ((rd_T101 a3 a1).f2) ((rd_T101 a3 a1).f3) ((rd_T101 a3 a1).f4) ((rd_T101 a3 a1).f5) ((rd_T101 a3 a1).f6)))))) = some r := by first | (rw [d4]; with_reducible exact H) | (have H2_ := (Option.bind_some _ _).symm.trans H; rw [d4]; with_reducible exact H2_) | (have H2_ := (Option.bind_some _ _).symm.trans H; with_reducible exact H2_) | with_reducible exact H | (rw [d4]; exact H) | exact H
 have d5 := Aside0.mk d4
 clear d4
 obtain ⟨d2, A9, H⟩ := obA H
 by_cases h2 : d2 = true
 rotate_left
 ·replace h2 := Bool.eq_false_iff.mpr h2
  subst h2
  replace H := iff_ H
  have g0 := Aside0.mk H
  clear H
  go_enter Tryz.func84, Tryz.ntmps84
  go_upto_region 7 with (first | ((with_reducible refine gate_dst (N := 2) rfl ?_); refine be 2 #[.slice c0 a6.length b9, .slice e0 a3.length a7] 31 ?_; intro c2 hg w4 hbox hb; have a4 := Aside0.mk (hbox); have n3 := bsz HB hg; replace HB := bstep HB hb; clear hb hbox hg; obtain ⟨n0, m9, j9, j8⟩ := cz2 a4; have d0 : 0 ≤ a1 := odt; have c9 : a1 < (a3.length : Int) := odt; obtain ⟨a8, e7, b7, b6, b5, b4, b3, b2, b1⟩ := at_T101 d6.out a1 d0 c9; cases e7; replace b7 := hxc HB b7; replace b6 := hxc HB b6; replace b5 := hxc HB b5; replace b4 := hxc HB b4; replace b3 := hxc HB b3; replace b2 := hxc HB b2; replace b1 := hxc HB b1; replace d0 := eq_true d0; replace c9 := eq_true c9) | ((with_reducible refine gate_dst (N := 5) rfl ?_); refine be 5 #[.string (⟨#[]⟩ : ByteArray), .int .i64 0, .int .i64 0, .int .i64 0, .int .i64 0, .int .i64 0, .int .i64 0] 101 ?_; intro b8 hg w3 hbox hb; have a5 := Aside0.mk (hbox); have n2 := bsz HB hg; replace HB := bstep HB hb; have b0 := blt a4 hg; have a9 := bgt a4 hg; replace a4 := bkb a4 hb; clear hb hbox hg; have v5 := a9.out; have v1 := b0.out; obtain ⟨m8, m7, m6, m5, m4, m3, m2, j7, j6, j5, j4, j3, j2, j1⟩ := cz7 a5) | ((with_reducible refine gate_callee (f := 100) rfl ?_); refine gl 16 Tryz.func100 #[.string ((rd_T101 a3 a1).f0)] (h := ?_); (with_reducible refine (token_IsName.calls _ _ _ _ A5.out).mono ?_); rintro e w2 ⟨rfl, hb⟩; refine ⟨_, rfl, ?_⟩; replace a4 := Aside0.mk (blk_below (g := c2) (o := .cells #[.slice c0 a6.length b9, .slice (some a8) a3.length a7] 31 (0, 0)) (bkF a4) hb); replace a5 := Aside0.mk (blk_below (g := b8) (o := .cells #[.string ((rd_T101 a3 a1).f0), .int .i64 ((rd_T101 a3 a1).f1), .int .i64 ((rd_T101 a3 a1).f2), .int .i64 ((rd_T101 a3 a1).f3), .int .i64 ((rd_T101 a3 a1).f4), .int .i64 ((rd_T101 a3 a1).f5), .int .i64 ((rd_T101 a3 a1).f6)] 101 (0, 0)) (bkP a5) hb); replace HB := bstep HB hb; clear hb; obtain ⟨m1, m0, h9, h8⟩ := cz2 a4; have g1 : (a1 : Int) ≤ ((a3.length : Int) : Int) := odt; obtain ⟨i028, g4, _, hsz28, _⟩ := info_parts info101; have hroom28 : a3.length ≤ a7 := h3.out; have hC28 : Kd.C k101 _ (some a8) a3.length a3 := d6.out; have hcut28 := cut_to (P := Tryz.prog) 29 101 .i64 Tryz.underlying29 g4 (some a8) a3.length a7 a1 (odt) g1 hroom28; have e5 := Kd.C_take (m := (a1 : Int).toNat) hC28 (by omega); have e3 : c1.length = (a1 : Int).toNat := (by rw [d5.out, List.length_take]; omega); rw [← d5.out] at e5; rw [← e3] at hcut28; have d8 := Aside0.mk e5; have d9 := Aside0.mk (show c1.length ≤ a7 from by omega); clear e5 hC28 hroom28 g4 hsz28; have KY28 := Aside0.mk e3; clear e3; replace g1 := eq_true g1) | ((with_reducible refine gate_callee (f := 106) rfl ?_); refine gl 24 Tryz.func106 #[.slice (some a8) c1.length a7, .func (.func 107) #[] #[.pointer (some ⟨b8, 0, none⟩)]] (h := ?_); (with_reducible refine (any_edge.calls _ _ c1 b8 ((rd_T101 a3 a1).f0) (.int .i64 ((rd_T101 a3 a1).f1)) (.int .i64 ((rd_T101 a3 a1).f2)) (.int .i64 ((rd_T101 a3 a1).f3)) (.int .i64 ((rd_T101 a3 a1).f4)) (.int .i64 ((rd_T101 a3 a1).f5)) (.int .i64 ((rd_T101 a3 a1).f6)) false _ (cb d8 HB) d9.out (bk a5) A9.out).mono ?_); rintro e w1 ⟨rfl, hb⟩; refine ⟨_, rfl, ?_⟩; replace a4 := bkb a4 hb; replace a5 := bkb a5 hb; replace HB := bstep HB hb; clear hb))
  (try simp only [Act.put, List.setIfInBounds_toArray, List.set_cons_zero, List.set_cons_succ])
  go_cut [25] (fun t5 wc => ∃ (kq : Nat) (d3 : Bool), t5 = .bool d3 ∧ Aside0 (types_edge.j0 kq d3 ((rd_T101 a3 a1).f0) ((rd_T101 a3 a1).f1) ((rd_T101 a3 a1).f2) ((rd_T101 a3 a1).f3) ((rd_T101 a3 a1).f4) ((rd_T101 a3 a1).f5) ((rd_T101 a3 a1).f6) = some r) ∧ Aside0 (kq ≤ k) ∧ Aside0 (wc.heap[c2]? = some (.cells #[(.slice c0 a6.length b9), (.slice (some a8) a3.length a7)] 31 (0, 0))) ∧ Aside0 (wc.heap[b8]? = some (.cells #[.string ((rd_T101 a3 a1).f0), .int .i64 ((rd_T101 a3 a1).f1), .int .i64 ((rd_T101 a3 a1).f2), .int .i64 ((rd_T101 a3 a1).f3), .int .i64 ((rd_T101 a3 a1).f4), .int .i64 ((rd_T101 a3 a1).f5), .int .i64 ((rd_T101 a3 a1).f6)] 101 (0, 0))) ∧ Aside0 (Below w.heap.size w wc))
  case first =>
   have H := g0.out
   clear g0
   obtain ⟨d1, n4, H⟩ := obA H
   by_cases h1 : d1 = true
   subst h1
   replace H := ift H
   obtain ⟨c7, t8, H⟩ := obA H
   have H' := Aside0.mk H
   clear H
   rotate_left
   replace h1 := Bool.eq_false_iff.mpr h1
   subst h1
   replace H := iff_ H
   have H' := Aside0.mk H
   clear H
   all_goals
    have v4 := a9.out
    have v0 := b0.out
    obtain ⟨s2, s1, s0, r9, r8, r7, r6, p7, p6, p5, p4, p3, p2, p1⟩ := cz7 a5
   ·go_wp2_with (go_at_call 105; (with_reducible refine (edge_inside.calls ((rd_T101 a3 a1).f1) c2 c0 b9 a6 (.slice (some a8) a3.length a7) false _ (bk a4) n4.out).mono ?_); rintro e w' ⟨rfl, ⟨nd, rfl⟩⟩)
    go_meet
    case rel => exact ⟨_, (true), eqs, H', ⟨by first | omega | exact Nat.le_refl _⟩, ⟨bk a4⟩, ⟨bk a5⟩, ⟨bb HB⟩⟩
   ·go_wp2_with (first | (go_at_call 105; (with_reducible refine (edge_inside.calls ((rd_T101 a3 a1).f1) c2 c0 b9 a6 (.slice (some a8) a3.length a7) true _ (bk a4) n4.out).mono ?_); rintro e w' ⟨rfl, ⟨nd, rfl⟩⟩) | (go_at_call 105; (with_reducible refine (edge_inside.calls ((rd_T101 a3 a1).f2) c2 c0 b9 a6 (.slice (some a8) a3.length a7) c7 _ (bk a4) t8.out).mono ?_); rintro e w' ⟨rfl, ⟨nd, rfl⟩⟩))
    go_meet
    case rel => exact ⟨_, (!c7), eqs, H', ⟨by first | omega | exact Nat.le_refl _⟩, ⟨bk a4⟩, ⟨bk a5⟩, ⟨bb HB⟩⟩
  case rest =>
   clear g0 e9 e8 n7 n6 n5 g1 n0 m9 m8 m7 m6 m5 m4 m3 m2 m1 m0 j9 j8 j7 j6 j5 j4 j3 j2 j1 h9 h8 b7 b6 b5 b4 b3 b2 b1 d0 c9
   obtain ⟨kq, d3, rfl, HA, w0, a4, a5, HB⟩ := hcut
   cases kq with
   | zero => exact absurd HA.out (by simp [types_edge.j0])
   | succ v9 =>
    have H := HA.out
    clear HA
    simp only [types_edge.j0] at H
    by_cases h0 : d3 = true
    ·subst h0
     replace H := ift H
     obtain rfl := Option.some.inj H
     go_wp2
     go_ret
     exact ⟨erf, bb HB⟩
    replace h0 := Bool.eq_false_iff.mpr h0
    subst h0
    replace H := iff_ H
    obtain ⟨e2, t7, H⟩ := obA H
    by_cases g9 : e2 = true
    subst g9
    replace H := ift H
    obtain ⟨e1, t6, H⟩ := obA H
    by_cases g8 : e1 = true
    subst g8
    replace H := ift H
    obtain rfl := Option.some.inj H
    rotate_left
    replace g8 := Bool.eq_false_iff.mpr g8
    subst g8
    replace H := iff_ H
    obtain rfl := Option.some.inj H
    rotate_left
    replace g9 := Bool.eq_false_iff.mpr g9
    subst g9
    replace H := iff_ H
    obtain rfl := Option.some.inj H
    all_goals
     have v3 := a9.out
     have t9 := b0.out
     obtain ⟨r5, r4, r3, r2, r1, r0, q9, p0, o9, o8, o7, o6, o5, o4⟩ := cz7 a5
     go_wp2_with (first | ((with_reducible refine gate_callee (f := 108) rfl ?_); refine gl 42 Tryz.func108 #[.int .i64 ((rd_T101 a3 a1).f3), .int .i64 ((rd_T101 a3 a1).f4)] (h := ?_); (with_reducible refine (types_bounded.calls _ _ _ _ t7.out).mono ?_); rintro e w' ⟨rfl, ⟨nd, rfl⟩⟩; refine ⟨_, rfl, ?_⟩) | (go_at_call 108; (with_reducible refine (types_bounded.calls _ _ _ _ t6.out).mono ?_); rintro e w' ⟨rfl, ⟨nd, rfl⟩⟩))
     go_ret
     exact ⟨erf, bb HB⟩
 rotate_left
 subst h2
 replace H := ift H
 obtain rfl := Option.some.inj H
 rotate_left
 replace c6 := Bool.eq_false_iff.mpr c6
 subst c6
 replace H := iff_ H
 obtain rfl := Option.some.inj H
 all_goals
  go_enter Tryz.func84, Tryz.ntmps84
  go_wp2_with (first | ((with_reducible refine gate_dst (N := 2) rfl ?_); refine be 2 #[.slice c0 a6.length b9, .slice e0 a3.length a7] 31 ?_; intro c2 hg w8 hbox hb; have a4 := Aside0.mk (hbox); have n3 := bsz HB hg; replace HB := bstep HB hb; clear hb hbox hg; obtain ⟨t3, t2, q8, q7⟩ := cz2 a4; have d0 : 0 ≤ a1 := odt; have c9 : a1 < (a3.length : Int) := odt; obtain ⟨a8, e7, b7, b6, b5, b4, b3, b2, b1⟩ := at_T101 d6.out a1 d0 c9; cases e7; replace b7 := hxc HB b7; replace b6 := hxc HB b6; replace b5 := hxc HB b5; replace b4 := hxc HB b4; replace b3 := hxc HB b3; replace b2 := hxc HB b2; replace b1 := hxc HB b1; replace d0 := eq_true d0; replace c9 := eq_true c9) | ((with_reducible refine gate_dst (N := 5) rfl ?_); refine be 5 #[.string (⟨#[]⟩ : ByteArray), .int .i64 0, .int .i64 0, .int .i64 0, .int .i64 0, .int .i64 0, .int .i64 0] 101 ?_; intro b8 hg w7 hbox hb; have a5 := Aside0.mk (hbox); have n2 := bsz HB hg; replace HB := bstep HB hb; have b0 := blt a4 hg; have a9 := bgt a4 hg; replace a4 := bkb a4 hb; clear hb hbox hg; have v6 := a9.out; have v2 := b0.out; obtain ⟨t1, t0, s9, s8, s7, s6, s5, q6, q5, q4, q3, q2, q1, q0⟩ := cz7 a5) | ((with_reducible refine gate_callee (f := 100) rfl ?_); refine gl 16 Tryz.func100 #[.string ((rd_T101 a3 a1).f0)] (h := ?_); (with_reducible refine (token_IsName.calls _ _ _ _ A5.out).mono ?_); rintro e w6 ⟨rfl, hb⟩; refine ⟨_, rfl, ?_⟩; replace a4 := Aside0.mk (blk_below (g := c2) (o := .cells #[.slice c0 a6.length b9, .slice (some a8) a3.length a7] 31 (0, 0)) (bkF a4) hb); replace a5 := Aside0.mk (blk_below (g := b8) (o := .cells #[.string ((rd_T101 a3 a1).f0), .int .i64 ((rd_T101 a3 a1).f1), .int .i64 ((rd_T101 a3 a1).f2), .int .i64 ((rd_T101 a3 a1).f3), .int .i64 ((rd_T101 a3 a1).f4), .int .i64 ((rd_T101 a3 a1).f5), .int .i64 ((rd_T101 a3 a1).f6)] 101 (0, 0)) (bkP a5) hb); replace HB := bstep HB hb; clear hb; obtain ⟨s4, s3, p9, p8⟩ := cz2 a4; (try (have n1 : (a1 : Int) ≤ ((a3.length : Int) : Int) := odt; obtain ⟨i018, g5, _, hsz18, _⟩ := info_parts info101; have hroom18 : a3.length ≤ a7 := h3.out; have hC18 : Kd.C k101 _ (some a8) a3.length a3 := d6.out; have hcut18 := cut_to (P := Tryz.prog) 29 101 .i64 Tryz.underlying29 g5 (some a8) a3.length a7 a1 (odt) n1 hroom18; have e6 := Kd.C_take (m := (a1 : Int).toNat) hC18 (by omega); have e4 : c1.length = (a1 : Int).toNat := (by rw [d5.out, List.length_take]; omega); rw [← d5.out] at e6; rw [← e4] at hcut18; have d8 := Aside0.mk e6; have d9 := Aside0.mk (show c1.length ≤ a7 from by omega); clear e6 hC18 hroom18 g5 hsz18; have KY18 := Aside0.mk e4; clear e4; replace n1 := eq_true n1))) | ((with_reducible refine gate_callee (f := 106) rfl ?_); refine gl 24 Tryz.func106 #[.slice (some a8) c1.length a7, .func (.func 107) #[] #[.pointer (some ⟨b8, 0, none⟩)]] (h := ?_); (with_reducible refine (any_edge.calls _ _ c1 b8 ((rd_T101 a3 a1).f0) (.int .i64 ((rd_T101 a3 a1).f1)) (.int .i64 ((rd_T101 a3 a1).f2)) (.int .i64 ((rd_T101 a3 a1).f3)) (.int .i64 ((rd_T101 a3 a1).f4)) (.int .i64 ((rd_T101 a3 a1).f5)) (.int .i64 ((rd_T101 a3 a1).f6)) true _ (cb d8 HB) d9.out (bk a5) A9.out).mono ?_); rintro e w5 ⟨rfl, hb⟩; refine ⟨_, rfl, ?_⟩; replace a4 := bkb a4 hb; replace a5 := bkb a5 hb; replace HB := bstep HB hb; clear hb))
  go_ret
  exact ⟨erf, bb HB⟩
mutual
def types_Valid.l0 : Nat → List (S96) → Int → Int → List (S96) → List (S101) → Option (ByteArray × Int)
 | 0, _, _, _, _, _ => none
 | k + 1, j7, n5, d8, b4, b3 => if d8 < n5 then (if 0 ≤ d8 then (if d8 < (j7.length : Int) then ((types_node.f k b4 b3 d8).bind fun g9 => (if g9 = 0 then (types_Valid.l0 k j7 n5 (wrap64 (d8 + 1)) b4 b3) else (some ((rd_T96 j7 d8).f0, g9)))) else (none)) else (none)) else (types_Valid.l1 k b3 (b3.length : Int) 0 b4 b3)
def types_Valid.l1 : Nat → List (S101) → Int → Int → List (S96) → List (S101) → Option (ByteArray × Int)
 | 0, _, _, _, _, _ => none
 | k + 1, j6, n4, d7, b4, b3 => if d7 < n4 then (if 0 ≤ d7 then (if d7 < (j6.length : Int) then ((types_edge.f k b4 b3 d7).bind fun g8 => (if g8 = 0 then (types_Valid.l1 k j6 n4 (wrap64 (d7 + 1)) b4 b3) else (some ((rd_T101 j6 d7).f0, g8)))) else (none)) else (none)) else (some ((⟨#[]⟩ : ByteArray), 0))
end
def types_Valid.f (k : Nat) (a3 : List (S96)) (a4 : List (S101)) : Option (ByteArray × Int) := if (a3.length : Int) = 0 then (some ((⟨#[]⟩ : ByteArray), 7)) else (if (a3.length : Int) > 12 then (some ((⟨#[]⟩ : ByteArray), 3)) else (if (a4.length : Int) > 20 then (some ((⟨#[]⟩ : ByteArray), 3)) else (types_Valid.l0 k a3 (a3.length : Int) 0 a3 a4)))
theorem types_Valid.mono_l : ∀ k, (∀ y0 y1 y2 y3 y4, LeO (types_Valid.l0 k y0 y1 y2 y3 y4) (types_Valid.l0 (k + 1) y0 y1 y2 y3 y4)) ∧ (∀ y0 y1 y2 y3 y4, LeO (types_Valid.l1 k y0 y1 y2 y3 y4) (types_Valid.l1 (k + 1) y0 y1 y2 y3 y4))
 | 0 => by refine ⟨?_, ?_⟩ <;> (intros; intro r h; simp [types_Valid.l0, types_Valid.l1] at h)
 | k + 1 => by
  obtain ⟨ih0, ih1⟩ := types_Valid.mono_l k
  refine ⟨?_, ?_⟩ <;> (intros; first | unfold types_Valid.l0 | unfold types_Valid.l1)
  all_goals with_reducible repeat' first | exact ih0 .. | exact ih1 .. | exact types_edge.mono .. | exact types_node.mono .. | exact LeO.refl _ | exact LeO.none _ | refine LeO.ite ?_ ?_ | refine LeO.bind ?_ fun _ => ?_
theorem types_Valid.mono : ∀ a0 a1 k, LeO (types_Valid.f k a0 a1) (types_Valid.f (k + 1) a0 a1) := by
 intro a0 a1 k
 obtain ⟨ih0, ih1⟩ := types_Valid.mono_l k
 unfold types_Valid.f
 with_reducible repeat' first | exact ih0 .. | exact ih1 .. | exact types_edge.mono .. | exact types_node.mono .. | exact LeO.refl _ | exact LeO.none _ | refine LeO.ite ?_ ?_ | refine LeO.bind ?_ fun _ => ?_
theorem types_Valid.calls (k : Nat) (b2 : Option Addr) (a8 : Nat) (a3 : List (S96)) (b1 : Option Addr) (a7 : Nat) (a4 : List (S101)) (r1 : ByteArray) (r2 : Int) (w : World) (b8 : Kd.C k96 w b2 a3.length a3) (c0 : a3.length ≤ a8) (b7 : Kd.C k101 w b1 a4.length a4) (b9 : a4.length ≤ a7) (h : types_Valid.f k a3 a4 = some (r1, r2)) :
  Calls Tryz.prog 57 #[.agg #[.slice b2 a3.length a8, .slice b1 a4.length a7]] w fun e w' => e = .returned (.tuple #[.string r1, .int .i64 r2]) ∧ Below w.heap.size w w' := by
 have hu31 := Tryz.underlying31
 have hu96 := Tryz.underlying96
 have hu101 := Tryz.underlying101
 have b6 := Aside0.mk b8
 have d0 := Aside0.mk c0
 clear b8 c0
 have b5 := Aside0.mk b7
 have c9 := Aside0.mk b9
 clear b7 b9
 have HB := Aside0.mk (Below.refl w.heap.size w)
 have H : (if (a3.length : Int) = 0 then (some ((⟨#[]⟩ : ByteArray), 7)) else (if (a3.length : Int) > 12 then (some ((⟨#[]⟩ : ByteArray), 3)) else (if (a4.length : Int) > 20 then (some ((⟨#[]⟩ : ByteArray), 3)) else (types_Valid.l0 k a3 (a3.length : Int) 0 a3 a4)))) = some (r1, r2) := h
 clear h
 by_cases c2 : (a3.length : Int) = 0
 rw [if_pos c2] at H
 have m3 := beq_iff_eq.mpr c2
 have m2 := bne_eq_false_iff_eq.mpr c2
 clear c2
 simp only [Option.some.injEq, Prod.mk.injEq] at H
 obtain ⟨rfl, rfl⟩ := H
 rotate_left
 rw [if_neg c2] at H
 have m3 := beq_eq_false_iff_ne.mpr c2
 have m2 := bne_iff_ne.mpr c2
 have p0 : ¬ (a3 = []) := fun h_ => c2 (by rw [h_]; rfl)
 by_cases c5 : (a3.length : Int) > 12
 rw [if_pos c5] at H
 have m1 : decide (12 < (a3.length : Int)) = true := decide_eq_true c5
 have m0 : decide (12 < a3.length) = true := decide_eq_true (by omega)
 clear c5
 simp only [Option.some.injEq, Prod.mk.injEq] at H
 obtain ⟨rfl, rfl⟩ := H
 rotate_left
 rw [if_neg c5] at H
 have m1 : decide (12 < (a3.length : Int)) = false := decide_eq_false c5
 have m0 : decide (12 < a3.length) = false := decide_eq_false (by omega)
 clear c5
 by_cases c8 : (a4.length : Int) > 20
 rw [if_pos c8] at H
 have j9 : decide (20 < (a4.length : Int)) = true := decide_eq_true c8
 have j8 : decide (20 < a4.length) = true := decide_eq_true (by omega)
 clear c8
 simp only [Option.some.injEq, Prod.mk.injEq] at H
 obtain ⟨rfl, rfl⟩ := H
 rotate_left
 rw [if_neg c8] at H
 have j9 : decide (20 < (a4.length : Int)) = false := decide_eq_false c8
 have j8 : decide (20 < a4.length) = false := decide_eq_false (by omega)
 clear c8
 have H' := Aside0.mk H
 clear H
 all_goals
  go_enter Tryz.func57, Tryz.ntmps57
  go_wp2_with ((with_reducible refine gate_dst (N := 1) rfl ?_); (try (refine gate_guard (by rfl) ?_; dsimp only)); refine be 1 #[.slice b2 a3.length a8, .slice b1 a4.length a7] 31 ?_; intro d1 hg v7 hbox hb; have a5 := Aside0.mk (hbox); have x8 := bsz HB hg; replace HB := bstep HB hb; clear hb hbox hg; obtain ⟨g5, g4, g3, g2⟩ := cz2 a5)
 ·go_loopg [29] k (fun kq v9 w' => ∃ (a9 : Int), v9 = .int .i64 a9 ∧ Aside0 (types_Valid.l0 kq a3 (a3.length : Int) a9 a3 a4 = some (r1, r2)) ∧ Aside0 (kq ≤ k) ∧ Aside0 (w'.heap[d1]? = some (.cells #[(.slice b2 a3.length a8), (.slice b1 a4.length a7)] 31 (0, 0))) ∧ Aside0 (Below w.heap.size w w'))
  case atStart => exact ⟨(0), eqs, H', ⟨Nat.le_refl _⟩, ⟨bk a5⟩, ⟨bb HB⟩⟩
  case round =>
   clear H' c2 m3 m2 p0 m1 m0 j9 j8 g5 g4 g3 g2
   obtain ⟨a9, rfl, HA, j1, a5, HB⟩ := hrel
   cases gk with
   | zero => exact absurd HA.out (by simp [types_Valid.l0])
   | succ k1 =>
    have H := HA.out
    clear HA
    simp only [types_Valid.l0] at H
    by_cases g7 : a9 < (a3.length : Int)
    ·rw [if_pos g7] at H
     have h8 := decide_eq_true g7
     clear g7
     obtain ⟨o1, H⟩ := itn H
     have x5 := decide_eq_true o1
     clear o1
     obtain ⟨o0, H⟩ := itn H
     have x4 := decide_eq_true o0
     clear o0
     obtain ⟨g9, w5, H⟩ := obA H
     by_cases d6 : g9 = 0
     rw [if_pos d6] at H
     have n2 := beq_iff_eq.mpr d6
     have n1 := bne_eq_false_iff_eq.mpr d6
     clear d6
     have H' := Aside0.mk H
     clear H
     rotate_left
     rw [if_neg d6] at H
     have n2 := beq_eq_false_iff_ne.mpr d6
     have n1 := bne_iff_ne.mpr d6
     simp only [Option.some.injEq, Prod.mk.injEq] at H
     obtain ⟨rfl, rfl⟩ := H
     all_goals
      have h7 : 0 ≤ a9 := odt
      have h5 : a9 < (a3.length : Int) := odt
      obtain ⟨j0, m5, m4, o7, e9, e8, e7, e6, g0, g1⟩ := at_T96 b6.out a9 h7 h5
      cases o7
      replace e9 := hxc HB e9
      replace e8 := hxc HB e8
      replace e7 := hxc HB e7
      replace e6 := hxc HB e6
      have v5 := Aside0.mk g1
      have v6 := Aside0.mk g0
      clear g1 g0
      replace h7 := eq_true h7
      replace h5 := eq_true h5
      go_wp2_with (first | ((with_reducible refine gate_dst (N := 5) rfl ?_); (try (refine gate_guard (by rfl) ?_; dsimp only)); refine be 5 #[.string (⟨#[]⟩ : ByteArray), .int .i64 0, .bool false, .slice none 0 0] 96 ?_; intro m7 hg y8 hbox hb; have d3 := Aside0.mk (hbox); have x7 := bsz HB hg; replace HB := bstep HB hb; have h3 := blt a5 hg; have h1 := bgt a5 hg; replace a5 := bkb a5 hb; clear hb hbox hg; have x1 := h1.out; have w8 := h3.out; obtain ⟨v4, v3, v2, v1, r8, r7, r6, r5⟩ := cz4 d3; obtain ⟨v0, t9, r4, r3⟩ := cz2 a5) | ((with_reducible refine gate_callee (f := 83) rfl ?_); refine gl 36 Tryz.func83 #[.agg #[.slice (some j0) a3.length a8, .slice b1 a4.length a7], .int .i64 a9] (h := ?_); (with_reducible refine (types_node.calls _ _ _ _ _ _ _ _ _ _ (Kd.C_below b6.out (bb HB)) d0.out (Kd.C_below b5.out (bb HB)) c9.out w5.out).mono ?_); rintro e y7 ⟨rfl, hb⟩; refine ⟨_, rfl, ?_⟩; replace a5 := Aside0.mk (blk_below (g := d1) (o := .cells #[.slice (some j0) a3.length a8, .slice b1 a4.length a7] 31 (0, 0)) (bkF a5) hb); replace d3 := Aside0.mk (blk_below (g := m7) (o := .cells #[.string ((rd_T96 a3 a9).f0), .int .i64 ((rd_T96 a3 a9).f1), .bool ((rd_T96 a3 a9).f2), .slice m5 ((rd_T96 a3 a9).f3).length m4] 96 (0, 0)) (bkP d3) hb); replace HB := bstep HB hb; clear hb; obtain ⟨t8, t7, t6, t5, r0, q9, q8, q7⟩ := cz4 d3))
     ·go_ret2
      exact ⟨erf, bb HB⟩
     ·go_roundg k1
      case measure => have := j1.out; omega
      case rel => exact ⟨(wrap64 (a9 + 1)), eqs, H', ⟨by have := j1.out; omega⟩, ⟨bk a5⟩, ⟨bb HB⟩⟩
    rw [if_neg g7] at H
    have h8 := decide_eq_false g7
    clear g7
    have H' := Aside0.mk H
    clear H
    obtain ⟨j5, j4, j3, j2⟩ := cz2 a5
    go_wp2
    go_loopg [46] k1 (fun kq v8 w' => ∃ (a6 : Int), v8 = .int .i64 a6 ∧ Aside0 (types_Valid.l1 kq a4 (a4.length : Int) a6 a3 a4 = some (r1, r2)) ∧ Aside0 (kq ≤ k1) ∧ Aside0 (w'.heap[d1]? = some (.cells #[(.slice b2 a3.length a8), (.slice b1 a4.length a7)] 31 (0, 0))) ∧ Aside0 (Below w.heap.size w w'))
    case atStart => exact ⟨(0), eqs, H', ⟨Nat.le_refl _⟩, ⟨bk a5⟩, ⟨bb HB⟩⟩
    case round =>
     clear H' h8 j5 j4 j3 j2
     obtain ⟨a6, rfl, HA, o3, a5, HB⟩ := hrel
     cases gk with
     | zero => exact absurd HA.out (by simp [types_Valid.l1])
     | succ k2 =>
      have H := HA.out
      clear HA
      simp only [types_Valid.l1] at H
      by_cases g6 : a6 < (a4.length : Int)
      rotate_left
      ·rw [if_neg g6] at H
       have n0 := decide_eq_false g6
       clear g6
       simp only [Option.some.injEq, Prod.mk.injEq] at H
       obtain ⟨rfl, rfl⟩ := H
       go_wp2
       go_ret2
       exact ⟨erf, bb HB⟩
      rw [if_pos g6] at H
      have n0 := decide_eq_true g6
      clear g6
      obtain ⟨n9, H⟩ := itn H
      have x3 := decide_eq_true n9
      clear n9
      obtain ⟨n8, H⟩ := itn H
      have x2 := decide_eq_true n8
      clear n8
      obtain ⟨g8, w4, H⟩ := obA H
      by_cases d5 : g8 = 0
      rw [if_pos d5] at H
      have m9 := beq_iff_eq.mpr d5
      have m8 := bne_eq_false_iff_eq.mpr d5
      clear d5
      have H' := Aside0.mk H
      clear H
      rotate_left
      rw [if_neg d5] at H
      have m9 := beq_eq_false_iff_ne.mpr d5
      have m8 := bne_iff_ne.mpr d5
      simp only [Option.some.injEq, Prod.mk.injEq] at H
      obtain ⟨rfl, rfl⟩ := H
      all_goals
       have h6 : 0 ≤ a6 := odt
       have h4 : a6 < (a4.length : Int) := odt
       obtain ⟨h9, o6, e5, e4, e3, e2, e1, e0, d9⟩ := at_T101 b5.out a6 h6 h4
       cases o6
       replace e5 := hxc HB e5
       replace e4 := hxc HB e4
       replace e3 := hxc HB e3
       replace e2 := hxc HB e2
       replace e1 := hxc HB e1
       replace e0 := hxc HB e0
       replace d9 := hxc HB d9
       replace h6 := eq_true h6
       replace h4 := eq_true h4
       go_wp2_with (first | ((with_reducible refine gate_dst (N := 8) rfl ?_); (try (refine gate_guard (by rfl) ?_; dsimp only)); refine be 8 #[.string (⟨#[]⟩ : ByteArray), .int .i64 0, .int .i64 0, .int .i64 0, .int .i64 0, .int .i64 0, .int .i64 0] 101 ?_; intro m6 hg y6 hbox hb; have d2 := Aside0.mk (hbox); have x6 := bsz HB hg; replace HB := bstep HB hb; have h2 := blt a5 hg; have h0 := bgt a5 hg; replace a5 := bkb a5 hb; clear hb hbox hg; have x0 := h0.out; have w6 := h2.out; obtain ⟨t4, t3, t2, t1, t0, s9, s8, q6, q5, q4, q3, q2, q1, q0⟩ := cz7 d2; obtain ⟨s7, s6, p9, p8⟩ := cz2 a5) | ((with_reducible refine gate_callee (f := 84) rfl ?_); refine gl 53 Tryz.func84 #[.agg #[.slice b2 a3.length a8, .slice (some h9) a4.length a7], .int .i64 a6] (h := ?_); (with_reducible refine (types_edge.calls _ _ _ _ _ _ _ _ _ _ (Kd.C_below b6.out (bb HB)) d0.out (Kd.C_below b5.out (bb HB)) c9.out w4.out).mono ?_); rintro e y5 ⟨rfl, hb⟩; refine ⟨_, rfl, ?_⟩; replace a5 := Aside0.mk (blk_below (g := d1) (o := .cells #[.slice b2 a3.length a8, .slice (some h9) a4.length a7] 31 (0, 0)) (bkF a5) hb); replace d2 := Aside0.mk (blk_below (g := m6) (o := .cells #[.string ((rd_T101 a4 a6).f0), .int .i64 ((rd_T101 a4 a6).f1), .int .i64 ((rd_T101 a4 a6).f2), .int .i64 ((rd_T101 a4 a6).f3), .int .i64 ((rd_T101 a4 a6).f4), .int .i64 ((rd_T101 a4 a6).f5), .int .i64 ((rd_T101 a4 a6).f6)] 101 (0, 0)) (bkP d2) hb); replace HB := bstep HB hb; clear hb; obtain ⟨s5, s4, s3, s2, s1, s0, r9, p7, p6, p5, p4, p3, p2, p1⟩ := cz7 d2))
      ·go_ret2
       exact ⟨erf, bb HB⟩
      ·go_roundg k2
       case measure => have := j1.out; have := o3.out; omega
       case rel => exact ⟨(wrap64 (a6 + 1)), eqs, H', ⟨by have := j1.out; have := o3.out; omega⟩, ⟨bk a5⟩, ⟨bb HB⟩⟩
 iterate 3
  ·go_ret2
   exact ⟨erf, bb HB⟩
def types_given.f (k : Nat) (a3 : List (S96)) (a4 : List (S101)) (l1 : List Int) : Option (Int) := (types_Valid.f k a3 a4).bind fun c7 => (if c7.2 = 0 then ((any_given.f l1 a3).bind fun d4 => (if d4 = true then (some 6) else (some 0))) else (some c7.2))
theorem types_given.mono : ∀ a0 a1 a2 k, LeO (types_given.f k a0 a1 a2) (types_given.f (k + 1) a0 a1 a2) := by
 intro a0 a1 a2 k
 unfold types_given.f
 with_reducible repeat' first | exact types_Valid.mono .. | exact LeO.refl _ | exact LeO.none _ | refine LeO.ite ?_ ?_ | refine LeO.bind ?_ fun _ => ?_
theorem types_given.calls (k : Nat) (b2 : Option Addr) (a8 : Nat) (a3 : List (S96)) (b1 : Option Addr) (a7 : Nat) (a4 : List (S101)) (A1 : Option Addr) (c1 : Nat) (l1 : List Int) (r : Int) (w : World) (b8 : Kd.C k96 w b2 a3.length a3) (c0 : a3.length ≤ a8) (b7 : Kd.C k101 w b1 a4.length a4) (b9 : a4.length ≤ a7) (n6 : Kd.C (Kd.int .i64) w A1 l1.length l1) (n7 : l1.length ≤ c1) (h : types_given.f k a3 a4 l1 = some r) :
  Calls Tryz.prog 79 #[.agg #[.slice b2 a3.length a8, .slice b1 a4.length a7], .slice A1 l1.length c1] w fun e w' => e = .returned (.int .i64 r) ∧ Below w.heap.size w w' := by
 have hu31 := Tryz.underlying31
 have b6 := Aside0.mk b8
 have d0 := Aside0.mk c0
 clear b8 c0
 have b5 := Aside0.mk b7
 have c9 := Aside0.mk b9
 clear b7 b9
 have o2 := Aside0.mk n6
 have o4 := Aside0.mk n7
 clear n6 n7
 have HB := Aside0.mk (Below.refl w.heap.size w)
 have H : ((types_Valid.f k a3 a4).bind fun c7 => (if c7.2 = 0 then ((any_given.f l1 a3).bind fun d4 => (if d4 = true then (some 6) else (some 0))) else (some c7.2))) = some r := h
 clear h
 obtain ⟨⟨x9, o5⟩, A3, H⟩ := obA H
 try dsimp only at H
 by_cases c4 : o5 = 0
 rw [if_pos c4] at H
 have o9 := beq_iff_eq.mpr c4
 have o8 := bne_eq_false_iff_eq.mpr c4
 clear c4
 obtain ⟨d4, A5, H⟩ := obA H
 by_cases c6 : d4 = true
 ·subst c6
  replace H := ift H
  obtain rfl := Option.some.inj H
  go_enter Tryz.func79, Tryz.ntmps79
  go_wp2_with (first | ((with_reducible refine gate_dst (N := 2) rfl ?_); refine be 2 #[.slice b2 a3.length a8, .slice b1 a4.length a7] 31 ?_; intro c3 hg w7 hbox hb; have b0 := Aside0.mk (hbox); have n3 := bsz HB hg; replace HB := bstep HB hb; clear hb hbox hg; obtain ⟨w3, w2, w1, w0⟩ := cz2 b0) | ((with_reducible refine gate_callee (f := 57) rfl ?_); refine gl 9 Tryz.func57 #[.agg #[.slice b2 a3.length a8, .slice b1 a4.length a7]] (h := ?_); (with_reducible refine (types_Valid.calls _ _ _ _ _ _ _ _ _ _ (cb b6 HB) d0.out (cb b5 HB) c9.out A3.out).mono ?_); rintro e w9 ⟨rfl, hb⟩; refine ⟨_, rfl, ?_⟩; replace b0 := bkb b0 hb; replace HB := bstep HB hb; clear hb) | ((with_reducible refine gate_callee (f := 68) rfl ?_); refine gl 17 Tryz.func68 #[.slice A1 l1.length c1, .func (.func 96) #[] #[.pointer (some ⟨c3, 0, none⟩)]] (h := ?_); (with_reducible refine (any_given.calls _ _ l1 c3 b2 a8 a3 (.slice b1 a4.length a7) true _ (cb o2 HB) o4.out (bk b0) A5.out).mono ?_); rintro e A2 ⟨rfl, hb⟩; refine ⟨_, rfl, ?_⟩; replace b0 := bkb b0 hb; replace HB := bstep HB hb; clear hb))
  go_ret
  exact ⟨erf, bb HB⟩
 replace c6 := Bool.eq_false_iff.mpr c6
 subst c6
 replace H := iff_ H
 obtain rfl := Option.some.inj H
 rotate_left
 rw [if_neg c4] at H
 have o9 := beq_eq_false_iff_ne.mpr c4
 have o8 := bne_iff_ne.mpr c4
 obtain rfl := Option.some.inj H
 all_goals
  go_enter Tryz.func79, Tryz.ntmps79
  go_wp2_with (first | ((with_reducible refine gate_dst (N := 2) rfl ?_); refine be 2 #[.slice b2 a3.length a8, .slice b1 a4.length a7] 31 ?_; intro c3 hg v7 hbox hb; have b0 := Aside0.mk (hbox); have n3 := bsz HB hg; replace HB := bstep HB hb; clear hb hbox hg; obtain ⟨g5, g4, g3, g2⟩ := cz2 b0) | ((with_reducible refine gate_callee (f := 57) rfl ?_); refine gl 9 Tryz.func57 #[.agg #[.slice b2 a3.length a8, .slice b1 a4.length a7]] (h := ?_); (with_reducible refine (types_Valid.calls _ _ _ _ _ _ _ _ _ _ (cb b6 HB) d0.out (cb b5 HB) c9.out A3.out).mono ?_); rintro e A0 ⟨rfl, hb⟩; refine ⟨_, rfl, ?_⟩; replace b0 := bkb b0 hb; replace HB := bstep HB hb; clear hb) | ((with_reducible refine gate_callee (f := 68) rfl ?_); refine gl 17 Tryz.func68 #[.slice A1 l1.length c1, .func (.func 96) #[] #[.pointer (some ⟨c3, 0, none⟩)]] (h := ?_); (with_reducible refine (any_given.calls _ _ l1 c3 b2 a8 a3 (.slice b1 a4.length a7) false _ (cb o2 HB) o4.out (bk b0) A5.out).mono ?_); rintro e y9 ⟨rfl, hb⟩; refine ⟨_, rfl, ?_⟩; replace b0 := bkb b0 hb; replace HB := bstep HB hb; clear hb))
  go_ret
  exact ⟨erf, bb HB⟩
end Go.Proofs.YtfpianecohobjaaGreat.P
