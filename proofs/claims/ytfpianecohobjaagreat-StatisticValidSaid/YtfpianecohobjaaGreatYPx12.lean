/- StatisticOf: a part of its proof. No condition. -/
import Derived.Test.YtfpianecohobjaaGreatYPx0
import Derived.Test.YtfpianecohobjaaGreatYPx11
import Derived.Test.YtfpianecohobjaaGreatYMc
import Derived.Test.YtfpianecohobjaaGreatYPx8
namespace Go.Proofs.YtfpianecohobjaaGreat.P
open Go.RowKit Go.Proofs.YtfpianecohobjaaGreatW.PrintWords Go.Proofs.YtfpianecohobjaaGreatW.PrintLast Go.Proofs.YtfpianecohobjaaGreatW.PrintMore
set_option linter.unusedVariables false
set_option linter.unusedSimpArgs false
mutual
def statistic_typed.l0 : Nat → List Int → Int → Int → List (S96) → List (S101) → List Int → List (S56) → Option (Int)
 | 0, _, _, _, _, _, _, _ => none
 | k + 1, p9, q9, j9, e4, e3, c8, e2 => if j9 < q9 then (if 0 ≤ j9 then (if j9 < (p9.length : Int) then (if (rd p9 j9) ≥ (e4.length : Int) then (some 6) else (statistic_typed.l0 k p9 q9 (wrap64 (j9 + 1)) e4 e3 c8 e2)) else (none)) else (none)) else (statistic_typed.l1 k e2 (e2.length : Int) 0 e4 e3 c8 e2)
def statistic_typed.l1 : Nat → List (S56) → Int → Int → List (S96) → List (S101) → List Int → List (S56) → Option (Int)
 | 0, _, _, _, _, _, _, _ => none
 | k + 1, g5, q8, g3, e4, e3, c8, e2 => if g3 < q8 then (if 0 ≤ g3 then (if g3 < (g5.length : Int) then (if ((rd_T56 g5 g3).f0) ≥ (e3.length : Int) then (some 6) else (if 0 ≤ ((rd_T56 g5 g3).f1) then (if ((rd_T56 g5 g3).f1) < (c8.length : Int) then (if 0 ≤ ((rd_T56 g5 g3).f2) then (if ((rd_T56 g5 g3).f2) < (c8.length : Int) then ((types_Fits.f k e4 e3 ((rd_T56 g5 g3).f0) (rd c8 ((rd_T56 g5 g3).f1)) (rd c8 ((rd_T56 g5 g3).f2))).bind fun m2 => (if m2 = true then (statistic_typed.l1 k g5 q8 (wrap64 (g3 + 1)) e4 e3 c8 e2) else (some 13))) else (none)) else (none)) else (none)) else (none))) else (none)) else (none)) else (some 0)
end
def statistic_typed.f (k : Nat) (b2 : List (S96)) (b1 : List (S101)) (a8 : List Int) (a5 : List (S56)) : Option (Int) := (types_Valid.f k b2 b1).bind fun h2 => (if h2.2 = 0 then ((graph_Valid.f k a8 a5).bind fun e0 => (if e0 = 0 then (statistic_typed.l0 k a8 (a8.length : Int) 0 b2 b1 a8 a5) else (some e0))) else (some h2.2))
theorem statistic_typed.mono_l : ∀ k, (∀ y0 y1 y2 y3 y4 y5 y6, LeO (statistic_typed.l0 k y0 y1 y2 y3 y4 y5 y6) (statistic_typed.l0 (k + 1) y0 y1 y2 y3 y4 y5 y6)) ∧ (∀ y0 y1 y2 y3 y4 y5 y6, LeO (statistic_typed.l1 k y0 y1 y2 y3 y4 y5 y6) (statistic_typed.l1 (k + 1) y0 y1 y2 y3 y4 y5 y6))
 | 0 => ⟨fun _ _ _ _ _ _ _ r h => by simp [statistic_typed.l0] at h, fun _ _ _ _ _ _ _ r h => by simp [statistic_typed.l1] at h⟩
 | k + 1 => by
  obtain ⟨ih0, ih1⟩ := statistic_typed.mono_l k
  refine ⟨?_, ?_⟩
  ·intro y0 y1 y2 y3 y4 y5 y6
   unfold statistic_typed.l0
   repeat' first
   | (with_reducible exact ih0 _ _ _ _ _ _ _)
   | (with_reducible exact ih1 _ _ _ _ _ _ _)
   | (with_reducible exact graph_Valid.mono _ _ _)
   | (with_reducible exact types_Fits.mono _ _ _ _ _ _)
   | (with_reducible exact types_Valid.mono _ _ _)
   | (with_reducible exact LeO.refl _)
   | (with_reducible exact LeO.none _)
   | (with_reducible refine LeO.ite ?_ ?_)
   | (with_reducible refine LeO.bind ?_ (fun _ => ?_))
  ·intro y0 y1 y2 y3 y4 y5 y6
   unfold statistic_typed.l1
   repeat' first
   | (with_reducible exact ih0 _ _ _ _ _ _ _)
   | (with_reducible exact ih1 _ _ _ _ _ _ _)
   | (with_reducible exact graph_Valid.mono _ _ _)
   | (with_reducible exact types_Fits.mono _ _ _ _ _ _)
   | (with_reducible exact types_Valid.mono _ _ _)
   | (with_reducible exact LeO.refl _)
   | (with_reducible exact LeO.none _)
   | (with_reducible refine LeO.ite ?_ ?_)
   | (with_reducible refine LeO.bind ?_ (fun _ => ?_))
theorem statistic_typed.mono : ∀ a0 a1 a2 a3 k, LeO (statistic_typed.f k a0 a1 a2 a3) (statistic_typed.f (k + 1) a0 a1 a2 a3) := by
 intro a0 a1 a2 a3 k
 obtain ⟨ih0, ih1⟩ := statistic_typed.mono_l k
 unfold statistic_typed.f
 repeat' first
   | (with_reducible exact ih0 _ _ _ _ _ _ _)
   | (with_reducible exact ih1 _ _ _ _ _ _ _)
   | (with_reducible exact graph_Valid.mono _ _ _)
   | (with_reducible exact types_Fits.mono _ _ _ _ _ _)
   | (with_reducible exact types_Valid.mono _ _ _)
   | (with_reducible exact LeO.refl _)
   | (with_reducible exact LeO.none _)
   | (with_reducible refine LeO.ite ?_ ?_)
   | (with_reducible refine LeO.bind ?_ (fun _ => ?_))
def statistic_typed.T18 : Bool × List (List Nat × List Nat) := (true, [([], []), ([], []), ([1], [1]), ([], []), ([3], [3]), ([], []), ([5], [5]), ([4, 6], [4, 6]), ([7], [7]), ([], []), ([9], [9]), ([], []), ([11], [11]), ([10, 12], [10, 12]), ([13], [13]), ([0, 2, 8, 14], [0, 2, 8, 14]), ([15], [15])])
def statistic_typed.B18 : List Nat := [0, 0, 2, 0, 8, 0, 32, 120, 248, 0, 512, 0, 2048, 7680, 15872, 32767, 65535]
theorem statistic_typed.tab18 : rtab .any (opsOf Tryz.f40 18) = statistic_typed.T18 := by kernel_rfl
theorem statistic_typed.bits18 : waitsOk statistic_typed.T18.2 statistic_typed.B18 = true := by kernel_rfl
set_option maxHeartbeats 8000000 in
set_option maxRecDepth 100000 in
theorem statistic_typed.calls (k : Nat) (c7 : Option Addr) (c3 : Nat) (b2 : List (S96)) (c5 : Option Addr) (c2 : Nat) (b1 : List (S101)) (e7 : Option Addr) (d3 : Nat) (a8 : List Int) (g2 : Option Addr) (d2 : Nat) (a5 : List (S56)) (r : Int) (w : World) (n0 : Kd.C k96 w c7 b2.length b2) (n4 : b2.length ≤ c3) (m9 : Kd.C k101 w c5 b1.length b1) (n3 : b1.length ≤ c2) (m8 : Kd.C (Kd.int .i64) w e7 a8.length a8) (n2 : a8.length ≤ d3) (m7 : Kd.C k56 w g2 a5.length a5) (n1 : a5.length ≤ d2) (h : statistic_typed.f k b2 b1 a8 a5 = some r) :
  Calls Tryz.prog 40 #[.agg #[.slice c7 b2.length c3, .slice c5 b1.length c2], .agg #[.slice e7 a8.length d3, .slice g2 a5.length d2]] w fun e w' => e = .returned (.int .i64 r) ∧ Below w.heap.size w w' := by
 have hu31 := Tryz.underlying31
 have hu35 := Tryz.underlying35
 have hu56 := Tryz.underlying56
 have h5 := Aside0.mk n0
 have h7 := Aside0.mk n4
 clear n0 n4
 have h4 := Aside0.mk m9
 have h6 := Aside0.mk n3
 clear m9 n3
 have e8 := Aside0.mk m8
 have n9 := Aside0.mk n2
 clear m8 n2
 have h3 := Aside0.mk m7
 have n8 := Aside0.mk n1
 clear m7 n1
 have HB := Aside0.mk (Below.refl w.heap.size w)
 have H : ((types_Valid.f k b2 b1).bind fun h2 => (if h2.2 = 0 then ((graph_Valid.f k a8 a5).bind fun e0 => (if e0 = 0 then (statistic_typed.l0 k a8 (a8.length : Int) 0 b2 b1 a8 a5) else (some e0))) else (some h2.2))) = some r := h
 clear h
 obtain ⟨⟨m3, h8⟩, A3, H⟩ := obA H
 replace H : (if h8 = 0 then ((graph_Valid.f k a8 a5).bind fun e0 => (if e0 = 0 then (statistic_typed.l0 k a8 (a8.length : Int) 0 b2 b1 a8 a5) else (some e0))) else (some h8)) = some r := H
 by_cases c4 : h8 = 0
 rotate_left
 ·rw [if_neg c4] at H
  have q3 := beq_eq_false_iff_ne.mpr c4
  have q2 := bne_iff_ne.mpr c4
  obtain rfl := Option.some.inj H
  go_enter Tryz.func40, Tryz.ntmps40
  go_wp2_with (first | ((with_reducible refine gate_dst (N := 2) rfl ?_); refine be 2 #[.slice c7 b2.length c3, .slice c5 b1.length c2] 31 ?_; intro d5 hg G5 hbox hb; have a6 := Aside0.mk (hbox); have o2 := bsz HB hg; replace HB := bstep HB hb; clear hb hbox hg) | ((with_reducible refine gate_dst (N := 3) rfl ?_); refine be 3 #[.slice e7 a8.length d3, .slice g2 a5.length d2] 35 ?_; intro d4 hg G4 hbox hb; have a7 := Aside0.mk (hbox); have o1 := bsz HB hg; replace HB := bstep HB hb; have b4 := blt a6 hg; have b3 := bgt a6 hg; replace a6 := bkb a6 hb; clear hb hbox hg; have D9 := b4.out; have C5 := b3.out; obtain ⟨w5, w4, t0, s9⟩ := cz2 a6) | ((with_reducible refine gate_callee (f := 57) rfl ?_); refine gl 14 Tryz.func57 #[.agg #[.slice c7 b2.length c3, .slice c5 b1.length c2]] (h := ?_); (with_reducible refine (types_Valid.calls k _ _ b2 _ _ b1 m3 h8 _ ?b9 ?b8 ?b7 ?b6 A3.out).mono ?_); (case b9 => exact cb h5 HB); (case b8 => exact h7.out); (case b7 => exact cb h4 HB); (case b6 => exact h6.out); rintro e G3 ⟨rfl, hb⟩; refine ⟨_, rfl, ?_⟩; replace a6 := bkb a6 hb; replace a7 := bkb a7 hb; replace HB := bstep HB hb; (try clear hb); (try clear hb2); (try clear hk); (try clear hi)))
  go_ret
  exact ⟨erf, bb HB⟩
 rw [if_pos c4] at H
 have q3 := beq_iff_eq.mpr c4
 have q2 := bne_eq_false_iff_eq.mpr c4
 clear c4
 obtain ⟨e0, A5, H⟩ := obA H
 by_cases c6 : e0 = 0
 rotate_left
 ·rw [if_neg c6] at H
  have q1 := beq_eq_false_iff_ne.mpr c6
  have q0 := bne_iff_ne.mpr c6
  obtain rfl := Option.some.inj H
  go_enter Tryz.func40, Tryz.ntmps40
  go_wp2_with (first | ((with_reducible refine gate_dst (N := 2) rfl ?_); refine be 2 #[.slice c7 b2.length c3, .slice c5 b1.length c2] 31 ?_; intro d5 hg G9 hbox hb; have a6 := Aside0.mk (hbox); have o2 := bsz HB hg; replace HB := bstep HB hb; clear hb hbox hg) | ((with_reducible refine gate_dst (N := 3) rfl ?_); refine be 3 #[.slice e7 a8.length d3, .slice g2 a5.length d2] 35 ?_; intro d4 hg G8 hbox hb; have a7 := Aside0.mk (hbox); have o1 := bsz HB hg; replace HB := bstep HB hb; have b4 := blt a6 hg; have b3 := bgt a6 hg; replace a6 := bkb a6 hb; clear hb hbox hg; have E0 := b4.out; have C6 := b3.out; obtain ⟨x1, x0, t4, t3⟩ := cz2 a6) | ((with_reducible refine gate_callee (f := 57) rfl ?_); refine gl 14 Tryz.func57 #[.agg #[.slice c7 b2.length c3, .slice c5 b1.length c2]] (h := ?_); (with_reducible refine (types_Valid.calls k _ _ b2 _ _ b1 m3 h8 _ ?b9 ?b8 ?b7 ?b6 A3.out).mono ?_); (case b9 => exact cb h5 HB); (case b8 => exact h7.out); (case b7 => exact cb h4 HB); (case b6 => exact h6.out); rintro e G7 ⟨rfl, hb⟩; refine ⟨_, rfl, ?_⟩; replace a6 := bkb a6 hb; replace a7 := bkb a7 hb; replace HB := bstep HB hb; (try clear hb); (try clear hb2); (try clear hk); (try clear hi); obtain ⟨w9, w6, t2, t1⟩ := cz2 a7) | ((with_reducible refine gate_callee (f := 37) rfl ?_); refine gl 21 Tryz.func37 #[.agg #[.slice e7 a8.length d3, .slice g2 a5.length d2]] (h := ?_); (with_reducible refine (graph_Valid.calls k _ _ a8 _ _ a5 e0 _ ?b9 ?b8 ?b7 ?b6 A5.out).mono ?_); (case b9 => exact cb e8 HB); (case b8 => exact n9.out); (case b7 => exact cb h3 HB); (case b6 => exact n8.out); rintro e G6 ⟨rfl, hb⟩; refine ⟨_, rfl, ?_⟩; replace a6 := bkb a6 hb; replace a7 := bkb a7 hb; replace HB := bstep HB hb; (try clear hb); (try clear hb2); (try clear hk); (try clear hi)))
  go_ret
  exact ⟨erf, bb HB⟩
 rw [if_pos c6] at H
 have q1 := beq_iff_eq.mpr c6
 have q0 := bne_eq_false_iff_eq.mpr c6
 clear c6
 have H' := Aside0.mk H
 clear H
 go_enter Tryz.func40, Tryz.ntmps40
 go_wp2_with (first | ((with_reducible refine gate_dst (N := 2) rfl ?_); refine be 2 #[.slice c7 b2.length c3, .slice c5 b1.length c2] 31 ?_; intro d5 hg w7 hbox hb; have a6 := Aside0.mk (hbox); have o2 := bsz HB hg; replace HB := bstep HB hb; clear hb hbox hg) | ((with_reducible refine gate_dst (N := 3) rfl ?_); refine be 3 #[.slice e7 a8.length d3, .slice g2 a5.length d2] 35 ?_; intro d4 hg w8 hbox hb; have a7 := Aside0.mk (hbox); have o1 := bsz HB hg; replace HB := bstep HB hb; have b4 := blt a6 hg; have b3 := bgt a6 hg; replace a6 := bkb a6 hb; clear hb hbox hg; have G2 := b4.out; have G1 := b3.out; obtain ⟨p8, p7, p0, o9⟩ := cz2 a6) | ((with_reducible refine gate_callee (f := 57) rfl ?_); refine gl 14 Tryz.func57 #[.agg #[.slice c7 b2.length c3, .slice c5 b1.length c2]] (h := ?_); (with_reducible refine (types_Valid.calls k _ _ b2 _ _ b1 m3 h8 _ ?b9 ?b8 ?b7 ?b6 A3.out).mono ?_); (case b9 => exact cb h5 HB); (case b8 => exact h7.out); (case b7 => exact cb h4 HB); (case b6 => exact h6.out); rintro e H6 ⟨rfl, hb⟩; refine ⟨_, rfl, ?_⟩; replace a6 := bkb a6 hb; replace a7 := bkb a7 hb; replace HB := bstep HB hb; (try clear hb); (try clear hb2); (try clear hk); (try clear hi); obtain ⟨p6, p5, o8, o7⟩ := cz2 a7) | ((with_reducible refine gate_callee (f := 37) rfl ?_); refine gl 21 Tryz.func37 #[.agg #[.slice e7 a8.length d3, .slice g2 a5.length d2]] (h := ?_); (with_reducible refine (graph_Valid.calls k _ _ a8 _ _ a5 e0 _ ?b9 ?b8 ?b7 ?b6 A5.out).mono ?_); (case b9 => exact cb e8 HB); (case b8 => exact n9.out); (case b7 => exact cb h3 HB); (case b6 => exact n8.out); rintro e H5 ⟨rfl, hb⟩; refine ⟨_, rfl, ?_⟩; replace a6 := bkb a6 hb; replace a7 := bkb a7 hb; replace HB := bstep HB hb; (try clear hb); (try clear hb2); (try clear hk); (try clear hi); obtain ⟨p4, p3, o6, o5⟩ := cz2 a7))
 go_loopg [28] k (fun kq C4 w' => ∃ (b5 : Int), C4 = .int .i64 b5 ∧ Aside0 (statistic_typed.l0 kq a8 (a8.length : Int) b5 b2 b1 a8 a5 = some r) ∧ Aside0 (kq ≤ k) ∧ Aside0 (w'.heap[d5]? = some (.cells #[(.slice c7 b2.length c3), (.slice c5 b1.length c2)] 31 (0, 0))) ∧ Aside0 (w'.heap[d4]? = some (.cells #[(.slice e7 a8.length d3), (.slice g2 a5.length d2)] 35 (0, 0))) ∧ Aside0 (Below w.heap.size w w'))
 case atStart => exact ⟨(0), eqs, H', ⟨Nat.le_refl _⟩, ⟨bk a6⟩, ⟨bk a7⟩, ⟨bb HB⟩⟩
 case round =>
  clear H'
  clear q3
  clear q2
  clear q1
  clear q0
  clear p8
  clear p7
  clear p6
  clear p5
  clear p4
  clear p3
  clear p0
  clear o9
  clear o8
  clear o7
  clear o6
  clear o5
  obtain ⟨b5, rfl, HA, n7, a6, a7, HB⟩ := hrel
  cases gk with
  | zero => exact absurd HA.out (by simp [statistic_typed.l0])
  | succ k1 =>
   have H := HA.out
   clear HA
   simp only [statistic_typed.l0] at H
   by_cases j7 : b5 < (a8.length : Int)
   ·rw [if_pos j7] at H
    have n6 := decide_eq_true j7
    clear j7
    obtain ⟨r7, H⟩ := itn H
    have G0 := decide_eq_true r7
    clear r7
    obtain ⟨r6, H⟩ := itn H
    have F9 := decide_eq_true r6
    clear r6
    by_cases j6 : (rd a8 b5) ≥ (b2.length : Int)
    ·rw [if_pos j6] at H
     have q6 : decide ((b2.length : Int) ≤ (rd a8 b5)) = true := decide_eq_true j6
     clear j6
     obtain rfl := Option.some.inj H
     have h1 : 0 ≤ b5 := odt
     have g8 : b5 < (a8.length : Int) := odt
     obtain ⟨q7, m6, e9⟩ := Kd.at_int e8.out b5 h1 g8
     cases m6
     replace e9 := hxc HB e9
     replace h1 := eq_true h1
     replace g8 := eq_true g8
     have F2 := b4.out
     have D8 := b3.out
     obtain ⟨C0, A9, w3, w2⟩ := cz2 a6
     go_wp2
     go_ret
     exact ⟨erf, bb HB⟩
    rw [if_neg j6] at H
    have q6 : decide ((b2.length : Int) ≤ (rd a8 b5)) = false := decide_eq_false j6
    clear j6
    have H' := Aside0.mk H
    clear H
    have h1 : 0 ≤ b5 := odt
    have g8 : b5 < (a8.length : Int) := odt
    obtain ⟨q7, m6, e9⟩ := Kd.at_int e8.out b5 h1 g8
    cases m6
    replace e9 := hxc HB e9
    replace h1 := eq_true h1
    replace g8 := eq_true g8
    have F1 := b4.out
    have D7 := b3.out
    obtain ⟨A8, A7, w1, w0⟩ := cz2 a6
    go_wp2
    go_roundg k1
    case measure => have := n7.out; omega
    case rel => exact ⟨(wrap64 (b5 + 1)), eqs, H', ⟨by have := n7.out; omega⟩, ⟨bk a6⟩, ⟨bk a7⟩, ⟨bb HB⟩⟩
   rw [if_neg j7] at H
   have n6 := decide_eq_false j7
   clear j7
   have H' := Aside0.mk H
   clear H
   have F0 := b3.out
   have D6 := b4.out
   obtain ⟨p2, p1, o4, o3⟩ := cz2 a7
   go_wp2
   go_loopg [41] k1 (fun kq C3 w' => ∃ (a4 : Int), C3 = .int .i64 a4 ∧ Aside0 (statistic_typed.l1 kq a5 (a5.length : Int) a4 b2 b1 a8 a5 = some r) ∧ Aside0 (kq ≤ k1) ∧ Aside0 (w'.heap[d5]? = some (.cells #[(.slice c7 b2.length c3), (.slice c5 b1.length c2)] 31 (0, 0))) ∧ Aside0 (w'.heap[d4]? = some (.cells #[(.slice e7 a8.length d3), (.slice g2 a5.length d2)] 35 (0, 0))) ∧ Aside0 (Below w.heap.size w w'))
   case atStart => exact ⟨(0), eqs, H', ⟨Nat.le_refl _⟩, ⟨bk a6⟩, ⟨bk a7⟩, ⟨bb HB⟩⟩
   case round =>
    clear H'
    clear n6
    clear p2
    clear p1
    clear o4
    clear o3
    obtain ⟨a4, rfl, HA, r8, a6, a7, HB⟩ := hrel
    cases gk with
    | zero => exact absurd HA.out (by simp [statistic_typed.l1])
    | succ k2 =>
     have H := HA.out
     clear HA
     simp only [statistic_typed.l1] at H
     by_cases j5 : a4 < (a5.length : Int)
     rotate_left
     ·rw [if_neg j5] at H
      have q5 := decide_eq_false j5
      clear j5
      obtain rfl := Option.some.inj H
      go_wp2
      go_ret
      exact ⟨erf, bb HB⟩
     rw [if_pos j5] at H
     have q5 := decide_eq_true j5
     clear j5
     obtain ⟨r5, H⟩ := itn H
     have F8 := decide_eq_true r5
     clear r5
     obtain ⟨r4, H⟩ := itn H
     have F7 := decide_eq_true r4
     clear r4
     by_cases j4 : ((rd_T56 a5 a4).f0) ≥ (b1.length : Int)
     ·rw [if_pos j4] at H
      have q4 : decide ((b1.length : Int) ≤ ((rd_T56 a5 a4).f0)) = true := decide_eq_true j4
      clear j4
      obtain rfl := Option.some.inj H
      have e6 : 0 ≤ a4 := odt
      have e5 : a4 < (a5.length : Int) := odt
      obtain ⟨g4, j3, d1, d0, c9⟩ := at_T56 h3.out a4 e6 e5
      cases j3
      replace d1 := hxc HB d1
      replace d0 := hxc HB d0
      replace c9 := hxc HB c9
      replace e6 := eq_true e6
      replace e5 := eq_true e5
      go_wp2_with ((with_reducible refine gate_dst (N := 11) rfl ?_); refine be 11 #[.int .i64 0, .int .i64 0, .int .i64 0] 56 ?_; intro a9 hg H4 hbox hb; have b0 := Aside0.mk (hbox); have o0 := bsz HB hg; replace HB := bstep HB hb; have d9 := blt a6 hg; have d7 := bgt a6 hg; replace a6 := bkb a6 hb; have d8 := blt a7 hg; have d6 := bgt a7 hg; replace a7 := bkb a7 hb; clear hb hbox hg; have E9 := d7.out; have D5 := d9.out; have E8 := d6.out; have D4 := d8.out; obtain ⟨A6, A4, A2, v9, v8, v7⟩ := cz3 b0; have E7 := b4.out; have D3 := b3.out; obtain ⟨A1, A0, v6, v5⟩ := cz2 a6)
      go_ret
      exact ⟨erf, bb HB⟩
     rw [if_neg j4] at H
     have q4 : decide ((b1.length : Int) ≤ ((rd_T56 a5 a4).f0)) = false := decide_eq_false j4
     clear j4
     obtain ⟨r3, H⟩ := itn H
     have F6 := decide_eq_true r3
     clear r3
     obtain ⟨r2, H⟩ := itn H
     have F5 := decide_eq_true r2
     clear r2
     obtain ⟨r1, H⟩ := itn H
     have F4 := decide_eq_true r1
     clear r1
     obtain ⟨r0, H⟩ := itn H
     have F3 := decide_eq_true r0
     clear r0
     obtain ⟨m2, r9, H⟩ := obA H
     by_cases n5 : m2 = true
     rotate_left
     ·replace n5 := Bool.eq_false_iff.mpr n5
      subst n5
      replace H := iff_ H
      obtain rfl := Option.some.inj H
      have e6 : 0 ≤ a4 := odt
      have e5 : a4 < (a5.length : Int) := odt
      obtain ⟨g4, j3, d1, d0, c9⟩ := at_T56 h3.out a4 e6 e5
      cases j3
      replace d1 := hxc HB d1
      replace d0 := hxc HB d0
      replace c9 := hxc HB c9
      replace e6 := eq_true e6
      replace e5 := eq_true e5
      try go_wp2_with ((with_reducible refine gate_dst (N := 11) rfl ?_); refine be 11 #[.int .i64 0, .int .i64 0, .int .i64 0] 56 ?_; intro a9 hg m0 hbox hb; have b0 := Aside0.mk (hbox); have o0 := bsz HB hg; replace HB := bstep HB hb; have d9 := blt a6 hg; have d7 := bgt a6 hg; replace a6 := bkb a6 hb; have d8 := blt a7 hg; have d6 := bgt a7 hg; replace a7 := bkb a7 hb; clear hb hbox hg; have E3 := d7.out; have C9 := d9.out; have E2 := d6.out; have C8 := d8.out; obtain ⟨x7, x6, x5, t9, t8, t7⟩ := cz3 b0; have E1 := b4.out; have C7 := b3.out; obtain ⟨x4, x3, t6, t5⟩ := cz2 a6)
      have j2 : Aside0 ((((m0.setCell ⟨a9, 0, none⟩ (.int .i64 ((rd_T56 a5 a4).f0))).setCell ⟨a9, 1, none⟩ (.int .i64 ((rd_T56 a5 a4).f1))).setCell ⟨a9, 2, none⟩ (.int .i64 ((rd_T56 a5 a4).f2))).heap[d5]? = some (.cells #[.slice c7 b2.length c3, .slice c5 b1.length c2] 31 (0, 0))) := ⟨bkF a6⟩
      have j1 : Aside0 ((((m0.setCell ⟨a9, 0, none⟩ (.int .i64 ((rd_T56 a5 a4).f0))).setCell ⟨a9, 1, none⟩ (.int .i64 ((rd_T56 a5 a4).f1))).setCell ⟨a9, 2, none⟩ (.int .i64 ((rd_T56 a5 a4).f2))).heap[d4]? = some (.cells #[.slice e7 a8.length d3, .slice (some g4) a5.length d2] 35 (0, 0))) := ⟨bkF a7⟩
      have j0 : Aside0 ((((m0.setCell ⟨a9, 0, none⟩ (.int .i64 ((rd_T56 a5 a4).f0))).setCell ⟨a9, 1, none⟩ (.int .i64 ((rd_T56 a5 a4).f1))).setCell ⟨a9, 2, none⟩ (.int .i64 ((rd_T56 a5 a4).f2))).heap[a9]? = some (.cells #[.int .i64 ((rd_T56 a5 a4).f0), .int .i64 ((rd_T56 a5 a4).f1), .int .i64 ((rd_T56 a5 a4).f2)] 56 (0, 0))) := ⟨by (with_reducible repeat (first | refine dN ?_ _ | refine dR ?_ | refine dA ?_ _)); refine blk_put (cs := #[.int .i64 ((rd_T56 a5 a4).f0), .int .i64 ((rd_T56 a5 a4).f1), .int .i64 0]) ?_ 2 _ rfl; refine blk_put (cs := #[.int .i64 ((rd_T56 a5 a4).f0), .int .i64 0, .int .i64 0]) ?_ 1 _ rfl; refine blk_put (cs := #[.int .i64 0, .int .i64 0, .int .i64 0]) ?_ 0 _ rfl; (with_reducible repeat (first | refine dN ?_ _ | refine dR ?_ | refine dA ?_ _)); exact b0.out⟩
      have h9 : Aside0 (Below w.heap.size w (((m0.setCell ⟨a9, 0, none⟩ (.int .i64 ((rd_T56 a5 a4).f0))).setCell ⟨a9, 1, none⟩ (.int .i64 ((rd_T56 a5 a4).f1))).setCell ⟨a9, 2, none⟩ (.int .i64 ((rd_T56 a5 a4).f2)))) := ⟨bb HB⟩
      clear a6
      clear a7
      clear b0
      clear HB
      generalize (((m0.setCell ⟨a9, 0, none⟩ (.int .i64 ((rd_T56 a5 a4).f0))).setCell ⟨a9, 1, none⟩ (.int .i64 ((rd_T56 a5 a4).f1))).setCell ⟨a9, 2, none⟩ (.int .i64 ((rd_T56 a5 a4).f2))) = C1 at j2 j1 j0 h9 ⊢
      have a6 := j2
      have a7 := j1
      have b0 := j0
      have HB := h9
      clear j2 j1 j0 h9
      replace a6 := Aside0.mk (blk_drew a6.out)
      replace a7 := Aside0.mk (blk_drew a7.out)
      replace b0 := Aside0.mk (blk_drew b0.out)
      replace HB := Aside0.mk (below_drew1 HB.out)
      have h0 : 0 ≤ (((rd_T56 a5 a4).f1) : Int) := odt
      have g7 : ((rd_T56 a5 a4).f1) < (a8.length : Int) := odt
      obtain ⟨e1, m5, c1⟩ := Kd.at_int e8.out ((rd_T56 a5 a4).f1) h0 g7
      have g1 := c1
      cases m5
      replace c1 := hxc HB c1
      replace h0 := eq_true h0
      replace g7 := eq_true g7
      have g9 : 0 ≤ (((rd_T56 a5 a4).f2) : Int) := odt
      have g6 : ((rd_T56 a5 a4).f2) < (a8.length : Int) := odt
      obtain ⟨j8, m4, c0⟩ := Kd.at_int e8.out ((rd_T56 a5 a4).f2) g9 g6
      have g0 := c0
      obtain rfl : e1 = j8 := (by injection m4)
      replace c0 := hxc HB c0
      replace g9 := eq_true g9
      replace g6 := eq_true g6
      refine start_ (n := 17) (S := fun w' => w'.cell? ⟨d5, 0, none⟩ = some (.slice c7 b2.length c3) ∧ w'.cell? ⟨d5, 1, none⟩ = some (.slice c5 b1.length c2) ∧ w'.cell? ⟨a9, 0, none⟩ = some (.int .i64 ((rd_T56 a5 a4).f0)) ∧ w'.cell? ⟨a9, 1, none⟩ = some (.int .i64 ((rd_T56 a5 a4).f1)) ∧ w'.cell? ⟨a9, 2, none⟩ = some (.int .i64 ((rd_T56 a5 a4).f2)) ∧ w'.cell? ⟨d4, 0, none⟩ = some (.slice (some e1) a8.length d3) ∧ w'.cell? ⟨d4, 1, none⟩ = some (.slice (some g4) a5.length d2) ∧ w'.cell? (e1.add (((rd_T56 a5 a4).f1)).toNat) = some (.int .i64 (rd a8 ((rd_T56 a5 a4).f1))) ∧ w'.cell? (e1.add (((rd_T56 a5 a4).f2)).toNat) = some (.int .i64 (rd a8 ((rd_T56 a5 a4).f2)))) (ds := []) #[false, false, false, false, false, false, false, false, false, false, false, false, false, false, false, false, false] (by kernel_rfl) rfl rfl ⟨bc a6 0, bc a6 1, bc b0 0, bc b0 1, bc b0 2, bc a7 0, bc a7 1, (hxc HB g1), (hxc HB g0)⟩ (fun hHeld => ?_); refine with_tabW statistic_typed.tab18 statistic_typed.bits18 (fun HT_ HW_ => ?_)
      generalize C1.drew = H1 at a6 a7 b0 HB c1 c0 hHeld ⊢
      refine pu 1 52 (bits 17 0x2) HT_ (h := ?_)
      refine pu 3 54 (bits 17 0xa) HT_ (h := ?_)
      refine pu 5 56 (bits 17 0x2a) HT_ (h := ?_)
      refine pu 9 60 (bits 17 0x22a) HT_ (h := ?_)
      refine pu 11 62 (bits 17 0xa2a) HT_ (h := ?_)
      refine tk 0 51 (bits 17 0xa2b) HT_ HW_ hHeld (hy := by rintro w' ⟨s0, s1, s2, s3, s4, s5, s6, s7, s8⟩; go_simp; with_reducible rfl) (h := ?_)
      refine tk 2 53 (bits 17 0xa2f) HT_ HW_ hHeld (hy := by rintro w' ⟨s0, s1, s2, s3, s4, s5, s6, s7, s8⟩; go_simp; with_reducible rfl) (h := ?_)
      refine tk 4 55 (bits 17 0xa3f) HT_ HW_ hHeld (hy := by rintro w' ⟨s0, s1, s2, s3, s4, s5, s6, s7, s8⟩; go_simp; with_reducible rfl) (h := ?_)
      refine tk 6 57 (bits 17 0xa7f) HT_ HW_ hHeld (hy := by rintro w' ⟨s0, s1, s2, s3, s4, s5, s6, s7, s8⟩; go_simp; with_reducible rfl) (h := ?_)
      refine pu 7 58 (bits 17 0xaff) HT_ (h := ?_)
      refine tk 8 59 (bits 17 0xbff) HT_ HW_ hHeld (hy := by rintro w' ⟨s0, s1, s2, s3, s4, s5, s6, s7, s8⟩; go_simp; with_reducible rfl) (h := ?_)
      refine tk 10 61 (bits 17 0xfff) HT_ HW_ hHeld (hy := by rintro w' ⟨s0, s1, s2, s3, s4, s5, s6, s7, s8⟩; go_simp; with_reducible rfl) (h := ?_)
      refine tk 12 63 (bits 17 0x1fff) HT_ HW_ hHeld (hy := by rintro w' ⟨s0, s1, s2, s3, s4, s5, s6, s7, s8⟩; go_simp; with_reducible rfl) (h := ?_)
      refine pu 13 64 (bits 17 0x3fff) HT_ (h := ?_)
      refine tk 14 65 (bits 17 0x7fff) HT_ HW_ hHeld (hy := by rintro w' ⟨s0, s1, s2, s3, s4, s5, s6, s7, s8⟩; go_simp; with_reducible rfl) (h := ?_)
      refine one_ (i := 15) (N := some 66) #[true, true, true, true, true, true, true, true, true, true, true, true, true, true, true, true, false] rfl rfl (one_of HT_.out (by kernel_rfl)) (by decide) (fun K hK => ?_)
      refine goes_ Tryz.func53 (by kernel_rfl) rfl #[.agg #[.slice c7 b2.length c3, .slice c5 b1.length c2], .int .i64 ((rd_T56 a5 a4).f0), .int .i64 (rd a8 ((rd_T56 a5 a4).f1)), .int .i64 (rd a8 ((rd_T56 a5 a4).f2))] (by rfl) rfl rfl (by (try simp only [List.map_toArray, List.map_cons, List.map_nil]); first | done | rfl | (simp only [List.length_drop, List.length_take]; rfl)) ?_
      with_reducible refine (types_Fits.calls k2 _ _ b2 _ _ b1 ((rd_T56 a5 a4).f0) (rd a8 ((rd_T56 a5 a4).f1)) (rd a8 ((rd_T56 a5 a4).f2)) false _ ?b9 ?b8 ?b7 ?b6 r9.out).mono ?_
      (case b9 => exact cb h5 HB)
      (case b8 => exact h7.out)
      (case b7 => exact cb h4 HB)
      (case b6 => exact h6.out)
      rintro e H0 ⟨rfl, hb⟩
      refine ⟨_, rfl, ?_⟩
      replace a6 := bkb a6 hb
      replace a7 := bkb a7 hb
      replace b0 := bkb b0 hb
      replace HB := bstep HB hb
      clear hb
      refine hK.out _ _ ⟨bc a6 0, bc a6 1, bc b0 0, bc b0 1, bc b0 2, bc a7 0, bc a7 1, (hxc HB g1), (hxc HB g0)⟩ (fun hHeld => ?_)
      clear hK K
      refine norm_ (a' := ?_) ?_ ?_
      rotate_left
      ·show Act.put _ (some 66) _ = _
       simp only [Act.put, List.setIfInBounds_toArray, List.set_cons_zero, List.set_cons_succ, i64_w, i32_w]
       rfl
      refine pu 16 67 (bits 17 0x1ffff) HT_ (h := ?_)
      refine done_ (done_of HT_.out (by kernel_rfl)) ?_
      try go_wp2
      go_ret
      exact ⟨erf, bb HB⟩
     subst n5
     replace H := ift H
     have H' := Aside0.mk H
     clear H
     have e6 : 0 ≤ a4 := odt
     have e5 : a4 < (a5.length : Int) := odt
     obtain ⟨g4, j3, d1, d0, c9⟩ := at_T56 h3.out a4 e6 e5
     cases j3
     replace d1 := hxc HB d1
     replace d0 := hxc HB d0
     replace c9 := hxc HB c9
     replace e6 := eq_true e6
     replace e5 := eq_true e5
     try go_wp2_with ((with_reducible refine gate_dst (N := 11) rfl ?_); refine be 11 #[.int .i64 0, .int .i64 0, .int .i64 0] 56 ?_; intro a9 hg m1 hbox hb; have b0 := Aside0.mk (hbox); have o0 := bsz HB hg; replace HB := bstep HB hb; have d9 := blt a6 hg; have d7 := bgt a6 hg; replace a6 := bkb a6 hb; have d8 := blt a7 hg; have d6 := bgt a7 hg; replace a7 := bkb a7 hb; clear hb hbox hg; have E6 := d7.out; have D2 := d9.out; have E5 := d6.out; have D1 := d8.out; obtain ⟨y9, y8, y7, v4, v3, v2⟩ := cz3 b0; have E4 := b4.out; have D0 := b3.out; obtain ⟨x9, x8, v1, v0⟩ := cz2 a6)
     have j2 : Aside0 ((((m1.setCell ⟨a9, 0, none⟩ (.int .i64 ((rd_T56 a5 a4).f0))).setCell ⟨a9, 1, none⟩ (.int .i64 ((rd_T56 a5 a4).f1))).setCell ⟨a9, 2, none⟩ (.int .i64 ((rd_T56 a5 a4).f2))).heap[d5]? = some (.cells #[.slice c7 b2.length c3, .slice c5 b1.length c2] 31 (0, 0))) := ⟨bkF a6⟩
     have j1 : Aside0 ((((m1.setCell ⟨a9, 0, none⟩ (.int .i64 ((rd_T56 a5 a4).f0))).setCell ⟨a9, 1, none⟩ (.int .i64 ((rd_T56 a5 a4).f1))).setCell ⟨a9, 2, none⟩ (.int .i64 ((rd_T56 a5 a4).f2))).heap[d4]? = some (.cells #[.slice e7 a8.length d3, .slice (some g4) a5.length d2] 35 (0, 0))) := ⟨bkF a7⟩
     have j0 : Aside0 ((((m1.setCell ⟨a9, 0, none⟩ (.int .i64 ((rd_T56 a5 a4).f0))).setCell ⟨a9, 1, none⟩ (.int .i64 ((rd_T56 a5 a4).f1))).setCell ⟨a9, 2, none⟩ (.int .i64 ((rd_T56 a5 a4).f2))).heap[a9]? = some (.cells #[.int .i64 ((rd_T56 a5 a4).f0), .int .i64 ((rd_T56 a5 a4).f1), .int .i64 ((rd_T56 a5 a4).f2)] 56 (0, 0))) := ⟨by (with_reducible repeat (first | refine dN ?_ _ | refine dR ?_ | refine dA ?_ _)); refine blk_put (cs := #[.int .i64 ((rd_T56 a5 a4).f0), .int .i64 ((rd_T56 a5 a4).f1), .int .i64 0]) ?_ 2 _ rfl; refine blk_put (cs := #[.int .i64 ((rd_T56 a5 a4).f0), .int .i64 0, .int .i64 0]) ?_ 1 _ rfl; refine blk_put (cs := #[.int .i64 0, .int .i64 0, .int .i64 0]) ?_ 0 _ rfl; (with_reducible repeat (first | refine dN ?_ _ | refine dR ?_ | refine dA ?_ _)); exact b0.out⟩
     have h9 : Aside0 (Below w.heap.size w (((m1.setCell ⟨a9, 0, none⟩ (.int .i64 ((rd_T56 a5 a4).f0))).setCell ⟨a9, 1, none⟩ (.int .i64 ((rd_T56 a5 a4).f1))).setCell ⟨a9, 2, none⟩ (.int .i64 ((rd_T56 a5 a4).f2)))) := ⟨bb HB⟩
     clear a6
     clear a7
     clear b0
     clear HB
     generalize (((m1.setCell ⟨a9, 0, none⟩ (.int .i64 ((rd_T56 a5 a4).f0))).setCell ⟨a9, 1, none⟩ (.int .i64 ((rd_T56 a5 a4).f1))).setCell ⟨a9, 2, none⟩ (.int .i64 ((rd_T56 a5 a4).f2))) = C2 at j2 j1 j0 h9 ⊢
     have a6 := j2
     have a7 := j1
     have b0 := j0
     have HB := h9
     clear j2 j1 j0 h9
     replace a6 := Aside0.mk (blk_drew a6.out)
     replace a7 := Aside0.mk (blk_drew a7.out)
     replace b0 := Aside0.mk (blk_drew b0.out)
     replace HB := Aside0.mk (below_drew1 HB.out)
     have h0 : 0 ≤ (((rd_T56 a5 a4).f1) : Int) := odt
     have g7 : ((rd_T56 a5 a4).f1) < (a8.length : Int) := odt
     obtain ⟨e1, m5, c1⟩ := Kd.at_int e8.out ((rd_T56 a5 a4).f1) h0 g7
     have g1 := c1
     cases m5
     replace c1 := hxc HB c1
     replace h0 := eq_true h0
     replace g7 := eq_true g7
     have g9 : 0 ≤ (((rd_T56 a5 a4).f2) : Int) := odt
     have g6 : ((rd_T56 a5 a4).f2) < (a8.length : Int) := odt
     obtain ⟨j8, m4, c0⟩ := Kd.at_int e8.out ((rd_T56 a5 a4).f2) g9 g6
     have g0 := c0
     obtain rfl : e1 = j8 := (by injection m4)
     replace c0 := hxc HB c0
     replace g9 := eq_true g9
     replace g6 := eq_true g6
     refine start_ (n := 17) (S := fun w' => w'.cell? ⟨d5, 0, none⟩ = some (.slice c7 b2.length c3) ∧ w'.cell? ⟨d5, 1, none⟩ = some (.slice c5 b1.length c2) ∧ w'.cell? ⟨a9, 0, none⟩ = some (.int .i64 ((rd_T56 a5 a4).f0)) ∧ w'.cell? ⟨a9, 1, none⟩ = some (.int .i64 ((rd_T56 a5 a4).f1)) ∧ w'.cell? ⟨a9, 2, none⟩ = some (.int .i64 ((rd_T56 a5 a4).f2)) ∧ w'.cell? ⟨d4, 0, none⟩ = some (.slice (some e1) a8.length d3) ∧ w'.cell? ⟨d4, 1, none⟩ = some (.slice (some g4) a5.length d2) ∧ w'.cell? (e1.add (((rd_T56 a5 a4).f1)).toNat) = some (.int .i64 (rd a8 ((rd_T56 a5 a4).f1))) ∧ w'.cell? (e1.add (((rd_T56 a5 a4).f2)).toNat) = some (.int .i64 (rd a8 ((rd_T56 a5 a4).f2)))) (ds := []) #[false, false, false, false, false, false, false, false, false, false, false, false, false, false, false, false, false] (by kernel_rfl) rfl rfl ⟨bc a6 0, bc a6 1, bc b0 0, bc b0 1, bc b0 2, bc a7 0, bc a7 1, (hxc HB g1), (hxc HB g0)⟩ (fun hHeld => ?_); refine with_tabW statistic_typed.tab18 statistic_typed.bits18 (fun HT_ HW_ => ?_)
     generalize C2.drew = H3 at a6 a7 b0 HB c1 c0 hHeld ⊢
     refine pu 1 52 (bits 17 0x2) HT_ (h := ?_)
     refine pu 3 54 (bits 17 0xa) HT_ (h := ?_)
     refine pu 5 56 (bits 17 0x2a) HT_ (h := ?_)
     refine pu 9 60 (bits 17 0x22a) HT_ (h := ?_)
     refine pu 11 62 (bits 17 0xa2a) HT_ (h := ?_)
     refine tk 0 51 (bits 17 0xa2b) HT_ HW_ hHeld (hy := by rintro w' ⟨s0, s1, s2, s3, s4, s5, s6, s7, s8⟩; go_simp; with_reducible rfl) (h := ?_)
     refine tk 2 53 (bits 17 0xa2f) HT_ HW_ hHeld (hy := by rintro w' ⟨s0, s1, s2, s3, s4, s5, s6, s7, s8⟩; go_simp; with_reducible rfl) (h := ?_)
     refine tk 4 55 (bits 17 0xa3f) HT_ HW_ hHeld (hy := by rintro w' ⟨s0, s1, s2, s3, s4, s5, s6, s7, s8⟩; go_simp; with_reducible rfl) (h := ?_)
     refine tk 6 57 (bits 17 0xa7f) HT_ HW_ hHeld (hy := by rintro w' ⟨s0, s1, s2, s3, s4, s5, s6, s7, s8⟩; go_simp; with_reducible rfl) (h := ?_)
     refine pu 7 58 (bits 17 0xaff) HT_ (h := ?_)
     refine tk 8 59 (bits 17 0xbff) HT_ HW_ hHeld (hy := by rintro w' ⟨s0, s1, s2, s3, s4, s5, s6, s7, s8⟩; go_simp; with_reducible rfl) (h := ?_)
     refine tk 10 61 (bits 17 0xfff) HT_ HW_ hHeld (hy := by rintro w' ⟨s0, s1, s2, s3, s4, s5, s6, s7, s8⟩; go_simp; with_reducible rfl) (h := ?_)
     refine tk 12 63 (bits 17 0x1fff) HT_ HW_ hHeld (hy := by rintro w' ⟨s0, s1, s2, s3, s4, s5, s6, s7, s8⟩; go_simp; with_reducible rfl) (h := ?_)
     refine pu 13 64 (bits 17 0x3fff) HT_ (h := ?_)
     refine tk 14 65 (bits 17 0x7fff) HT_ HW_ hHeld (hy := by rintro w' ⟨s0, s1, s2, s3, s4, s5, s6, s7, s8⟩; go_simp; with_reducible rfl) (h := ?_)
     refine one_ (i := 15) (N := some 66) #[true, true, true, true, true, true, true, true, true, true, true, true, true, true, true, true, false] rfl rfl (one_of HT_.out (by kernel_rfl)) (by decide) (fun K hK => ?_)
     refine goes_ Tryz.func53 (by kernel_rfl) rfl #[.agg #[.slice c7 b2.length c3, .slice c5 b1.length c2], .int .i64 ((rd_T56 a5 a4).f0), .int .i64 (rd a8 ((rd_T56 a5 a4).f1)), .int .i64 (rd a8 ((rd_T56 a5 a4).f2))] (by rfl) rfl rfl (by (try simp only [List.map_toArray, List.map_cons, List.map_nil]); first | done | rfl | (simp only [List.length_drop, List.length_take]; rfl)) ?_
     with_reducible refine (types_Fits.calls k2 _ _ b2 _ _ b1 ((rd_T56 a5 a4).f0) (rd a8 ((rd_T56 a5 a4).f1)) (rd a8 ((rd_T56 a5 a4).f2)) true _ ?b9 ?b8 ?b7 ?b6 r9.out).mono ?_
     (case b9 => exact cb h5 HB)
     (case b8 => exact h7.out)
     (case b7 => exact cb h4 HB)
     (case b6 => exact h6.out)
     rintro e H2 ⟨rfl, hb⟩
     refine ⟨_, rfl, ?_⟩
     replace a6 := bkb a6 hb
     replace a7 := bkb a7 hb
     replace b0 := bkb b0 hb
     replace HB := bstep HB hb
     clear hb
     refine hK.out _ _ ⟨bc a6 0, bc a6 1, bc b0 0, bc b0 1, bc b0 2, bc a7 0, bc a7 1, (hxc HB g1), (hxc HB g0)⟩ (fun hHeld => ?_)
     clear hK K
     refine norm_ (a' := ?_) ?_ ?_
     rotate_left
     ·show Act.put _ (some 66) _ = _
      simp only [Act.put, List.setIfInBounds_toArray, List.set_cons_zero, List.set_cons_succ, i64_w, i32_w]
      rfl
     refine pu 16 67 (bits 17 0x1ffff) HT_ (h := ?_)
     refine done_ (done_of HT_.out (by kernel_rfl)) ?_
     try go_wp2
     go_roundg k2
     case measure => have := n7.out; have := r8.out; omega
     case rel => exact ⟨(wrap64 (a4 + 1)), eqs, H', ⟨by have := n7.out; have := r8.out; omega⟩, ⟨bk a6⟩, ⟨bk a7⟩, ⟨bb HB⟩⟩
end Go.Proofs.YtfpianecohobjaaGreat.P
