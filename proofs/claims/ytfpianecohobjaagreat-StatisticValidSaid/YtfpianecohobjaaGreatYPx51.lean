/- StatisticOf: a part of its proof. No condition. -/
import Derived.Test.YtfpianecohobjaaGreatYPx0
import Derived.Test.YtfpianecohobjaaGreatYPx28
import Derived.Test.YtfpianecohobjaaGreatYMe
import Derived.Test.YtfpianecohobjaaGreatYPx46
import Derived.Test.YtfpianecohobjaaGreatYPx49
import Derived.Test.YtfpianecohobjaaGreatYPx50
namespace Go.Proofs.YtfpianecohobjaaGreat.P
open Go.RowKit Go.Proofs.YtfpianecohobjaaGreatW.PrintWords Go.Proofs.YtfpianecohobjaaGreatW.PrintLast Go.Proofs.YtfpianecohobjaaGreatW.PrintMore
set_option linter.unusedVariables false
set_option linter.unusedSimpArgs false
mutual
def scarfjointref18_Valid.l0 : Nat → Int → List (S96) → List (S101) → List (S75) → List (S75) → Option (Int)
 | 0, _, _, _, _, _ => none
 | k + 1, x7, b5, b7, a5, a7 => if x7 < (a5.length : Int) then (if 0 ≤ x7 then ((scarfjointref18_is.f ((rd_T75 a5 x7).f0) (b5.length : Int)).bind fun Q3 => (if Q3 = true then (if ((rd_T75 a5 x7).f1) = 0 then (if ((rd_T75 a5 x7).f2) = 0 then (if ((rd_T75 a5 x7).f3) < 1 then (scarfjointref18_Valid.j1 k x7 true b5 b7 a5 a7 ((rd_T75 a5 x7).f0) ((rd_T75 a5 x7).f1) ((rd_T75 a5 x7).f2) ((rd_T75 a5 x7).f3)) else (scarfjointref18_Valid.j1 k x7 (decide (((rd_T75 a5 x7).f3) > 40)) b5 b7 a5 a7 ((rd_T75 a5 x7).f0) ((rd_T75 a5 x7).f1) ((rd_T75 a5 x7).f2) ((rd_T75 a5 x7).f3))) else (scarfjointref18_Valid.j1 k x7 true b5 b7 a5 a7 ((rd_T75 a5 x7).f0) ((rd_T75 a5 x7).f1) ((rd_T75 a5 x7).f2) ((rd_T75 a5 x7).f3))) else (scarfjointref18_Valid.j1 k x7 true b5 b7 a5 a7 ((rd_T75 a5 x7).f0) ((rd_T75 a5 x7).f1) ((rd_T75 a5 x7).f2) ((rd_T75 a5 x7).f3))) else (scarfjointref18_Valid.j1 k x7 true b5 b7 a5 a7 ((rd_T75 a5 x7).f0) ((rd_T75 a5 x7).f1) ((rd_T75 a5 x7).f2) ((rd_T75 a5 x7).f3)))) else (none)) else ((scarfjointref18_total.f k a5).bind fun A0 => (if A0 > 40 then (some 3) else (scarfjointref18_Valid.l1 k 0 b5 b7 a5 a7)))
def scarfjointref18_Valid.j1 : Nat → Int → Bool → List (S96) → List (S101) → List (S75) → List (S75) → Int → Int → Int → Int → Option (Int)
 | 0, _, _, _, _, _, _, _, _, _, _ => none
 | k + 1, x7, x57, b5, b7, a5, a7, Z9, Z8, Z7, Z6 => if x57 = true then (some 6) else (if x7 > 0 then (if 0 ≤ (wrap64 (x7 - 1)) then (if (wrap64 (x7 - 1)) < (a5.length : Int) then ((scarfjointref18_compare.f ((rd_T75 a5 (wrap64 (x7 - 1))).f0) ((rd_T75 a5 (wrap64 (x7 - 1))).f1) ((rd_T75 a5 (wrap64 (x7 - 1))).f2) ((rd_T75 a5 (wrap64 (x7 - 1))).f3) Z9 Z8 Z7 Z6).bind fun m4 => (if m4 ≥ 0 then (some 12) else (scarfjointref18_Valid.l0 k (wrap64 (x7 + 1)) b5 b7 a5 a7))) else (none)) else (none)) else (scarfjointref18_Valid.l0 k (wrap64 (x7 + 1)) b5 b7 a5 a7))
def scarfjointref18_Valid.l1 : Nat → Int → List (S96) → List (S101) → List (S75) → List (S75) → Option (Int)
 | 0, _, _, _, _, _ => none
 | k + 1, x9, b5, b7, a5, a7 => if x9 < (a7.length : Int) then (if 0 ≤ x9 then ((scarfjointref18_is.f ((rd_T75 a7 x9).f0) (b7.length : Int)).bind fun Q2 => (if Q2 = true then ((scarfjointref18_is.f ((rd_T75 a7 x9).f1) (b5.length : Int)).bind fun Q1 => (if Q1 = true then ((scarfjointref18_is.f ((rd_T75 a7 x9).f2) (b5.length : Int)).bind fun Q0 => (if Q0 = true then (if ((rd_T75 a7 x9).f3) < 1 then (scarfjointref18_Valid.j3 k x9 true b5 b7 a5 a7 ((rd_T75 a7 x9).f0) ((rd_T75 a7 x9).f1) ((rd_T75 a7 x9).f2) ((rd_T75 a7 x9).f3)) else (scarfjointref18_Valid.j3 k x9 (decide (((rd_T75 a7 x9).f3) > 80)) b5 b7 a5 a7 ((rd_T75 a7 x9).f0) ((rd_T75 a7 x9).f1) ((rd_T75 a7 x9).f2) ((rd_T75 a7 x9).f3))) else (scarfjointref18_Valid.j3 k x9 true b5 b7 a5 a7 ((rd_T75 a7 x9).f0) ((rd_T75 a7 x9).f1) ((rd_T75 a7 x9).f2) ((rd_T75 a7 x9).f3)))) else (scarfjointref18_Valid.j3 k x9 true b5 b7 a5 a7 ((rd_T75 a7 x9).f0) ((rd_T75 a7 x9).f1) ((rd_T75 a7 x9).f2) ((rd_T75 a7 x9).f3)))) else (scarfjointref18_Valid.j3 k x9 true b5 b7 a5 a7 ((rd_T75 a7 x9).f0) ((rd_T75 a7 x9).f1) ((rd_T75 a7 x9).f2) ((rd_T75 a7 x9).f3)))) else (none)) else ((scarfjointref18_total.f k a7).bind fun y9 => (if y9 > 80 then (some 3) else (some 0)))
def scarfjointref18_Valid.j3 : Nat → Int → Bool → List (S96) → List (S101) → List (S75) → List (S75) → Int → Int → Int → Int → Option (Int)
 | 0, _, _, _, _, _, _, _, _, _, _ => none
 | k + 1, x9, a1e, b5, b7, a5, a7, h8, g9, g8, n4 => if a1e = true then (some 6) else ((q4_Fits.f k b5 b7 h8 g9 g8).bind fun P9 => (if P9 = true then ((scarfjointref18_number.f k a5 g9 0 0 0).bind fun E9 => (if E9 = 0 then (scarfjointref18_Valid.j4 k x9 true b5 b7 a5 a7 h8 g9 g8 n4) else ((scarfjointref18_number.f k a5 g8 0 0 0).bind fun O3 => (scarfjointref18_Valid.j4 k x9 (O3 == 0) b5 b7 a5 a7 h8 g9 g8 n4)))) else (some 13)))
def scarfjointref18_Valid.j4 : Nat → Int → Bool → List (S96) → List (S101) → List (S75) → List (S75) → Int → Int → Int → Int → Option (Int)
 | 0, _, _, _, _, _, _, _, _, _, _ => none
 | k + 1, x9, a1d, b5, b7, a5, a7, h8, g9, g8, n4 => if a1d = true then (some 10) else (if x9 > 0 then (if 0 ≤ (wrap64 (x9 - 1)) then (if (wrap64 (x9 - 1)) < (a7.length : Int) then ((scarfjointref18_compare.f ((rd_T75 a7 (wrap64 (x9 - 1))).f0) ((rd_T75 a7 (wrap64 (x9 - 1))).f1) ((rd_T75 a7 (wrap64 (x9 - 1))).f2) ((rd_T75 a7 (wrap64 (x9 - 1))).f3) h8 g9 g8 n4).bind fun m3 => (if m3 ≥ 0 then (some 12) else (scarfjointref18_Valid.l1 k (wrap64 (x9 + 1)) b5 b7 a5 a7))) else (none)) else (none)) else (scarfjointref18_Valid.l1 k (wrap64 (x9 + 1)) b5 b7 a5 a7))
end
def scarfjointref18_Valid.f (k : Nat) (b4 : List (S96)) (b6 : List (S101)) (a1 : List (S75)) (a0 : List (S75)) : Option (Int) := (q4_Valid.f k b4 b6).bind fun C1 => (if C1.2 = 0 then (scarfjointref18_Valid.l0 k 0 b4 b6 a1 a0) else (some C1.2))
def scarfjointref18_Valid.T10 : Bool × List (List Nat × List Nat) := (true, [([], []), ([0], [0]), ([1], [1]), ([2], [2]), ([3, 2], [2, 3]), ([2], [2]), ([5, 2], [2, 5]), ([4, 6, 2], [2, 4, 6]), ([7, 2], [2, 7]), ([2], [2]), ([8, 9, 2, 2], [2, 8, 9]), ([10, 2], [2, 10]), ([2, 11], [2, 11])])
def scarfjointref18_Valid.B10 : List Nat := [0, 1, 3, 7, 15, 7, 39, 127, 255, 7, 1023, 2047, 4095]
theorem scarfjointref18_Valid.tab10 : rtab .any (opsOf Tryz.f30 10) = scarfjointref18_Valid.T10 := by kernel_rfl
theorem scarfjointref18_Valid.bits10 : waitsOk scarfjointref18_Valid.T10.2 scarfjointref18_Valid.B10 = true := by kernel_rfl
def scarfjointref18_Valid.T24 : Bool × List (List Nat × List Nat) := (true, [([], []), ([0], [0]), ([1], [1]), ([2], [2]), ([3, 2], [2, 3]), ([2], [2]), ([5, 2], [2, 5]), ([4, 6, 2], [2, 4, 6]), ([7, 2], [2, 7]), ([2], [2]), ([8, 9, 2, 2], [2, 8, 9]), ([10, 2], [2, 10]), ([2, 11], [2, 11])])
def scarfjointref18_Valid.B24 : List Nat := [0, 1, 3, 7, 15, 7, 39, 127, 255, 7, 1023, 2047, 4095]
theorem scarfjointref18_Valid.tab24 : rtab .any (opsOf Tryz.f30 24) = scarfjointref18_Valid.T24 := by kernel_rfl
theorem scarfjointref18_Valid.bits24 : waitsOk scarfjointref18_Valid.T24.2 scarfjointref18_Valid.B24 = true := by kernel_rfl
set_option maxHeartbeats 8000000 in
set_option maxRecDepth 100000 in
theorem scarfjointref18_Valid.calls (k : Nat) (g5 : Option Addr) (g3 : Nat) (b4 : List (S96)) (g4 : Option Addr) (g2 : Nat) (b6 : List (S101)) (g1 : Option Addr) (e0 : Nat) (a1 : List (S75)) (h4 : Option Addr) (e5 : Nat) (a0 : List (S75)) (r : Int) (w : World) (Y3 : Kd.C k96 w g5 b4.length b4) (Y7 : b4.length ≤ g3) (Y2 : Kd.C k101 w g4 b6.length b6) (Y6 : b6.length ≤ g2) (Y1 : Kd.C k75 w g1 a1.length a1) (Y5 : a1.length ≤ e0) (Y0 : Kd.C k75 w h4 a0.length a0) (Y4 : a0.length ≤ e5) (h : scarfjointref18_Valid.f k b4 b6 a1 a0 = some r) :
  Calls Tryz.prog 30 #[.agg #[.slice g5 b4.length g3, .slice g4 b6.length g2], .agg #[.slice g1 a1.length e0, .slice h4 a0.length e5]] w fun e w' => e = .returned (.int .i64 r) ∧ Below w.heap.size w w' := by
 have hu31 := Tryz.underlying31
 have hu46 := Tryz.underlying46
 have hu75 := Tryz.underlying75
 have E5 := Aside0.mk Y3
 have E8 := Aside0.mk Y7
 clear Y3 Y7
 have E4 := Aside0.mk Y2
 have E7 := Aside0.mk Y6
 clear Y2 Y6
 have h5 := Aside0.mk Y1
 have C3 := Aside0.mk Y5
 clear Y1 Y5
 have C2 := Aside0.mk Y0
 have Z4 := Aside0.mk Y4
 clear Y0 Y4
 have HB := Aside0.mk (Below.refl w.heap.size w)
 have H : ((q4_Valid.f k b4 b6).bind fun C1 => (if C1.2 = 0 then (scarfjointref18_Valid.l0 k 0 b4 b6 a1 a0) else (some C1.2))) = some r := h
 clear h
 obtain ⟨⟨a0a, F0⟩, A3, H⟩ := obA H
 replace H : (if F0 = 0 then (scarfjointref18_Valid.l0 k 0 b4 b6 a1 a0) else (some F0)) = some r := H
 by_cases c4 : F0 = 0
 rotate_left
 ·rw [if_neg c4] at H
  have X6 := beq_eq_false_iff_ne.mpr c4
  have X5 := bne_iff_ne.mpr c4
  obtain rfl := Option.some.inj H
  go_enter Tryz.func30, Tryz.ntmps30
  go_wp2_with (first | ((with_reducible refine gate_dst (N := 2) rfl ?_); (try (refine gate_guard (by rfl) ?_; dsimp only)); refine be 2 #[.slice g5 b4.length g3, .slice g4 b6.length g2] 31 ?_; intro y6 hg b6c hbox hb; have a4 := Aside0.mk (hbox); have a1c := bsz HB hg; replace HB := bstep HB hb; clear hb hbox hg) | ((with_reducible refine gate_dst (N := 3) rfl ?_); (try (refine gate_guard (by rfl) ?_; dsimp only)); refine be 3 #[.slice g1 a1.length e0, .slice h4 a0.length e5] 46 ?_; intro d9 hg b6b hbox hb; have a3 := Aside0.mk (hbox); have a1b := bsz HB hg; replace HB := bstep HB hb; have b1 := blt a4 hg; have b0 := bgt a4 hg; replace a4 := bkb a4 hb; clear hb hbox hg; have a6j := b1.out; have a5a := b0.out; obtain ⟨a3c, a3b, a2a, a1j⟩ := cz2 a4) | ((with_reducible refine gate_callee (f := 62) rfl ?_); refine gl 13 Tryz.func62 #[.agg #[.slice g5 b4.length g3, .slice g4 b6.length g2]] (h := ?_); (with_reducible refine (q4_Valid.calls k _ _ b4 _ _ b6 a0a F0 _ ?b9 ?b8 ?m6 ?m5 A3.out).mono ?_); (case b9 => exact cb E5 HB); (case b8 => exact E8.out); (case m6 => exact cb E4 HB); (case m5 => exact E7.out); rintro e b6a ⟨rfl, hb⟩; refine ⟨_, rfl, ?_⟩; replace a4 := bkb a4 hb; replace a3 := bkb a3 hb; replace HB := bstep HB hb; (try clear hb); (try clear hb2); (try clear hk); (try clear hi)))
  go_ret
  exact ⟨erf, bb HB⟩
 rw [if_pos c4] at H
 have X6 := beq_iff_eq.mpr c4
 have X5 := bne_eq_false_iff_eq.mpr c4
 clear c4
 have H' := Aside0.mk H
 clear H
 go_enter Tryz.func30, Tryz.ntmps30
 go_wp2_with (first | ((with_reducible refine gate_dst (N := 2) rfl ?_); (try (refine gate_guard (by rfl) ?_; dsimp only)); refine be 2 #[.slice g5 b4.length g3, .slice g4 b6.length g2] 31 ?_; intro y6 hg w5 hbox hb; have a4 := Aside0.mk (hbox); have a1c := bsz HB hg; replace HB := bstep HB hb; clear hb hbox hg) | ((with_reducible refine gate_dst (N := 3) rfl ?_); (try (refine gate_guard (by rfl) ?_; dsimp only)); refine be 3 #[.slice g1 a1.length e0, .slice h4 a0.length e5] 46 ?_; intro d9 hg w6 hbox hb; have a3 := Aside0.mk (hbox); have a1b := bsz HB hg; replace HB := bstep HB hb; have b1 := blt a4 hg; have b0 := bgt a4 hg; replace a4 := bkb a4 hb; clear hb hbox hg; have b7e := b1.out; have b7d := b0.out; obtain ⟨n1, n0, m9, m8⟩ := cz2 a4) | ((with_reducible refine gate_callee (f := 62) rfl ?_); refine gl 13 Tryz.func62 #[.agg #[.slice g5 b4.length g3, .slice g4 b6.length g2]] (h := ?_); (with_reducible refine (q4_Valid.calls k _ _ b4 _ _ b6 a0a F0 _ ?b9 ?b8 ?m6 ?m5 A3.out).mono ?_); (case b9 => exact cb E5 HB); (case b8 => exact E8.out); (case m6 => exact cb E4 HB); (case m5 => exact E7.out); rintro e w9 ⟨rfl, hb⟩; refine ⟨_, rfl, ?_⟩; replace a4 := bkb a4 hb; replace a3 := bkb a3 hb; replace HB := bstep HB hb; (try clear hb); (try clear hb2); (try clear hk); (try clear hi)))
 go_loopg [7] k (fun kq v7 w' => ∃ (a6 : Int), v7 = .int .i64 a6 ∧ Aside0 (scarfjointref18_Valid.l0 kq a6 b4 b6 a1 a0 = some r) ∧ Aside0 (kq ≤ k) ∧ Aside0 (w'.heap[y6]? = some (.cells #[(.slice g5 b4.length g3), (.slice g4 b6.length g2)] 31 (0, 0))) ∧ Aside0 (w'.heap[d9]? = some (.cells #[(.slice g1 a1.length e0), (.slice h4 a0.length e5)] 46 (0, 0))) ∧ Aside0 (Below w.heap.size w w'))
 case atStart => exact ⟨(0), eqs, H', ⟨Nat.le_refl _⟩, ⟨bk a4⟩, ⟨bk a3⟩, ⟨bb HB⟩⟩
 case round =>
  clear H'
  try clear c1
  try clear p2
  try clear c3
  try clear c4
  try clear X6
  try clear X5
  try clear c6
  try clear c7
  try clear n1
  try clear n0
  try clear m9
  try clear m8
  obtain ⟨a6, rfl, HA, g0, a4, a3, HB⟩ := hrel
  cases gk with
  | zero => exact absurd HA.out (by simp [scarfjointref18_Valid.l0])
  | succ k1 =>
   have H := HA.out
   clear HA
   simp only [scarfjointref18_Valid.l0] at H
   by_cases y8 : a6 < (a1.length : Int)
   ·rw [if_pos y8] at H
    have C0 := decide_eq_true y8
    clear y8
    obtain ⟨O2, H⟩ := itn H
    have a1a := decide_eq_true O2
    clear O2
    have X8 := Aside0.mk H
    clear H
    have b5h := b0.out
    have b2d := b1.out
    obtain ⟨y5, y4, t0, r9⟩ := cz2 a3
    have A5 : 0 ≤ a6 := odt
    have A2 : a6 < (a1.length : Int) := odt
    obtain ⟨d0, a4e, h3, h2, h1, h0⟩ := at_T75 h5.out a6 A5 A2
    cases a4e
    replace h3 := hxc HB h3
    replace h2 := hxc HB h2
    replace h1 := hxc HB h1
    replace h0 := hxc HB h0
    replace A5 := eq_true A5
    replace A2 := eq_true A2
    go_upto_region 8 with (first | ((with_reducible refine gate_dst (N := 8) rfl ?_); (try (refine gate_guard (by rfl) ?_; dsimp only)); refine be 8 #[.int .i64 0, .int .i64 0, .int .i64 0, .int .i64 0] 75 ?_; intro g7 hg w15 hbox hb; have b2 := Aside0.mk (hbox); have b5j := bsz HB hg; replace HB := bstep HB hb; have e9 := blt a4 hg; have e7 := bgt a4 hg; replace a4 := bkb a4 hb; have e8 := blt a3 hg; have e6 := bgt a3 hg; replace a3 := bkb a3 hb; clear hb hbox hg; have b5g := e7.out; have b2c := e9.out; have b5f := e6.out; have b2b := e8.out; obtain ⟨y3, y2, y1, y0, r8, r7, r6, r5⟩ := cz4 b2))
    (try simp only [Act.put, List.setIfInBounds_toArray, List.set_cons_zero, List.set_cons_succ])
    go_cut [57] (fun v57 wc => ∃ (kq : Nat) (A6 : Bool), v57 = .bool A6 ∧ Aside0 (scarfjointref18_Valid.j1 kq a6 A6 b4 b6 a1 a0 ((rd_T75 a1 a6).f0) ((rd_T75 a1 a6).f1) ((rd_T75 a1 a6).f2) ((rd_T75 a1 a6).f3) = some r) ∧ Aside0 (kq ≤ k1) ∧ Aside0 (wc.heap[y6]? = some (.cells #[(.slice g5 b4.length g3), (.slice g4 b6.length g2)] 31 (0, 0))) ∧ Aside0 (wc.heap[d9]? = some (.cells #[(.slice (some d0) a1.length e0), (.slice h4 a0.length e5)] 46 (0, 0))) ∧ Aside0 (wc.heap[g7]? = some (.cells #[.int .i64 ((rd_T75 a1 a6).f0), .int .i64 ((rd_T75 a1 a6).f1), .int .i64 ((rd_T75 a1 a6).f2), .int .i64 ((rd_T75 a1 a6).f3)] 75 (0, 0))) ∧ Aside0 (Below w.heap.size w wc))
    case first =>
     have H := X8.out
     clear X8
     obtain ⟨Q3, P8, H⟩ := obA H
     by_cases P5 : Q3 = true
     rotate_left
     ·replace P5 := Bool.eq_false_iff.mpr P5
      subst P5
      replace H := iff_ H
      have H' := Aside0.mk H
      clear H
      have b4c := e7.out
      have b0i := e9.out
      have b4b := e6.out
      have b0h := e8.out
      obtain ⟨t6, t5, t4, t3, o6, o5, o4, o3⟩ := cz4 b2
      have b4a := b1.out
      have b0g := b0.out
      obtain ⟨t2, t1, o2, o1⟩ := cz2 a4
      go_wp2_with (first | ((with_reducible refine gate_callee (f := 60) rfl ?_); refine gl 36 Tryz.func60 #[.int .i64 ((rd_T75 a1 a6).f0), .int .i64 (b4.length : Int)] (h := ?_); (with_reducible refine (scarfjointref18_is.calls ((rd_T75 a1 a6).f0) (b4.length : Int) false _ P8.out).mono ?_); rintro e w' ⟨rfl, ⟨nd, rfl⟩⟩; refine ⟨_, rfl, ?_⟩))
      go_meet
      case rel => exact ⟨_, (true), eqs, H', ⟨by have := g0.out; first | omega | exact Nat.le_refl _⟩, ⟨bkF a4⟩, ⟨bkF a3⟩, ⟨by (with_reducible repeat (first | refine dN ?_ _ | refine dR ?_ | refine dA ?_ _)); refine blk_put (cs := #[.int .i64 ((rd_T75 a1 a6).f0), .int .i64 ((rd_T75 a1 a6).f1), .int .i64 ((rd_T75 a1 a6).f2), .int .i64 0]) ?_ 3 _ rfl; refine blk_put (cs := #[.int .i64 ((rd_T75 a1 a6).f0), .int .i64 ((rd_T75 a1 a6).f1), .int .i64 0, .int .i64 0]) ?_ 2 _ rfl; refine blk_put (cs := #[.int .i64 ((rd_T75 a1 a6).f0), .int .i64 0, .int .i64 0, .int .i64 0]) ?_ 1 _ rfl; refine blk_put (cs := #[.int .i64 0, .int .i64 0, .int .i64 0, .int .i64 0]) ?_ 0 _ rfl; (with_reducible repeat (first | refine dN ?_ _ | refine dR ?_ | refine dA ?_ _)); exact b2.out⟩, ⟨bb HB⟩⟩
     subst P5
     replace H := ift H
     by_cases E0 : ((rd_T75 a1 a6).f1) = 0
     rotate_left
     ·rw [if_neg E0] at H
      have y7 := beq_eq_false_iff_ne.mpr E0
      have Z3 := bne_iff_ne.mpr E0
      (first | rw [y7] | (simp only [i64_w, i32_w]; rw [y7]) | skip)
      have H' := Aside0.mk H
      clear H
      have b4f := e7.out
      have b1b := e9.out
      have b4e := e6.out
      have b1a := e8.out
      obtain ⟨v2, v1, v0, t9, p3, p1, p0, o9⟩ := cz4 b2
      have b4d := b1.out
      have b0j := b0.out
      obtain ⟨t8, t7, o8, o7⟩ := cz2 a4
      go_wp2_with (first | ((with_reducible refine gate_callee (f := 60) rfl ?_); refine gl 36 Tryz.func60 #[.int .i64 ((rd_T75 a1 a6).f0), .int .i64 (b4.length : Int)] (h := ?_); (with_reducible refine (scarfjointref18_is.calls ((rd_T75 a1 a6).f0) (b4.length : Int) true _ P8.out).mono ?_); rintro e w' ⟨rfl, ⟨nd, rfl⟩⟩; refine ⟨_, rfl, ?_⟩))
      go_meet
      case rel => exact ⟨_, (true), eqs, H', ⟨by have := g0.out; first | omega | exact Nat.le_refl _⟩, ⟨bkF a4⟩, ⟨bkF a3⟩, ⟨by (with_reducible repeat (first | refine dN ?_ _ | refine dR ?_ | refine dA ?_ _)); refine blk_put (cs := #[.int .i64 ((rd_T75 a1 a6).f0), .int .i64 ((rd_T75 a1 a6).f1), .int .i64 ((rd_T75 a1 a6).f2), .int .i64 0]) ?_ 3 _ rfl; refine blk_put (cs := #[.int .i64 ((rd_T75 a1 a6).f0), .int .i64 ((rd_T75 a1 a6).f1), .int .i64 0, .int .i64 0]) ?_ 2 _ rfl; refine blk_put (cs := #[.int .i64 ((rd_T75 a1 a6).f0), .int .i64 0, .int .i64 0, .int .i64 0]) ?_ 1 _ rfl; refine blk_put (cs := #[.int .i64 0, .int .i64 0, .int .i64 0, .int .i64 0]) ?_ 0 _ rfl; (with_reducible repeat (first | refine dN ?_ _ | refine dR ?_ | refine dA ?_ _)); exact b2.out⟩, ⟨bb HB⟩⟩
     rw [if_pos E0] at H
     have y7 := beq_iff_eq.mpr E0
     have Z3 := bne_eq_false_iff_eq.mpr E0
     clear E0
     (first | rw [y7] | (simp only [i64_w, i32_w]; rw [y7]) | skip)
     by_cases D9 : ((rd_T75 a1 a6).f2) = 0
     rotate_left
     ·rw [if_neg D9] at H
      have Z2 := beq_eq_false_iff_ne.mpr D9
      have Z1 := bne_iff_ne.mpr D9
      have H' := Aside0.mk H
      clear H
      have b4i := e7.out
      have b1e := e9.out
      have b4h := e6.out
      have b1d := e8.out
      obtain ⟨w0, v8, v6, v5, q1, q0, p8, p7⟩ := cz4 b2
      have b4g := b1.out
      have b1c := b0.out
      obtain ⟨v4, v3, p5, p4⟩ := cz2 a4
      go_wp2_with (first | ((with_reducible refine gate_callee (f := 60) rfl ?_); refine gl 36 Tryz.func60 #[.int .i64 ((rd_T75 a1 a6).f0), .int .i64 (b4.length : Int)] (h := ?_); (with_reducible refine (scarfjointref18_is.calls ((rd_T75 a1 a6).f0) (b4.length : Int) true _ P8.out).mono ?_); rintro e w' ⟨rfl, ⟨nd, rfl⟩⟩; refine ⟨_, rfl, ?_⟩))
      go_meet
      case rel => exact ⟨_, (true), eqs, H', ⟨by have := g0.out; first | omega | exact Nat.le_refl _⟩, ⟨bkF a4⟩, ⟨bkF a3⟩, ⟨by (with_reducible repeat (first | refine dN ?_ _ | refine dR ?_ | refine dA ?_ _)); refine blk_put (cs := #[.int .i64 ((rd_T75 a1 a6).f0), .int .i64 ((rd_T75 a1 a6).f1), .int .i64 ((rd_T75 a1 a6).f2), .int .i64 0]) ?_ 3 _ rfl; refine blk_put (cs := #[.int .i64 ((rd_T75 a1 a6).f0), .int .i64 ((rd_T75 a1 a6).f1), .int .i64 0, .int .i64 0]) ?_ 2 _ rfl; refine blk_put (cs := #[.int .i64 ((rd_T75 a1 a6).f0), .int .i64 0, .int .i64 0, .int .i64 0]) ?_ 1 _ rfl; refine blk_put (cs := #[.int .i64 0, .int .i64 0, .int .i64 0, .int .i64 0]) ?_ 0 _ rfl; (with_reducible repeat (first | refine dN ?_ _ | refine dR ?_ | refine dA ?_ _)); exact b2.out⟩, ⟨bb HB⟩⟩
     rw [if_pos D9] at H
     have Z2 := beq_iff_eq.mpr D9
     have Z1 := bne_eq_false_iff_eq.mpr D9
     clear D9
     by_cases H8 : ((rd_T75 a1 a6).f3) < 1
     rotate_left
     ·rw [if_neg H8] at H
      have Z0 := decide_eq_false H8
      clear H8
      have H' := Aside0.mk H
      clear H
      have b5b := e7.out
      have b1h := e9.out
      have b5a := e6.out
      have b1g := e8.out
      obtain ⟨w8, w7, w4, w3, q7, q6, q5, q4⟩ := cz4 b2
      have b4j := b1.out
      have b1f := b0.out
      obtain ⟨w2, w1, q3, q2⟩ := cz2 a4
      go_wp2_with (first | ((with_reducible refine gate_callee (f := 60) rfl ?_); refine gl 36 Tryz.func60 #[.int .i64 ((rd_T75 a1 a6).f0), .int .i64 (b4.length : Int)] (h := ?_); (with_reducible refine (scarfjointref18_is.calls ((rd_T75 a1 a6).f0) (b4.length : Int) true _ P8.out).mono ?_); rintro e w' ⟨rfl, ⟨nd, rfl⟩⟩; refine ⟨_, rfl, ?_⟩))
      go_meet
      case rel => exact ⟨_, (decide (((rd_T75 a1 a6).f3) > 40)), eqs, H', ⟨by have := g0.out; first | omega | exact Nat.le_refl _⟩, ⟨bkF a4⟩, ⟨bkF a3⟩, ⟨by (with_reducible repeat (first | refine dN ?_ _ | refine dR ?_ | refine dA ?_ _)); refine blk_put (cs := #[.int .i64 ((rd_T75 a1 a6).f0), .int .i64 ((rd_T75 a1 a6).f1), .int .i64 ((rd_T75 a1 a6).f2), .int .i64 0]) ?_ 3 _ rfl; refine blk_put (cs := #[.int .i64 ((rd_T75 a1 a6).f0), .int .i64 ((rd_T75 a1 a6).f1), .int .i64 0, .int .i64 0]) ?_ 2 _ rfl; refine blk_put (cs := #[.int .i64 ((rd_T75 a1 a6).f0), .int .i64 0, .int .i64 0, .int .i64 0]) ?_ 1 _ rfl; refine blk_put (cs := #[.int .i64 0, .int .i64 0, .int .i64 0, .int .i64 0]) ?_ 0 _ rfl; (with_reducible repeat (first | refine dN ?_ _ | refine dR ?_ | refine dA ?_ _)); exact b2.out⟩, ⟨bb HB⟩⟩
     rw [if_pos H8] at H
     have Z0 := decide_eq_true H8
     clear H8
     have H' := Aside0.mk H
     clear H
     have b5e := e7.out
     have b2a := e9.out
     have b5d := e6.out
     have b1j := e8.out
     obtain ⟨x8, x6, x5, x4, r4, r3, r2, r1⟩ := cz4 b2
     have b5c := b1.out
     have b1i := b0.out
     obtain ⟨x2, x0, r0, q8⟩ := cz2 a4
     go_wp2_with (first | ((with_reducible refine gate_callee (f := 60) rfl ?_); refine gl 36 Tryz.func60 #[.int .i64 ((rd_T75 a1 a6).f0), .int .i64 (b4.length : Int)] (h := ?_); (with_reducible refine (scarfjointref18_is.calls ((rd_T75 a1 a6).f0) (b4.length : Int) true _ P8.out).mono ?_); rintro e w' ⟨rfl, ⟨nd, rfl⟩⟩; refine ⟨_, rfl, ?_⟩))
     go_meet
     case rel => exact ⟨_, (true), eqs, H', ⟨by have := g0.out; first | omega | exact Nat.le_refl _⟩, ⟨bkF a4⟩, ⟨bkF a3⟩, ⟨by (with_reducible repeat (first | refine dN ?_ _ | refine dR ?_ | refine dA ?_ _)); refine blk_put (cs := #[.int .i64 ((rd_T75 a1 a6).f0), .int .i64 ((rd_T75 a1 a6).f1), .int .i64 ((rd_T75 a1 a6).f2), .int .i64 0]) ?_ 3 _ rfl; refine blk_put (cs := #[.int .i64 ((rd_T75 a1 a6).f0), .int .i64 ((rd_T75 a1 a6).f1), .int .i64 0, .int .i64 0]) ?_ 2 _ rfl; refine blk_put (cs := #[.int .i64 ((rd_T75 a1 a6).f0), .int .i64 0, .int .i64 0, .int .i64 0]) ?_ 1 _ rfl; refine blk_put (cs := #[.int .i64 0, .int .i64 0, .int .i64 0, .int .i64 0]) ?_ 0 _ rfl; (with_reducible repeat (first | refine dN ?_ _ | refine dR ?_ | refine dA ?_ _)); exact b2.out⟩, ⟨bb HB⟩⟩
    case rest =>
     clear X8
     try clear c1
     try clear c2
     try clear p2
     try clear c3
     try clear c4
     try clear X6
     try clear X5
     try clear c6
     try clear c7
     try clear p9
     try clear q9
     try clear hx9
     try clear y8
     try clear C0
     try clear O2
     try clear a1a
     try clear c13
     try clear c16
     try clear c17
     try clear P5
     try clear E0
     try clear y7
     try clear Z3
     try clear D9
     try clear Z2
     try clear Z1
     try clear H8
     try clear Z0
     try clear c24
     try clear c25
     try clear c27
     try clear c29
     try clear c30
     try clear c32
     try clear c34
     try clear c35
     try clear c37
     try clear c39
     try clear c40
     try clear c42
     try clear c44
     try clear c45
     try clear c47
     try clear y5
     try clear y4
     try clear y3
     try clear y2
     try clear y1
     try clear y0
     try clear x8
     try clear x6
     try clear x5
     try clear x4
     try clear x2
     try clear x0
     try clear w8
     try clear w7
     try clear w4
     try clear w3
     try clear w2
     try clear w1
     try clear w0
     try clear v8
     try clear v6
     try clear v5
     try clear v4
     try clear v3
     try clear v2
     try clear v1
     try clear v0
     try clear t9
     try clear t8
     try clear t7
     try clear t6
     try clear t5
     try clear t4
     try clear t3
     try clear t2
     try clear t1
     try clear n1
     try clear n0
     try clear t0
     try clear r9
     try clear r8
     try clear r7
     try clear r6
     try clear r5
     try clear r4
     try clear r3
     try clear r2
     try clear r1
     try clear r0
     try clear q8
     try clear q7
     try clear q6
     try clear q5
     try clear q4
     try clear q3
     try clear q2
     try clear q1
     try clear q0
     try clear p8
     try clear p7
     try clear p5
     try clear p4
     try clear p3
     try clear p1
     try clear p0
     try clear o9
     try clear o8
     try clear o7
     try clear o6
     try clear o5
     try clear o4
     try clear o3
     try clear o2
     try clear o1
     try clear m9
     try clear m8
     try clear h3
     try clear h2
     try clear h1
     try clear h0
     try clear p2
     try clear A5
     try clear A2
     obtain ⟨kq, A6, rfl, HA, P1, a4, a3, b2, HB⟩ := hcut
     cases kq with
     | zero => exact absurd HA.out (by simp [scarfjointref18_Valid.j1])
     | succ Q4 =>
      have H := HA.out
      clear HA
      simp only [scarfjointref18_Valid.j1] at H
      by_cases H7 : A6 = true
      ·subst H7
       replace H := ift H
       obtain rfl := Option.some.inj H
       go_wp2
       go_ret
       exact ⟨erf, bb HB⟩
      replace H7 := Bool.eq_false_iff.mpr H7
      subst H7
      replace H := iff_ H
      by_cases A9 : a6 > 0
      rotate_left
      ·rw [if_neg A9] at H
       have E3 : decide (0 < a6) = false := decide_eq_false A9
       clear A9
       have H' := Aside0.mk H
       clear H
       try go_wp2
       replace a4 := Aside0.mk (blk_drew a4.out)
       replace a3 := Aside0.mk (blk_drew a3.out)
       replace b2 := Aside0.mk (blk_drew b2.out)
       replace HB := Aside0.mk (below_drew1 HB.out)
       refine start_ (n := 13) (S := fun w' => True) (ds := []) #[false, false, false, false, false, false, false, false, false, false, false, false, false] (by kernel_rfl) rfl rfl trivial (fun hHeld => ?_); refine with_tabW scarfjointref18_Valid.tab10 scarfjointref18_Valid.bits10 (fun HT_ HW_ => ?_)
       generalize wc.drew = w60 at a4 a3 b2 HB hHeld ⊢
       refine pu 0 58 (bits 13 0x1) HT_ (h := ?_)
       refine pu 1 59 (bits 13 0x3) HT_ (h := ?_)
       refine pu 2 60 (bits 13 0x7) HT_ (h := ?_)
       refine pn 3 61 (bits 13 0xf) HT_ (h := ?_)
       refine pn 4 62 (bits 13 0x1f) HT_ (h := ?_)
       refine pn 5 63 (bits 13 0x3f) HT_ (h := ?_)
       refine pn 6 64 (bits 13 0x7f) HT_ (h := ?_)
       refine pn 7 65 (bits 13 0xff) HT_ (h := ?_)
       refine pn 8 66 (bits 13 0x1ff) HT_ (h := ?_)
       refine pn 9 67 (bits 13 0x3ff) HT_ (h := ?_)
       refine pn 10 68 (bits 13 0x7ff) HT_ (h := ?_)
       refine pn 11 69 (bits 13 0xfff) HT_ (h := ?_)
       refine pu 12 70 (bits 13 0x1fff) HT_ (h := ?_)
       refine done_ (done_of HT_.out (by kernel_rfl)) ?_
       try go_wp2
       go_roundg Q4
       case measure => have := g0.out; have := P1.out; omega
       case rel => exact ⟨(wrap64 (a6 + 1)), eqs, H', ⟨by have := g0.out; have := P1.out; omega⟩, ⟨bk a4⟩, ⟨bk a3⟩, ⟨bb HB⟩⟩
      rw [if_pos A9] at H
      have E3 : decide (0 < a6) = true := decide_eq_true A9
      clear A9
      obtain ⟨b3, o0⟩ : ∃ j_ : Int, (wrap64 (a6 - 1)) = j_ := ⟨_, rfl⟩
      replace H : (if 0 ≤ (b3) then (if (b3) < (a1.length : Int) then ((scarfjointref18_compare.f ((rd_T75 a1 (b3)).f0) ((rd_T75 a1 (b3)).f1) ((rd_T75 a1 (b3)).f2) ((rd_T75 a1 (b3)).f3) ((rd_T75 a1 a6).f0) ((rd_T75 a1 a6).f1) ((rd_T75 a1 a6).f2) ((rd_T75 a1 a6).f3)).bind fun m4 => (if m4 ≥ 0 then (some 12) else (scarfjointref18_Valid.l0 Q4 (wrap64 (a6 + 1)) b4 b6 a1 a0))) else (none)) else (none)) = some r := by first | (rw [o0] at H; exact H) | (simp only [o0] at H ⊢; exact H)
      have hji51w : (IntKind.i64.wrap (a6 - 1)) = b3 := (i64_w _).trans o0
      obtain ⟨P4, H⟩ := itn H
      have O7 := decide_eq_true P4
      clear P4
      obtain ⟨P3, H⟩ := itn H
      have O6 := decide_eq_true P3
      clear P3
      obtain ⟨m4, A54, H⟩ := obA H
      by_cases A8 : m4 ≥ 0
      ·rw [if_pos A8] at H
       have E2 : decide (0 ≤ m4) = true := decide_eq_true A8
       clear A8
       obtain rfl := Option.some.inj H
       try go_wp2
       replace a4 := Aside0.mk (blk_drew a4.out)
       replace a3 := Aside0.mk (blk_drew a3.out)
       replace b2 := Aside0.mk (blk_drew b2.out)
       replace HB := Aside0.mk (below_drew1 HB.out)
       have h7 : 0 ≤ ((b3) : Int) := odt
       have h6 : (b3) < (a1.length : Int) := odt
       obtain ⟨P0, X4, d8, d7, d6, d5⟩ := at_T75 h5.out (b3) h7 h6
       have j6 := d5
       have j7 := d6
       have j8 := d7
       have j9 := d8
       obtain rfl : d0 = P0 := (by injection X4)
       replace d8 := hxc HB d8
       replace d7 := hxc HB d7
       replace d6 := hxc HB d6
       replace d5 := hxc HB d5
       replace h7 := eq_true h7
       replace h6 := eq_true h6
       refine start_ (n := 13) (S := fun w' => w'.cell? ⟨d9, 0, none⟩ = some (.slice (some d0) a1.length e0) ∧ w'.cell? ⟨d9, 1, none⟩ = some (.slice h4 a0.length e5) ∧ w'.cell? ⟨g7, 0, none⟩ = some (.int .i64 ((rd_T75 a1 a6).f0)) ∧ w'.cell? ⟨g7, 1, none⟩ = some (.int .i64 ((rd_T75 a1 a6).f1)) ∧ w'.cell? ⟨g7, 2, none⟩ = some (.int .i64 ((rd_T75 a1 a6).f2)) ∧ w'.cell? ⟨g7, 3, none⟩ = some (.int .i64 ((rd_T75 a1 a6).f3)) ∧ w'.cell? (d0.add (((b3)).toNat * 4)) = some (.int .i64 ((rd_T75 a1 (b3)).f0)) ∧ w'.cell? ⟨(d0.add (((b3)).toNat * 4)).block, (d0.add (((b3)).toNat * 4)).off + 1, none⟩ = some (.int .i64 ((rd_T75 a1 (b3)).f1)) ∧ w'.cell? ⟨(d0.add (((b3)).toNat * 4)).block, (d0.add (((b3)).toNat * 4)).off + 2, none⟩ = some (.int .i64 ((rd_T75 a1 (b3)).f2)) ∧ w'.cell? ⟨(d0.add (((b3)).toNat * 4)).block, (d0.add (((b3)).toNat * 4)).off + 3, none⟩ = some (.int .i64 ((rd_T75 a1 (b3)).f3))) (ds := []) #[false, false, false, false, false, false, false, false, false, false, false, false, false] (by kernel_rfl) rfl rfl ⟨bc a3 0, bc a3 1, bc b2 0, bc b2 1, bc b2 2, bc b2 3, (hxc HB j9), (hxc HB j8), (hxc HB j7), (hxc HB j6)⟩ (fun hHeld => ?_); refine with_tabW scarfjointref18_Valid.tab10 scarfjointref18_Valid.bits10 (fun HT_ HW_ => ?_)
       generalize wc.drew = w56 at a4 a3 b2 HB d8 d7 d6 d5 hHeld ⊢
       refine pu 0 58 (bits 13 0x1) HT_ (h := ?_)
       refine pu 1 59 (bits 13 0x3) HT_ (h := ?_)
       refine pu 2 60 (bits 13 0x7) HT_ (h := ?_)
       refine pu 3 61 (bits 13 0xf) HT_ (h := ?_)
       refine pu 5 63 (bits 13 0x2f) HT_ (h := ?_)
       refine pu 6 64 (bits 13 0x6f) HT_ (h := ?_)
       refine tk 4 62 (bits 13 0x7f) HT_ HW_ hHeld (hy := by rintro w' ⟨s0, s1, s2, s3, s4, s5, s6, s7, s8, s9⟩; go_simp; with_reducible rfl) (h := ?_)
       refine pu 7 65 (bits 13 0xff) HT_ (h := ?_)
       refine tk 8 66 (bits 13 0x1ff) HT_ HW_ hHeld (hy := by rintro w' ⟨s0, s1, s2, s3, s4, s5, s6, s7, s8, s9⟩; go_simp; with_reducible rfl) (h := ?_)
       refine tk 9 67 (bits 13 0x3ff) HT_ HW_ hHeld (hy := by rintro w' ⟨s0, s1, s2, s3, s4, s5, s6, s7, s8, s9⟩; go_simp; with_reducible rfl) (h := ?_)
       refine one_ (i := 10) (N := some 68) #[true, true, true, true, true, true, true, true, true, true, true, false, false] rfl rfl (one_of HT_.out (by kernel_rfl)) (by decide) (fun K hK => ?_)
       refine goes_ Tryz.func63 (by kernel_rfl) rfl #[.agg #[.int .i64 ((rd_T75 a1 (b3)).f0), .int .i64 ((rd_T75 a1 (b3)).f1), .int .i64 ((rd_T75 a1 (b3)).f2), .int .i64 ((rd_T75 a1 (b3)).f3)], .agg #[.int .i64 ((rd_T75 a1 a6).f0), .int .i64 ((rd_T75 a1 a6).f1), .int .i64 ((rd_T75 a1 a6).f2), .int .i64 ((rd_T75 a1 a6).f3)]] (by rfl) rfl rfl (by (try simp only [List.map_toArray, List.map_cons, List.map_nil]); first | done | (simp only [o0]; rfl) | rfl | (simp only [List.length_drop, List.length_take]; rfl)) ?_
       with_reducible refine (scarfjointref18_compare.calls ((rd_T75 a1 (b3)).f0) ((rd_T75 a1 (b3)).f1) ((rd_T75 a1 (b3)).f2) ((rd_T75 a1 (b3)).f3) ((rd_T75 a1 a6).f0) ((rd_T75 a1 a6).f1) ((rd_T75 a1 a6).f2) ((rd_T75 a1 a6).f3) m4 _ A54.out).mono ?_
       rintro e w57 ⟨rfl, hb⟩
       refine ⟨_, rfl, ?_⟩
       replace a4 := bkb a4 hb
       replace a3 := bkb a3 hb
       replace b2 := bkb b2 hb
       replace HB := bstep HB hb
       (try clear hb)
       (try clear hb2)
       (try clear hk)
       (try clear hi)
       refine hK.out _ _ ⟨bc a3 0, bc a3 1, bc b2 0, bc b2 1, bc b2 2, bc b2 3, (hxc HB j9), (hxc HB j8), (hxc HB j7), (hxc HB j6)⟩ (fun hHeld => ?_)
       clear hK K
       refine norm_ (a' := ?_) ?_ ?_
       rotate_left
       ·show Act.put _ (some 68) _ = _
        simp only [Act.put, List.setIfInBounds_toArray, List.set_cons_zero, List.set_cons_succ, i64_w, i32_w]
        rfl
       refine pu 11 69 (bits 13 0xfff) HT_ (h := ?_)
       refine pu 12 70 (bits 13 0x1fff) HT_ (h := ?_)
       refine done_ (done_of HT_.out (by kernel_rfl)) ?_
       try go_wp2
       go_ret
       exact ⟨by first | rfl | (simp [errW_none, errW_some] <;> rfl) | (simp only [← o0]; first | rfl | (simp [errW_none, errW_some] <;> rfl)) | (simp [*, errW_none, errW_some] <;> rfl), bb HB⟩
      rw [if_neg A8] at H
      have E2 : decide (0 ≤ m4) = false := decide_eq_false A8
      clear A8
      have H' := Aside0.mk H
      clear H
      try go_wp2
      replace a4 := Aside0.mk (blk_drew a4.out)
      replace a3 := Aside0.mk (blk_drew a3.out)
      replace b2 := Aside0.mk (blk_drew b2.out)
      replace HB := Aside0.mk (below_drew1 HB.out)
      have h7 : 0 ≤ ((b3) : Int) := odt
      have h6 : (b3) < (a1.length : Int) := odt
      obtain ⟨P0, X4, d8, d7, d6, d5⟩ := at_T75 h5.out (b3) h7 h6
      have j6 := d5
      have j7 := d6
      have j8 := d7
      have j9 := d8
      obtain rfl : d0 = P0 := (by injection X4)
      replace d8 := hxc HB d8
      replace d7 := hxc HB d7
      replace d6 := hxc HB d6
      replace d5 := hxc HB d5
      replace h7 := eq_true h7
      replace h6 := eq_true h6
      refine start_ (n := 13) (S := fun w' => w'.cell? ⟨d9, 0, none⟩ = some (.slice (some d0) a1.length e0) ∧ w'.cell? ⟨d9, 1, none⟩ = some (.slice h4 a0.length e5) ∧ w'.cell? ⟨g7, 0, none⟩ = some (.int .i64 ((rd_T75 a1 a6).f0)) ∧ w'.cell? ⟨g7, 1, none⟩ = some (.int .i64 ((rd_T75 a1 a6).f1)) ∧ w'.cell? ⟨g7, 2, none⟩ = some (.int .i64 ((rd_T75 a1 a6).f2)) ∧ w'.cell? ⟨g7, 3, none⟩ = some (.int .i64 ((rd_T75 a1 a6).f3)) ∧ w'.cell? (d0.add (((b3)).toNat * 4)) = some (.int .i64 ((rd_T75 a1 (b3)).f0)) ∧ w'.cell? ⟨(d0.add (((b3)).toNat * 4)).block, (d0.add (((b3)).toNat * 4)).off + 1, none⟩ = some (.int .i64 ((rd_T75 a1 (b3)).f1)) ∧ w'.cell? ⟨(d0.add (((b3)).toNat * 4)).block, (d0.add (((b3)).toNat * 4)).off + 2, none⟩ = some (.int .i64 ((rd_T75 a1 (b3)).f2)) ∧ w'.cell? ⟨(d0.add (((b3)).toNat * 4)).block, (d0.add (((b3)).toNat * 4)).off + 3, none⟩ = some (.int .i64 ((rd_T75 a1 (b3)).f3))) (ds := []) #[false, false, false, false, false, false, false, false, false, false, false, false, false] (by kernel_rfl) rfl rfl ⟨bc a3 0, bc a3 1, bc b2 0, bc b2 1, bc b2 2, bc b2 3, (hxc HB j9), (hxc HB j8), (hxc HB j7), (hxc HB j6)⟩ (fun hHeld => ?_); refine with_tabW scarfjointref18_Valid.tab10 scarfjointref18_Valid.bits10 (fun HT_ HW_ => ?_)
      generalize wc.drew = w58 at a4 a3 b2 HB d8 d7 d6 d5 hHeld ⊢
      refine pu 0 58 (bits 13 0x1) HT_ (h := ?_)
      refine pu 1 59 (bits 13 0x3) HT_ (h := ?_)
      refine pu 2 60 (bits 13 0x7) HT_ (h := ?_)
      refine pu 3 61 (bits 13 0xf) HT_ (h := ?_)
      refine pu 5 63 (bits 13 0x2f) HT_ (h := ?_)
      refine pu 6 64 (bits 13 0x6f) HT_ (h := ?_)
      refine tk 4 62 (bits 13 0x7f) HT_ HW_ hHeld (hy := by rintro w' ⟨s0, s1, s2, s3, s4, s5, s6, s7, s8, s9⟩; go_simp; with_reducible rfl) (h := ?_)
      refine pu 7 65 (bits 13 0xff) HT_ (h := ?_)
      refine tk 8 66 (bits 13 0x1ff) HT_ HW_ hHeld (hy := by rintro w' ⟨s0, s1, s2, s3, s4, s5, s6, s7, s8, s9⟩; go_simp; with_reducible rfl) (h := ?_)
      refine tk 9 67 (bits 13 0x3ff) HT_ HW_ hHeld (hy := by rintro w' ⟨s0, s1, s2, s3, s4, s5, s6, s7, s8, s9⟩; go_simp; with_reducible rfl) (h := ?_)
      refine one_ (i := 10) (N := some 68) #[true, true, true, true, true, true, true, true, true, true, true, false, false] rfl rfl (one_of HT_.out (by kernel_rfl)) (by decide) (fun K hK => ?_)
      refine goes_ Tryz.func63 (by kernel_rfl) rfl #[.agg #[.int .i64 ((rd_T75 a1 (b3)).f0), .int .i64 ((rd_T75 a1 (b3)).f1), .int .i64 ((rd_T75 a1 (b3)).f2), .int .i64 ((rd_T75 a1 (b3)).f3)], .agg #[.int .i64 ((rd_T75 a1 a6).f0), .int .i64 ((rd_T75 a1 a6).f1), .int .i64 ((rd_T75 a1 a6).f2), .int .i64 ((rd_T75 a1 a6).f3)]] (by rfl) rfl rfl (by (try simp only [List.map_toArray, List.map_cons, List.map_nil]); first | done | (simp only [o0]; rfl) | rfl | (simp only [List.length_drop, List.length_take]; rfl)) ?_
      with_reducible refine (scarfjointref18_compare.calls ((rd_T75 a1 (b3)).f0) ((rd_T75 a1 (b3)).f1) ((rd_T75 a1 (b3)).f2) ((rd_T75 a1 (b3)).f3) ((rd_T75 a1 a6).f0) ((rd_T75 a1 a6).f1) ((rd_T75 a1 a6).f2) ((rd_T75 a1 a6).f3) m4 _ A54.out).mono ?_
      rintro e w59 ⟨rfl, hb⟩
      refine ⟨_, rfl, ?_⟩
      replace a4 := bkb a4 hb
      replace a3 := bkb a3 hb
      replace b2 := bkb b2 hb
      replace HB := bstep HB hb
      (try clear hb)
      (try clear hb2)
      (try clear hk)
      (try clear hi)
      refine hK.out _ _ ⟨bc a3 0, bc a3 1, bc b2 0, bc b2 1, bc b2 2, bc b2 3, (hxc HB j9), (hxc HB j8), (hxc HB j7), (hxc HB j6)⟩ (fun hHeld => ?_)
      clear hK K
      refine norm_ (a' := ?_) ?_ ?_
      rotate_left
      ·show Act.put _ (some 68) _ = _
       simp only [Act.put, List.setIfInBounds_toArray, List.set_cons_zero, List.set_cons_succ, i64_w, i32_w]
       rfl
      refine pu 11 69 (bits 13 0xfff) HT_ (h := ?_)
      refine pu 12 70 (bits 13 0x1fff) HT_ (h := ?_)
      refine done_ (done_of HT_.out (by kernel_rfl)) ?_
      try go_wp2
      go_roundg Q4
      case measure => have := g0.out; have := P1.out; omega
      case rel => exact ⟨(wrap64 (a6 + 1)), eqs, H', ⟨by have := g0.out; have := P1.out; omega⟩, ⟨bk a4⟩, ⟨bk a3⟩, ⟨bb HB⟩⟩
   rw [if_neg y8] at H
   have C0 := decide_eq_false y8
   clear y8
   obtain ⟨A0, A61, H⟩ := obA H
   by_cases A7 : A0 > 40
   ·rw [if_pos A7] at H
    have E1 : decide (40 < A0) = true := decide_eq_true A7
    clear A7
    obtain rfl := Option.some.inj H
    have b3j := b0.out
    have b0f := b1.out
    obtain ⟨D2, D1, C8, C7⟩ := cz2 a3
    go_wp2_with (first | ((with_reducible refine gate_callee (f := 64) rfl ?_); refine gl 73 Tryz.func64 #[.slice g1 a1.length e0] (h := ?_); (with_reducible refine (scarfjointref18_total.calls k1 _ _ a1 A0 _ ?b9 ?b8 A61.out).mono ?_); (case b9 => exact cb h5 HB); (case b8 => exact C3.out); rintro e w' ⟨rfl, ⟨nd, rfl⟩⟩; refine ⟨_, rfl, ?_⟩))
    go_ret
    exact ⟨erf, bb HB⟩
   rw [if_neg A7] at H
   have E1 : decide (40 < A0) = false := decide_eq_false A7
   clear A7
   have H' := Aside0.mk H
   clear H
   have b3i := b0.out
   have b0e := b1.out
   obtain ⟨D0, C9, C6, C5⟩ := cz2 a3
   go_wp2_with (first | ((with_reducible refine gate_callee (f := 64) rfl ?_); refine gl 73 Tryz.func64 #[.slice g1 a1.length e0] (h := ?_); (with_reducible refine (scarfjointref18_total.calls k1 _ _ a1 A0 _ ?b9 ?b8 A61.out).mono ?_); (case b9 => exact cb h5 HB); (case b8 => exact C3.out); rintro e w' ⟨rfl, ⟨nd, rfl⟩⟩; refine ⟨_, rfl, ?_⟩))
   go_loopg [9] k1 (fun kq v9 w' => ∃ (a2 : Int), v9 = .int .i64 a2 ∧ Aside0 (scarfjointref18_Valid.l1 kq a2 b4 b6 a1 a0 = some r) ∧ Aside0 (kq ≤ k1) ∧ Aside0 (w'.heap[y6]? = some (.cells #[(.slice g5 b4.length g3), (.slice g4 b6.length g2)] 31 (0, 0))) ∧ Aside0 (w'.heap[d9]? = some (.cells #[(.slice g1 a1.length e0), (.slice h4 a0.length e5)] 46 (0, 0))) ∧ Aside0 (Below w.heap.size w w'))
   case atStart => exact ⟨(0), eqs, H', ⟨Nat.le_refl _⟩, ⟨bk a4⟩, ⟨bk a3⟩, ⟨bb HB⟩⟩
   case round =>
    clear H'
    try clear c1
    try clear p2
    try clear c3
    try clear c4
    try clear c5
    try clear c6
    try clear p6
    try clear p9
    try clear q9
    try clear hx9
    try clear y8
    try clear C0
    try clear O2
    try clear c37
    try clear c39
    try clear c40
    try clear c42
    try clear c44
    try clear c45
    try clear c47
    try clear H7
    try clear A9
    try clear E3
    try clear P4
    try clear O7
    try clear P3
    try clear O6
    try clear A8
    try clear E2
    try clear A7
    try clear E1
    try clear c63
    try clear c64
    try clear X9
    try clear c65
    try clear y5
    try clear y4
    try clear y3
    try clear y2
    try clear y1
    try clear y0
    try clear x8
    try clear x6
    try clear x5
    try clear x4
    try clear x2
    try clear x0
    try clear w8
    try clear w7
    try clear w4
    try clear w3
    try clear w2
    try clear w1
    try clear w0
    try clear v8
    try clear v6
    try clear v5
    try clear v4
    try clear v3
    try clear v2
    try clear v1
    try clear v0
    try clear t9
    try clear t8
    try clear t7
    try clear t6
    try clear t5
    try clear t4
    try clear t3
    try clear t2
    try clear t1
    try clear D2
    try clear D1
    try clear D0
    try clear C9
    try clear n1
    try clear n0
    try clear t0
    try clear r9
    try clear r8
    try clear r7
    try clear r6
    try clear r5
    try clear r4
    try clear r3
    try clear r2
    try clear r1
    try clear r0
    try clear q8
    try clear q7
    try clear q6
    try clear q5
    try clear q4
    try clear q3
    try clear q2
    try clear q1
    try clear q0
    try clear p8
    try clear p7
    try clear p5
    try clear p4
    try clear p3
    try clear p1
    try clear p0
    try clear o9
    try clear o8
    try clear o7
    try clear o6
    try clear o5
    try clear o4
    try clear o3
    try clear o2
    try clear o1
    try clear C8
    try clear C7
    try clear C6
    try clear C5
    try clear m9
    try clear m8
    try clear h3
    try clear h2
    try clear h1
    try clear h0
    try clear d8
    try clear d7
    try clear d6
    try clear d5
    try clear p2
    try clear A5
    try clear h7
    try clear A2
    try clear h6
    obtain ⟨a2, rfl, HA, n3, a4, a3, HB⟩ := hrel
    cases gk with
    | zero => exact absurd HA.out (by simp [scarfjointref18_Valid.l1])
    | succ k2 =>
     have H := HA.out
     clear HA
     simp only [scarfjointref18_Valid.l1] at H
     by_cases D8 : a2 < (a0.length : Int)
     rotate_left
     ·rw [if_neg D8] at H
      have O5 := decide_eq_false D8
      clear D8
      obtain ⟨y9, a0g, H⟩ := obA H
      by_cases D3 : y9 > 80
      rotate_left
      ·rw [if_neg D3] at H
       have a0b : decide (80 < y9) = false := decide_eq_false D3
       clear D3
       obtain rfl := Option.some.inj H
       have a7a := b0.out
       have a5b := b1.out
       obtain ⟨a3e, a3d, a2c, a2b⟩ := cz2 a3
       go_wp2_with (first | ((with_reducible refine gate_callee (f := 64) rfl ?_); refine gl 162 Tryz.func64 #[.slice h4 a0.length e5] (h := ?_); (with_reducible refine (scarfjointref18_total.calls k2 _ _ a0 y9 _ ?b9 ?b8 a0g.out).mono ?_); (case b9 => exact cb C2 HB); (case b8 => exact Z4.out); rintro e w' ⟨rfl, ⟨nd, rfl⟩⟩; refine ⟨_, rfl, ?_⟩))
       go_ret
       exact ⟨erf, bb HB⟩
      rw [if_pos D3] at H
      have a0b : decide (80 < y9) = true := decide_eq_true D3
      clear D3
      obtain rfl := Option.some.inj H
      have a7b := b0.out
      have a5c := b1.out
      obtain ⟨a3g, a3f, a2e, a2d⟩ := cz2 a3
      go_wp2_with (first | ((with_reducible refine gate_callee (f := 64) rfl ?_); refine gl 162 Tryz.func64 #[.slice h4 a0.length e5] (h := ?_); (with_reducible refine (scarfjointref18_total.calls k2 _ _ a0 y9 _ ?b9 ?b8 a0g.out).mono ?_); (case b9 => exact cb C2 HB); (case b8 => exact Z4.out); rintro e w' ⟨rfl, ⟨nd, rfl⟩⟩; refine ⟨_, rfl, ?_⟩))
      go_ret
      exact ⟨erf, bb HB⟩
     rw [if_pos D8] at H
     have O5 := decide_eq_true D8
     clear D8
     obtain ⟨Y9, H⟩ := itn H
     have Y8 := decide_eq_true Y9
     clear Y9
     have X7 := Aside0.mk H
     clear H
     have b3h := b0.out
     have b0d := b1.out
     obtain ⟨N8, N7, L4, L3⟩ := cz2 a3
     have F2 : 0 ≤ a2 := odt
     have F1 : a2 < (a0.length : Int) := odt
     obtain ⟨c0, a4d, n9, n8, n7, n6⟩ := at_T75 C2.out a2 F2 F1
     cases a4d
     replace n9 := hxc HB n9
     replace n8 := hxc HB n8
     replace n7 := hxc HB n7
     replace n6 := hxc HB n6
     replace F2 := eq_true F2
     replace F1 := eq_true F1
     go_upto_region 18 with (first | ((with_reducible refine gate_dst (N := 10) rfl ?_); (try (refine gate_guard (by rfl) ?_; dsimp only)); refine be 10 #[.int .i64 0, .int .i64 0, .int .i64 0, .int .i64 0] 75 ?_; intro g6 hg w72 hbox hb; have a8 := Aside0.mk (hbox); have b5i := bsz HB hg; replace HB := bstep HB hb; have d4 := blt a4 hg; have d2 := bgt a4 hg; replace a4 := bkb a4 hb; have d3 := blt a3 hg; have d1 := bgt a3 hg; replace a3 := bkb a3 hb; clear hb hbox hg; have b3g := d2.out; have b0c := d4.out; have b3f := d1.out; have b0b := d3.out; obtain ⟨N6, N5, N4, N3, L2, L1, L0, J9⟩ := cz4 a8))
     (try simp only [Act.put, List.setIfInBounds_toArray, List.set_cons_zero, List.set_cons_succ])
     go_cut [121] (fun a1g wc => ∃ (kq : Nat) (n5 : Bool), a1g = .bool n5 ∧ Aside0 (scarfjointref18_Valid.j3 kq a2 n5 b4 b6 a1 a0 ((rd_T75 a0 a2).f0) ((rd_T75 a0 a2).f1) ((rd_T75 a0 a2).f2) ((rd_T75 a0 a2).f3) = some r) ∧ Aside0 (kq ≤ k2) ∧ Aside0 (wc.heap[y6]? = some (.cells #[(.slice g5 b4.length g3), (.slice g4 b6.length g2)] 31 (0, 0))) ∧ Aside0 (wc.heap[d9]? = some (.cells #[(.slice g1 a1.length e0), (.slice (some c0) a0.length e5)] 46 (0, 0))) ∧ Aside0 (wc.heap[g6]? = some (.cells #[.int .i64 ((rd_T75 a0 a2).f0), .int .i64 ((rd_T75 a0 a2).f1), .int .i64 ((rd_T75 a0 a2).f2), .int .i64 ((rd_T75 a0 a2).f3)] 75 (0, 0))) ∧ Aside0 (Below w.heap.size w wc))
     case first =>
      have H := X7.out
      clear X7
      obtain ⟨Q2, P7, H⟩ := obA H
      by_cases O1 : Q2 = true
      rotate_left
      ·replace O1 := Bool.eq_false_iff.mpr O1
       subst O1
       replace H := iff_ H
       have H' := Aside0.mk H
       clear H
       have a8g := d2.out
       have a6h := d4.out
       have a8f := d1.out
       have a6g := d3.out
       obtain ⟨H0, G9, G8, G7, F8, F7, F6, F5⟩ := cz4 a8
       have a8e := b1.out
       have a6f := b0.out
       obtain ⟨G6, G5, F4, F3⟩ := cz2 a4
       go_wp2_with (first | ((with_reducible refine gate_callee (f := 60) rfl ?_); refine gl 92 Tryz.func60 #[.int .i64 ((rd_T75 a0 a2).f0), .int .i64 (b6.length : Int)] (h := ?_); (with_reducible refine (scarfjointref18_is.calls ((rd_T75 a0 a2).f0) (b6.length : Int) false _ P7.out).mono ?_); rintro e w' ⟨rfl, ⟨nd, rfl⟩⟩; refine ⟨_, rfl, ?_⟩))
       go_meet
       case rel => exact ⟨_, (true), eqs, H', ⟨by have := g0.out; have := n3.out; first | omega | exact Nat.le_refl _⟩, ⟨bkF a4⟩, ⟨bkF a3⟩, ⟨by (with_reducible repeat (first | refine dN ?_ _ | refine dR ?_ | refine dA ?_ _)); refine blk_put (cs := #[.int .i64 ((rd_T75 a0 a2).f0), .int .i64 ((rd_T75 a0 a2).f1), .int .i64 ((rd_T75 a0 a2).f2), .int .i64 0]) ?_ 3 _ rfl; refine blk_put (cs := #[.int .i64 ((rd_T75 a0 a2).f0), .int .i64 ((rd_T75 a0 a2).f1), .int .i64 0, .int .i64 0]) ?_ 2 _ rfl; refine blk_put (cs := #[.int .i64 ((rd_T75 a0 a2).f0), .int .i64 0, .int .i64 0, .int .i64 0]) ?_ 1 _ rfl; refine blk_put (cs := #[.int .i64 0, .int .i64 0, .int .i64 0, .int .i64 0]) ?_ 0 _ rfl; (with_reducible repeat (first | refine dN ?_ _ | refine dR ?_ | refine dA ?_ _)); exact a8.out⟩, ⟨bb HB⟩⟩
      subst O1
      replace H := ift H
      obtain ⟨Q1, Z5, H⟩ := obA H
      by_cases O0 : Q1 = true
      rotate_left
      ·replace O0 := Bool.eq_false_iff.mpr O0
       subst O0
       replace H := iff_ H
       have H' := Aside0.mk H
       clear H
       have b2f := d2.out
       have a9b := d4.out
       have b2e := d1.out
       have a9a := d3.out
       obtain ⟨H6, H5, H4, H3, G4, G3, G2, G1⟩ := cz4 a8
       have a8h := b1.out
       have a6i := b0.out
       obtain ⟨H2, H1, G0, F9⟩ := cz2 a4
       go_wp2_with (first | ((with_reducible refine gate_callee (f := 60) rfl ?_); refine gl 92 Tryz.func60 #[.int .i64 ((rd_T75 a0 a2).f0), .int .i64 (b6.length : Int)] (h := ?_); (with_reducible refine (scarfjointref18_is.calls ((rd_T75 a0 a2).f0) (b6.length : Int) true _ P7.out).mono ?_); rintro e w' ⟨rfl, ⟨nd, rfl⟩⟩; refine ⟨_, rfl, ?_⟩) | (go_at_call 60; (with_reducible refine (scarfjointref18_is.calls ((rd_T75 a0 a2).f1) (b4.length : Int) false _ Z5.out).mono ?_); rintro e w' ⟨rfl, ⟨nd, rfl⟩⟩))
       go_meet
       case rel => exact ⟨_, (true), eqs, H', ⟨by have := g0.out; have := n3.out; first | omega | exact Nat.le_refl _⟩, ⟨bkF a4⟩, ⟨bkF a3⟩, ⟨by (with_reducible repeat (first | refine dN ?_ _ | refine dR ?_ | refine dA ?_ _)); refine blk_put (cs := #[.int .i64 ((rd_T75 a0 a2).f0), .int .i64 ((rd_T75 a0 a2).f1), .int .i64 ((rd_T75 a0 a2).f2), .int .i64 0]) ?_ 3 _ rfl; refine blk_put (cs := #[.int .i64 ((rd_T75 a0 a2).f0), .int .i64 ((rd_T75 a0 a2).f1), .int .i64 0, .int .i64 0]) ?_ 2 _ rfl; refine blk_put (cs := #[.int .i64 ((rd_T75 a0 a2).f0), .int .i64 0, .int .i64 0, .int .i64 0]) ?_ 1 _ rfl; refine blk_put (cs := #[.int .i64 0, .int .i64 0, .int .i64 0, .int .i64 0]) ?_ 0 _ rfl; (with_reducible repeat (first | refine dN ?_ _ | refine dR ?_ | refine dA ?_ _)); exact a8.out⟩, ⟨bb HB⟩⟩
      subst O0
      replace H := ift H
      obtain ⟨Q0, A80, H⟩ := obA H
      by_cases N9 : Q0 = true
      rotate_left
      ·replace N9 := Bool.eq_false_iff.mpr N9
       subst N9
       replace H := iff_ H
       have H' := Aside0.mk H
       clear H
       have b2i := d2.out
       have a9e := d4.out
       have b2h := d1.out
       have a9d := d3.out
       obtain ⟨M0, L9, L8, L7, I6, I5, I4, I3⟩ := cz4 a8
       have b2g := b1.out
       have a9c := b0.out
       obtain ⟨L6, L5, I2, I1⟩ := cz2 a4
       go_wp2_with (first | ((with_reducible refine gate_callee (f := 60) rfl ?_); refine gl 92 Tryz.func60 #[.int .i64 ((rd_T75 a0 a2).f0), .int .i64 (b6.length : Int)] (h := ?_); (with_reducible refine (scarfjointref18_is.calls ((rd_T75 a0 a2).f0) (b6.length : Int) true _ P7.out).mono ?_); rintro e w' ⟨rfl, ⟨nd, rfl⟩⟩; refine ⟨_, rfl, ?_⟩) | (go_at_call 60; (with_reducible refine (scarfjointref18_is.calls ((rd_T75 a0 a2).f1) (b4.length : Int) true _ Z5.out).mono ?_); rintro e w' ⟨rfl, ⟨nd, rfl⟩⟩) | (go_at_call 60; (with_reducible refine (scarfjointref18_is.calls ((rd_T75 a0 a2).f2) (b4.length : Int) false _ A80.out).mono ?_); rintro e w' ⟨rfl, ⟨nd, rfl⟩⟩))
       go_meet
       case rel => exact ⟨_, (true), eqs, H', ⟨by have := g0.out; have := n3.out; first | omega | exact Nat.le_refl _⟩, ⟨bkF a4⟩, ⟨bkF a3⟩, ⟨by (with_reducible repeat (first | refine dN ?_ _ | refine dR ?_ | refine dA ?_ _)); refine blk_put (cs := #[.int .i64 ((rd_T75 a0 a2).f0), .int .i64 ((rd_T75 a0 a2).f1), .int .i64 ((rd_T75 a0 a2).f2), .int .i64 0]) ?_ 3 _ rfl; refine blk_put (cs := #[.int .i64 ((rd_T75 a0 a2).f0), .int .i64 ((rd_T75 a0 a2).f1), .int .i64 0, .int .i64 0]) ?_ 2 _ rfl; refine blk_put (cs := #[.int .i64 ((rd_T75 a0 a2).f0), .int .i64 0, .int .i64 0, .int .i64 0]) ?_ 1 _ rfl; refine blk_put (cs := #[.int .i64 0, .int .i64 0, .int .i64 0, .int .i64 0]) ?_ 0 _ rfl; (with_reducible repeat (first | refine dN ?_ _ | refine dR ?_ | refine dA ?_ _)); exact a8.out⟩, ⟨bb HB⟩⟩
      subst N9
      replace H := ift H
      by_cases D7 : ((rd_T75 a0 a2).f3) < 1
      rotate_left
      ·rw [if_neg D7] at H
       have m7 := decide_eq_false D7
       clear D7
       (first | rw [m7] | (simp only [i64_w, i32_w]; rw [m7]) | skip)
       have H' := Aside0.mk H
       clear H
       have b3b := d2.out
       have a9h := d4.out
       have b3a := d1.out
       have a9g := d3.out
       obtain ⟨M6, M5, M4, M3, J2, J1, J0, I9⟩ := cz4 a8
       have b2j := b1.out
       have a9f := b0.out
       obtain ⟨M2, M1, I8, I7⟩ := cz2 a4
       go_wp2_with (first | ((with_reducible refine gate_callee (f := 60) rfl ?_); refine gl 92 Tryz.func60 #[.int .i64 ((rd_T75 a0 a2).f0), .int .i64 (b6.length : Int)] (h := ?_); (with_reducible refine (scarfjointref18_is.calls ((rd_T75 a0 a2).f0) (b6.length : Int) true _ P7.out).mono ?_); rintro e w' ⟨rfl, ⟨nd, rfl⟩⟩; refine ⟨_, rfl, ?_⟩) | (go_at_call 60; (with_reducible refine (scarfjointref18_is.calls ((rd_T75 a0 a2).f1) (b4.length : Int) true _ Z5.out).mono ?_); rintro e w' ⟨rfl, ⟨nd, rfl⟩⟩) | (go_at_call 60; (with_reducible refine (scarfjointref18_is.calls ((rd_T75 a0 a2).f2) (b4.length : Int) true _ A80.out).mono ?_); rintro e w' ⟨rfl, ⟨nd, rfl⟩⟩))
       go_meet
       case rel => exact ⟨_, (decide (((rd_T75 a0 a2).f3) > 80)), eqs, H', ⟨by have := g0.out; have := n3.out; first | omega | exact Nat.le_refl _⟩, ⟨bkF a4⟩, ⟨bkF a3⟩, ⟨by (with_reducible repeat (first | refine dN ?_ _ | refine dR ?_ | refine dA ?_ _)); refine blk_put (cs := #[.int .i64 ((rd_T75 a0 a2).f0), .int .i64 ((rd_T75 a0 a2).f1), .int .i64 ((rd_T75 a0 a2).f2), .int .i64 0]) ?_ 3 _ rfl; refine blk_put (cs := #[.int .i64 ((rd_T75 a0 a2).f0), .int .i64 ((rd_T75 a0 a2).f1), .int .i64 0, .int .i64 0]) ?_ 2 _ rfl; refine blk_put (cs := #[.int .i64 ((rd_T75 a0 a2).f0), .int .i64 0, .int .i64 0, .int .i64 0]) ?_ 1 _ rfl; refine blk_put (cs := #[.int .i64 0, .int .i64 0, .int .i64 0, .int .i64 0]) ?_ 0 _ rfl; (with_reducible repeat (first | refine dN ?_ _ | refine dR ?_ | refine dA ?_ _)); exact a8.out⟩, ⟨bb HB⟩⟩
      rw [if_pos D7] at H
      have m7 := decide_eq_true D7
      clear D7
      (first | rw [m7] | (simp only [i64_w, i32_w]; rw [m7]) | skip)
      have H' := Aside0.mk H
      clear H
      have b3e := d2.out
      have b0a := d4.out
      have b3d := d1.out
      have a9j := d3.out
      obtain ⟨N2, N1, N0, M9, J8, J7, J6, J5⟩ := cz4 a8
      have b3c := b1.out
      have a9i := b0.out
      obtain ⟨M8, M7, J4, J3⟩ := cz2 a4
      go_wp2_with (first | ((with_reducible refine gate_callee (f := 60) rfl ?_); refine gl 92 Tryz.func60 #[.int .i64 ((rd_T75 a0 a2).f0), .int .i64 (b6.length : Int)] (h := ?_); (with_reducible refine (scarfjointref18_is.calls ((rd_T75 a0 a2).f0) (b6.length : Int) true _ P7.out).mono ?_); rintro e w' ⟨rfl, ⟨nd, rfl⟩⟩; refine ⟨_, rfl, ?_⟩) | (go_at_call 60; (with_reducible refine (scarfjointref18_is.calls ((rd_T75 a0 a2).f1) (b4.length : Int) true _ Z5.out).mono ?_); rintro e w' ⟨rfl, ⟨nd, rfl⟩⟩) | (go_at_call 60; (with_reducible refine (scarfjointref18_is.calls ((rd_T75 a0 a2).f2) (b4.length : Int) true _ A80.out).mono ?_); rintro e w' ⟨rfl, ⟨nd, rfl⟩⟩))
      go_meet
      case rel => exact ⟨_, (true), eqs, H', ⟨by have := g0.out; have := n3.out; first | omega | exact Nat.le_refl _⟩, ⟨bkF a4⟩, ⟨bkF a3⟩, ⟨by (with_reducible repeat (first | refine dN ?_ _ | refine dR ?_ | refine dA ?_ _)); refine blk_put (cs := #[.int .i64 ((rd_T75 a0 a2).f0), .int .i64 ((rd_T75 a0 a2).f1), .int .i64 ((rd_T75 a0 a2).f2), .int .i64 0]) ?_ 3 _ rfl; refine blk_put (cs := #[.int .i64 ((rd_T75 a0 a2).f0), .int .i64 ((rd_T75 a0 a2).f1), .int .i64 0, .int .i64 0]) ?_ 2 _ rfl; refine blk_put (cs := #[.int .i64 ((rd_T75 a0 a2).f0), .int .i64 0, .int .i64 0, .int .i64 0]) ?_ 1 _ rfl; refine blk_put (cs := #[.int .i64 0, .int .i64 0, .int .i64 0, .int .i64 0]) ?_ 0 _ rfl; (with_reducible repeat (first | refine dN ?_ _ | refine dR ?_ | refine dA ?_ _)); exact a8.out⟩, ⟨bb HB⟩⟩
     case rest =>
      clear X7
      try clear c1
      try clear p2
      try clear c3
      try clear c4
      try clear c5
      try clear c6
      try clear p6
      try clear c7
      try clear c8
      try clear c9
      try clear p9
      try clear q9
      try clear hx9
      try clear y8
      try clear C0
      try clear O2
      try clear c37
      try clear c39
      try clear c40
      try clear c42
      try clear c44
      try clear c45
      try clear c47
      try clear H7
      try clear A9
      try clear E3
      try clear P4
      try clear O7
      try clear P3
      try clear O6
      try clear A8
      try clear E2
      try clear c60
      try clear A7
      try clear E1
      try clear c63
      try clear c64
      try clear X9
      try clear c65
      try clear D8
      try clear O5
      try clear Y9
      try clear Y8
      try clear c70
      try clear c73
      try clear c74
      try clear O1
      try clear O0
      try clear N9
      try clear D7
      try clear m7
      try clear c83
      try clear c84
      try clear c86
      try clear c88
      try clear c89
      try clear p90
      try clear q90
      try clear a1i
      try clear c91
      try clear p91
      try clear q91
      try clear a1h
      try clear c93
      try clear c94
      try clear c96
      try clear c98
      try clear c99
      try clear a4i
      try clear a4h
      try clear a4g
      try clear a4f
      try clear H6
      try clear H5
      try clear H4
      try clear H3
      try clear H2
      try clear H1
      try clear H0
      try clear G9
      try clear G8
      try clear G7
      try clear G6
      try clear G5
      try clear y5
      try clear y4
      try clear y3
      try clear y2
      try clear y1
      try clear y0
      try clear x8
      try clear x6
      try clear x5
      try clear x4
      try clear x2
      try clear x0
      try clear w8
      try clear w7
      try clear w4
      try clear w3
      try clear w2
      try clear w1
      try clear w0
      try clear v8
      try clear v6
      try clear v5
      try clear v4
      try clear v3
      try clear v2
      try clear v1
      try clear v0
      try clear t9
      try clear t8
      try clear t7
      try clear t6
      try clear t5
      try clear t4
      try clear t3
      try clear t2
      try clear t1
      try clear D2
      try clear D1
      try clear D0
      try clear C9
      try clear N8
      try clear N7
      try clear N6
      try clear N5
      try clear N4
      try clear N3
      try clear N2
      try clear N1
      try clear N0
      try clear M9
      try clear M8
      try clear M7
      try clear n1
      try clear n0
      try clear M6
      try clear M5
      try clear M4
      try clear M3
      try clear M2
      try clear M1
      try clear M0
      try clear L9
      try clear L8
      try clear L7
      try clear L6
      try clear L5
      try clear G4
      try clear G3
      try clear G2
      try clear G1
      try clear G0
      try clear F9
      try clear F8
      try clear F7
      try clear F6
      try clear F5
      try clear F4
      try clear F3
      try clear t0
      try clear r9
      try clear r8
      try clear r7
      try clear r6
      try clear r5
      try clear r4
      try clear r3
      try clear r2
      try clear r1
      try clear r0
      try clear q8
      try clear q7
      try clear q6
      try clear q5
      try clear q4
      try clear q3
      try clear q2
      try clear q1
      try clear q0
      try clear p8
      try clear p7
      try clear p5
      try clear p4
      try clear p3
      try clear p1
      try clear p0
      try clear o9
      try clear o8
      try clear o7
      try clear o6
      try clear o5
      try clear o4
      try clear o3
      try clear o2
      try clear o1
      try clear C8
      try clear C7
      try clear C6
      try clear C5
      try clear L4
      try clear L3
      try clear L2
      try clear L1
      try clear L0
      try clear J9
      try clear J8
      try clear J7
      try clear J6
      try clear J5
      try clear J4
      try clear J3
      try clear m9
      try clear m8
      try clear J2
      try clear J1
      try clear J0
      try clear I9
      try clear I8
      try clear I7
      try clear I6
      try clear I5
      try clear I4
      try clear I3
      try clear I2
      try clear I1
      try clear h3
      try clear h2
      try clear h1
      try clear h0
      try clear d8
      try clear d7
      try clear d6
      try clear d5
      try clear n9
      try clear n8
      try clear n7
      try clear n6
      try clear p2
      try clear p6
      try clear X9
      try clear p9
      try clear A5
      try clear h7
      try clear F2
      try clear q9
      try clear A2
      try clear h6
      try clear F1
      obtain ⟨kq, n5, rfl, HA, D6, a4, a3, a8, HB⟩ := hcut
      cases kq with
      | zero => exact absurd HA.out (by simp [scarfjointref18_Valid.j3])
      | succ C4 =>
       have H := HA.out
       clear HA
       simp only [scarfjointref18_Valid.j3] at H
       by_cases I0 : n5 = true
       ·subst I0
        replace H := ift H
        obtain rfl := Option.some.inj H
        go_wp2
        go_ret
        exact ⟨erf, bb HB⟩
       replace I0 := Bool.eq_false_iff.mpr I0
       subst I0
       replace H := iff_ H
       obtain ⟨P9, a0j, H⟩ := obA H
       by_cases H9 : P9 = true
       rotate_left
       ·replace H9 := Bool.eq_false_iff.mpr H9
        subst H9
        replace H := iff_ H
        obtain rfl := Option.some.inj H
        have a7e := b1.out
        have a5f := b0.out
        have a7d := d4.out
        have a5e := d2.out
        obtain ⟨a4c, a4b, a3a, a2j⟩ := cz2 a4
        have a7c := d1.out
        have a5d := d3.out
        obtain ⟨a4a, a3j, a3i, a3h, a2i, a2h, a2g, a2f⟩ := cz4 a8
        go_wp2_with (first | ((with_reducible refine gate_callee (f := 65) rfl ?_); refine gl 129 Tryz.func65 #[.agg #[.slice g5 b4.length g3, .slice g4 b6.length g2], .int .i64 ((rd_T75 a0 a2).f0), .int .i64 ((rd_T75 a0 a2).f1), .int .i64 ((rd_T75 a0 a2).f2)] (h := ?_); (with_reducible refine (q4_Fits.calls C4 _ _ b4 _ _ b6 ((rd_T75 a0 a2).f0) ((rd_T75 a0 a2).f1) ((rd_T75 a0 a2).f2) false _ ?b9 ?b8 ?m6 ?m5 a0j.out).mono ?_); (case b9 => exact cb E5 HB); (case b8 => exact E8.out); (case m6 => exact cb E4 HB); (case m5 => exact E7.out); rintro e b6d ⟨rfl, hb⟩; refine ⟨_, rfl, ?_⟩; replace a4 := bkb a4 hb; replace a3 := bkb a3 hb; replace a8 := bkb a8 hb; replace HB := bstep HB hb; (try clear hb); (try clear hb2); (try clear hk); (try clear hi)))
        go_ret
        exact ⟨erf, bb HB⟩
       subst H9
       replace H := ift H
       have P2 := Aside0.mk H
       clear H
       have a8d := b1.out
       have a6e := b0.out
       have a8c := d4.out
       have a6d := d2.out
       obtain ⟨X2, X1, U8, U7⟩ := cz2 a4
       have a8b := d1.out
       have a6c := d3.out
       obtain ⟨X0, W9, W8, W7, U6, U5, U4, U3⟩ := cz4 a8
       go_upto_region 22 with (first | ((with_reducible refine gate_callee (f := 65) rfl ?_); refine gl 129 Tryz.func65 #[.agg #[.slice g5 b4.length g3, .slice g4 b6.length g2], .int .i64 ((rd_T75 a0 a2).f0), .int .i64 ((rd_T75 a0 a2).f1), .int .i64 ((rd_T75 a0 a2).f2)] (h := ?_); (with_reducible refine (q4_Fits.calls C4 _ _ b4 _ _ b6 ((rd_T75 a0 a2).f0) ((rd_T75 a0 a2).f1) ((rd_T75 a0 a2).f2) true _ ?b9 ?b8 ?m6 ?m5 a0j.out).mono ?_); (case b9 => exact cb E5 HB); (case b8 => exact E8.out); (case m6 => exact cb E4 HB); (case m5 => exact E7.out); rintro e b7c ⟨rfl, hb⟩; refine ⟨_, rfl, ?_⟩; replace a4 := bkb a4 hb; replace a3 := bkb a3 hb; replace a8 := bkb a8 hb; replace HB := bstep HB hb; (try clear hb); (try clear hb2); (try clear hk); (try clear hi)))
       (try simp only [Act.put, List.setIfInBounds_toArray, List.set_cons_zero, List.set_cons_succ])
       go_cut [146] (fun a1f wc => ∃ (kq : Nat) (m2 : Bool), a1f = .bool m2 ∧ Aside0 (scarfjointref18_Valid.j4 kq a2 m2 b4 b6 a1 a0 ((rd_T75 a0 a2).f0) ((rd_T75 a0 a2).f1) ((rd_T75 a0 a2).f2) ((rd_T75 a0 a2).f3) = some r) ∧ Aside0 (kq ≤ C4) ∧ Aside0 (wc.heap[y6]? = some (.cells #[(.slice g5 b4.length g3), (.slice g4 b6.length g2)] 31 (0, 0))) ∧ Aside0 (wc.heap[d9]? = some (.cells #[(.slice g1 a1.length e0), (.slice (some c0) a0.length e5)] 46 (0, 0))) ∧ Aside0 (wc.heap[g6]? = some (.cells #[.int .i64 ((rd_T75 a0 a2).f0), .int .i64 ((rd_T75 a0 a2).f1), .int .i64 ((rd_T75 a0 a2).f2), .int .i64 ((rd_T75 a0 a2).f3)] 75 (0, 0))) ∧ Aside0 (Below w.heap.size w wc))
       case first =>
        have H := P2.out
        clear P2
        obtain ⟨E9, a0i, H⟩ := obA H
        by_cases n2 : E9 = 0
        ·rw [if_pos n2] at H
         have m1 := beq_iff_eq.mpr n2
         have P6 := bne_eq_false_iff_eq.mpr n2
         clear n2
         (first | rw [m1] | (simp only [i64_w, i32_w]; rw [m1]) | skip)
         have H' := Aside0.mk H
         clear H
         have a8a := b0.out
         have a6b := b1.out
         have a7j := d3.out
         have a6a := d1.out
         obtain ⟨W6, W5, U2, U1⟩ := cz2 a3
         have a7i := d2.out
         have a5j := d4.out
         obtain ⟨W4, W3, W2, W1, U0, R9, R8, R7⟩ := cz4 a8
         go_wp2_with (first | ((with_reducible refine gate_callee (f := 66) rfl ?_); refine gl 136 Tryz.func66 #[.slice g1 a1.length e0, .agg #[.int .i64 ((rd_T75 a0 a2).f1), .int .i64 0, .int .i64 0, .int .i64 0]] (h := ?_); (with_reducible refine (scarfjointref18_number.calls C4 _ _ a1 ((rd_T75 a0 a2).f1) 0 0 0 E9 _ ?b9 ?b8 a0i.out).mono ?_); (case b9 => exact cb h5 HB); (case b8 => exact C3.out); rintro e b7b ⟨rfl, hb⟩; refine ⟨_, rfl, ?_⟩; replace a4 := bkb a4 hb; replace a3 := bkb a3 hb; replace a8 := bkb a8 hb; replace HB := bstep HB hb; (try clear hb); (try clear hb2); (try clear hk); (try clear hi)))
         go_meet
         case rel => exact ⟨_, (true), eqs, H', ⟨by have := g0.out; have := n3.out; have := D6.out; first | omega | exact Nat.le_refl _⟩, ⟨bk a4⟩, ⟨bk a3⟩, ⟨bk a8⟩, ⟨bb HB⟩⟩
        rw [if_neg n2] at H
        have m1 := beq_eq_false_iff_ne.mpr n2
        have P6 := bne_iff_ne.mpr n2
        (first | rw [m1] | (simp only [i64_w, i32_w]; rw [m1]) | skip)
        obtain ⟨O3, a4j, H⟩ := obA H
        have H' := Aside0.mk H
        clear H
        have a7h := b0.out
        have a5i := b1.out
        have a7g := d3.out
        have a5h := d1.out
        obtain ⟨W0, V9, R6, R5⟩ := cz2 a3
        have a7f := d2.out
        have a5g := d4.out
        obtain ⟨V8, V7, V6, V5, R4, R3, R2, R1⟩ := cz4 a8
        go_wp2_with (first | ((with_reducible refine gate_callee (f := 66) rfl ?_); refine gl 136 Tryz.func66 #[.slice g1 a1.length e0, .agg #[.int .i64 ((rd_T75 a0 a2).f1), .int .i64 0, .int .i64 0, .int .i64 0]] (h := ?_); (with_reducible refine (scarfjointref18_number.calls C4 _ _ a1 ((rd_T75 a0 a2).f1) 0 0 0 E9 _ ?b9 ?b8 a0i.out).mono ?_); (case b9 => exact cb h5 HB); (case b8 => exact C3.out); rintro e b7a ⟨rfl, hb⟩; refine ⟨_, rfl, ?_⟩; replace a4 := bkb a4 hb; replace a3 := bkb a3 hb; replace a8 := bkb a8 hb; replace HB := bstep HB hb; (try clear hb); (try clear hb2); (try clear hk); (try clear hi); obtain ⟨V4, V3, R0, Q9⟩ := cz2 a3; obtain ⟨V2, V1, V0, U9, Q8, Q7, Q6, Q5⟩ := cz4 a8) | (go_at_call 66; (with_reducible refine (scarfjointref18_number.calls C4 _ _ a1 ((rd_T75 a0 a2).f2) 0 0 0 O3 _ ?b9 ?b8 a4j.out).mono ?_); (case b9 => exact cb h5 HB); (case b8 => exact C3.out); rintro e b6j ⟨rfl, hb⟩; replace a4 := bkb a4 hb; replace a3 := bkb a3 hb; replace a8 := bkb a8 hb; replace HB := bstep HB hb; (try clear hb); (try clear hb2); (try clear hk); (try clear hi)))
        go_meet
        case rel => exact ⟨_, ((O3 == 0)), eqs, H', ⟨by have := g0.out; have := n3.out; have := D6.out; first | omega | exact Nat.le_refl _⟩, ⟨bk a4⟩, ⟨bk a3⟩, ⟨bk a8⟩, ⟨bb HB⟩⟩
       case rest =>
        clear P2
        try clear c1
        try clear p2
        try clear c3
        try clear c4
        try clear c5
        try clear c6
        try clear p6
        try clear c7
        try clear c8
        try clear c9
        try clear p9
        try clear q9
        try clear hx9
        try clear y8
        try clear C0
        try clear O2
        try clear c12
        try clear c13
        try clear c37
        try clear c39
        try clear c40
        try clear c42
        try clear c44
        try clear c45
        try clear c47
        try clear H7
        try clear A9
        try clear E3
        try clear P4
        try clear O7
        try clear P3
        try clear O6
        try clear A8
        try clear E2
        try clear c60
        try clear A7
        try clear E1
        try clear c63
        try clear c64
        try clear X9
        try clear c65
        try clear c66
        try clear D8
        try clear O5
        try clear Y9
        try clear Y8
        try clear c70
        try clear c73
        try clear c74
        try clear O1
        try clear O0
        try clear N9
        try clear D7
        try clear m7
        try clear c83
        try clear c84
        try clear c86
        try clear c88
        try clear c89
        try clear p90
        try clear q90
        try clear a1i
        try clear c91
        try clear p91
        try clear q91
        try clear a1h
        try clear c93
        try clear c94
        try clear c96
        try clear c98
        try clear c99
        try clear a4i
        try clear a4h
        try clear a4g
        try clear a4f
        try clear I0
        try clear H9
        try clear b8d
        try clear b8c
        try clear b8b
        try clear n2
        try clear m1
        try clear P6
        try clear b8a
        try clear b7j
        try clear b7i
        try clear b7h
        try clear b7g
        try clear b7f
        try clear H6
        try clear H5
        try clear H4
        try clear H3
        try clear H2
        try clear H1
        try clear H0
        try clear G9
        try clear G8
        try clear G7
        try clear G6
        try clear G5
        try clear X2
        try clear X1
        try clear X0
        try clear W9
        try clear W8
        try clear W7
        try clear W6
        try clear W5
        try clear W4
        try clear W3
        try clear W2
        try clear W1
        try clear W0
        try clear V9
        try clear V8
        try clear V7
        try clear V6
        try clear V5
        try clear V4
        try clear V3
        try clear V2
        try clear V1
        try clear V0
        try clear U9
        try clear y5
        try clear y4
        try clear y3
        try clear y2
        try clear y1
        try clear y0
        try clear x8
        try clear x6
        try clear x5
        try clear x4
        try clear x2
        try clear x0
        try clear w8
        try clear w7
        try clear w4
        try clear w3
        try clear w2
        try clear w1
        try clear w0
        try clear v8
        try clear v6
        try clear v5
        try clear v4
        try clear v3
        try clear v2
        try clear v1
        try clear v0
        try clear t9
        try clear t8
        try clear t7
        try clear t6
        try clear t5
        try clear t4
        try clear t3
        try clear t2
        try clear t1
        try clear D2
        try clear D1
        try clear D0
        try clear C9
        try clear N8
        try clear N7
        try clear N6
        try clear N5
        try clear N4
        try clear N3
        try clear N2
        try clear N1
        try clear N0
        try clear M9
        try clear M8
        try clear M7
        try clear n1
        try clear n0
        try clear M6
        try clear M5
        try clear M4
        try clear M3
        try clear M2
        try clear M1
        try clear M0
        try clear L9
        try clear L8
        try clear L7
        try clear L6
        try clear L5
        try clear G4
        try clear G3
        try clear G2
        try clear G1
        try clear G0
        try clear F9
        try clear F8
        try clear F7
        try clear F6
        try clear F5
        try clear F4
        try clear F3
        try clear U8
        try clear U7
        try clear U6
        try clear U5
        try clear U4
        try clear U3
        try clear U2
        try clear U1
        try clear U0
        try clear R9
        try clear R8
        try clear R7
        try clear R6
        try clear R5
        try clear R4
        try clear R3
        try clear R2
        try clear R1
        try clear R0
        try clear Q9
        try clear Q8
        try clear Q7
        try clear Q6
        try clear Q5
        try clear t0
        try clear r9
        try clear r8
        try clear r7
        try clear r6
        try clear r5
        try clear r4
        try clear r3
        try clear r2
        try clear r1
        try clear r0
        try clear q8
        try clear q7
        try clear q6
        try clear q5
        try clear q4
        try clear q3
        try clear q2
        try clear q1
        try clear q0
        try clear p8
        try clear p7
        try clear p5
        try clear p4
        try clear p3
        try clear p1
        try clear p0
        try clear o9
        try clear o8
        try clear o7
        try clear o6
        try clear o5
        try clear o4
        try clear o3
        try clear o2
        try clear o1
        try clear C8
        try clear C7
        try clear C6
        try clear C5
        try clear L4
        try clear L3
        try clear L2
        try clear L1
        try clear L0
        try clear J9
        try clear J8
        try clear J7
        try clear J6
        try clear J5
        try clear J4
        try clear J3
        try clear m9
        try clear m8
        try clear J2
        try clear J1
        try clear J0
        try clear I9
        try clear I8
        try clear I7
        try clear I6
        try clear I5
        try clear I4
        try clear I3
        try clear I2
        try clear I1
        try clear h3
        try clear h2
        try clear h1
        try clear h0
        try clear d8
        try clear d7
        try clear d6
        try clear d5
        try clear n9
        try clear n8
        try clear n7
        try clear n6
        try clear p2
        try clear p6
        try clear X9
        try clear p9
        try clear p90
        try clear A5
        try clear p91
        try clear h7
        try clear F2
        try clear q9
        try clear q90
        try clear A2
        try clear q91
        try clear h6
        try clear F1
        obtain ⟨kq, m2, rfl, HA, E6, a4, a3, a8, HB⟩ := hcut
        cases kq with
        | zero => exact absurd HA.out (by simp [scarfjointref18_Valid.j4])
        | succ O4 =>
         have H := HA.out
         clear HA
         simp only [scarfjointref18_Valid.j4] at H
         by_cases O8 : m2 = true
         ·subst O8
          replace H := ift H
          obtain rfl := Option.some.inj H
          go_wp2
          go_ret
          exact ⟨erf, bb HB⟩
         replace O8 := Bool.eq_false_iff.mpr O8
         subst O8
         replace H := iff_ H
         by_cases D5 : a2 > 0
         rotate_left
         ·rw [if_neg D5] at H
          have a0f : decide (0 < a2) = false := decide_eq_false D5
          clear D5
          have H' := Aside0.mk H
          clear H
          try go_wp2
          replace a4 := Aside0.mk (blk_drew a4.out)
          replace a3 := Aside0.mk (blk_drew a3.out)
          replace a8 := Aside0.mk (blk_drew a8.out)
          replace HB := Aside0.mk (below_drew1 HB.out)
          refine start_ (n := 13) (S := fun w' => True) (ds := []) #[false, false, false, false, false, false, false, false, false, false, false, false, false] (by kernel_rfl) rfl rfl trivial (fun hHeld => ?_); refine with_tabW scarfjointref18_Valid.tab24 scarfjointref18_Valid.bits24 (fun HT_ HW_ => ?_)
          generalize wc.drew = b6e at a4 a3 a8 HB hHeld ⊢
          refine pu 0 147 (bits 13 0x1) HT_ (h := ?_)
          refine pu 1 148 (bits 13 0x3) HT_ (h := ?_)
          refine pu 2 149 (bits 13 0x7) HT_ (h := ?_)
          refine pn 3 150 (bits 13 0xf) HT_ (h := ?_)
          refine pn 4 151 (bits 13 0x1f) HT_ (h := ?_)
          refine pn 5 152 (bits 13 0x3f) HT_ (h := ?_)
          refine pn 6 153 (bits 13 0x7f) HT_ (h := ?_)
          refine pn 7 154 (bits 13 0xff) HT_ (h := ?_)
          refine pn 8 155 (bits 13 0x1ff) HT_ (h := ?_)
          refine pn 9 156 (bits 13 0x3ff) HT_ (h := ?_)
          refine pn 10 157 (bits 13 0x7ff) HT_ (h := ?_)
          refine pn 11 158 (bits 13 0xfff) HT_ (h := ?_)
          refine pu 12 159 (bits 13 0x1fff) HT_ (h := ?_)
          refine done_ (done_of HT_.out (by kernel_rfl)) ?_
          try go_wp2
          go_roundg O4
          case measure => have := g0.out; have := n3.out; have := D6.out; have := E6.out; omega
          case rel => exact ⟨(wrap64 (a2 + 1)), eqs, H', ⟨by have := g0.out; have := n3.out; have := D6.out; have := E6.out; omega⟩, ⟨bk a4⟩, ⟨bk a3⟩, ⟨bb HB⟩⟩
         rw [if_pos D5] at H
         have a0f : decide (0 < a2) = true := decide_eq_true D5
         clear D5
         obtain ⟨a9, m0⟩ : ∃ j_ : Int, (wrap64 (a2 - 1)) = j_ := ⟨_, rfl⟩
         replace H : (if 0 ≤ (a9) then (if (a9) < (a0.length : Int) then ((scarfjointref18_compare.f ((rd_T75 a0 (a9)).f0) ((rd_T75 a0 (a9)).f1) ((rd_T75 a0 (a9)).f2) ((rd_T75 a0 (a9)).f3) ((rd_T75 a0 a2).f0) ((rd_T75 a0 a2).f1) ((rd_T75 a0 a2).f2) ((rd_T75 a0 a2).f3)).bind fun m3 => (if m3 ≥ 0 then (some 12) else (scarfjointref18_Valid.l1 O4 (wrap64 (a2 + 1)) b4 b6 a1 a0))) else (none)) else (none)) = some r := by first | (rw [m0] at H; exact H) | (simp only [m0] at H ⊢; exact H)
         have hji138w : (IntKind.i64.wrap (a2 - 1)) = a9 := (i64_w _).trans m0
         obtain ⟨a0e, H⟩ := itn H
         have a8j := decide_eq_true a0e
         clear a0e
         obtain ⟨a0d, H⟩ := itn H
         have a8i := decide_eq_true a0d
         clear a0d
         obtain ⟨m3, a0h, H⟩ := obA H
         by_cases D4 : m3 ≥ 0
         ·rw [if_pos D4] at H
          have a0c : decide (0 ≤ m3) = true := decide_eq_true D4
          clear D4
          obtain rfl := Option.some.inj H
          try go_wp2
          replace a4 := Aside0.mk (blk_drew a4.out)
          replace a3 := Aside0.mk (blk_drew a3.out)
          replace a8 := Aside0.mk (blk_drew a8.out)
          replace HB := Aside0.mk (below_drew1 HB.out)
          have A4 : 0 ≤ ((a9) : Int) := odt
          have A1 : (a9) < (a0.length : Int) := odt
          obtain ⟨O9, X3, e4, e3, e2, e1⟩ := at_T75 C2.out (a9) A4 A1
          have h9 := e1
          have j0 := e2
          have j2 := e3
          have j5 := e4
          obtain rfl : c0 = O9 := (by injection X3)
          replace e4 := hxc HB e4
          replace e3 := hxc HB e3
          replace e2 := hxc HB e2
          replace e1 := hxc HB e1
          replace A4 := eq_true A4
          replace A1 := eq_true A1
          refine start_ (n := 13) (S := fun w' => w'.cell? ⟨d9, 0, none⟩ = some (.slice g1 a1.length e0) ∧ w'.cell? ⟨d9, 1, none⟩ = some (.slice (some c0) a0.length e5) ∧ w'.cell? ⟨g6, 0, none⟩ = some (.int .i64 ((rd_T75 a0 a2).f0)) ∧ w'.cell? ⟨g6, 1, none⟩ = some (.int .i64 ((rd_T75 a0 a2).f1)) ∧ w'.cell? ⟨g6, 2, none⟩ = some (.int .i64 ((rd_T75 a0 a2).f2)) ∧ w'.cell? ⟨g6, 3, none⟩ = some (.int .i64 ((rd_T75 a0 a2).f3)) ∧ w'.cell? (c0.add (((a9)).toNat * 4)) = some (.int .i64 ((rd_T75 a0 (a9)).f0)) ∧ w'.cell? ⟨(c0.add (((a9)).toNat * 4)).block, (c0.add (((a9)).toNat * 4)).off + 1, none⟩ = some (.int .i64 ((rd_T75 a0 (a9)).f1)) ∧ w'.cell? ⟨(c0.add (((a9)).toNat * 4)).block, (c0.add (((a9)).toNat * 4)).off + 2, none⟩ = some (.int .i64 ((rd_T75 a0 (a9)).f2)) ∧ w'.cell? ⟨(c0.add (((a9)).toNat * 4)).block, (c0.add (((a9)).toNat * 4)).off + 3, none⟩ = some (.int .i64 ((rd_T75 a0 (a9)).f3))) (ds := []) #[false, false, false, false, false, false, false, false, false, false, false, false, false] (by kernel_rfl) rfl rfl ⟨bc a3 0, bc a3 1, bc a8 0, bc a8 1, bc a8 2, bc a8 3, (hxc HB j5), (hxc HB j2), (hxc HB j0), (hxc HB h9)⟩ (fun hHeld => ?_); refine with_tabW scarfjointref18_Valid.tab24 scarfjointref18_Valid.bits24 (fun HT_ HW_ => ?_)
          generalize wc.drew = b6i at a4 a3 a8 HB e4 e3 e2 e1 hHeld ⊢
          refine pu 0 147 (bits 13 0x1) HT_ (h := ?_)
          refine pu 1 148 (bits 13 0x3) HT_ (h := ?_)
          refine pu 2 149 (bits 13 0x7) HT_ (h := ?_)
          refine pu 3 150 (bits 13 0xf) HT_ (h := ?_)
          refine pu 5 152 (bits 13 0x2f) HT_ (h := ?_)
          refine pu 6 153 (bits 13 0x6f) HT_ (h := ?_)
          refine tk 4 151 (bits 13 0x7f) HT_ HW_ hHeld (hy := by rintro w' ⟨s0, s1, s2, s3, s4, s5, s6, s7, s8, s9⟩; go_simp; with_reducible rfl) (h := ?_)
          refine pu 7 154 (bits 13 0xff) HT_ (h := ?_)
          refine tk 8 155 (bits 13 0x1ff) HT_ HW_ hHeld (hy := by rintro w' ⟨s0, s1, s2, s3, s4, s5, s6, s7, s8, s9⟩; go_simp; with_reducible rfl) (h := ?_)
          refine tk 9 156 (bits 13 0x3ff) HT_ HW_ hHeld (hy := by rintro w' ⟨s0, s1, s2, s3, s4, s5, s6, s7, s8, s9⟩; go_simp; with_reducible rfl) (h := ?_)
          refine one_ (i := 10) (N := some 157) #[true, true, true, true, true, true, true, true, true, true, true, false, false] rfl rfl (one_of HT_.out (by kernel_rfl)) (by decide) (fun K hK => ?_)
          refine goes_ Tryz.func63 (by kernel_rfl) rfl #[.agg #[.int .i64 ((rd_T75 a0 (a9)).f0), .int .i64 ((rd_T75 a0 (a9)).f1), .int .i64 ((rd_T75 a0 (a9)).f2), .int .i64 ((rd_T75 a0 (a9)).f3)], .agg #[.int .i64 ((rd_T75 a0 a2).f0), .int .i64 ((rd_T75 a0 a2).f1), .int .i64 ((rd_T75 a0 a2).f2), .int .i64 ((rd_T75 a0 a2).f3)]] (by rfl) rfl rfl (by (try simp only [List.map_toArray, List.map_cons, List.map_nil]); first | done | (simp only [m0]; rfl) | rfl | (simp only [List.length_drop, List.length_take]; rfl)) ?_
          with_reducible refine (scarfjointref18_compare.calls ((rd_T75 a0 (a9)).f0) ((rd_T75 a0 (a9)).f1) ((rd_T75 a0 (a9)).f2) ((rd_T75 a0 (a9)).f3) ((rd_T75 a0 a2).f0) ((rd_T75 a0 a2).f1) ((rd_T75 a0 a2).f2) ((rd_T75 a0 a2).f3) m3 _ a0h.out).mono ?_
          rintro e b6h ⟨rfl, hb⟩
          refine ⟨_, rfl, ?_⟩
          replace a4 := bkb a4 hb
          replace a3 := bkb a3 hb
          replace a8 := bkb a8 hb
          replace HB := bstep HB hb
          (try clear hb)
          (try clear hb2)
          (try clear hk)
          (try clear hi)
          refine hK.out _ _ ⟨bc a3 0, bc a3 1, bc a8 0, bc a8 1, bc a8 2, bc a8 3, (hxc HB j5), (hxc HB j2), (hxc HB j0), (hxc HB h9)⟩ (fun hHeld => ?_)
          clear hK K
          refine norm_ (a' := ?_) ?_ ?_
          rotate_left
          ·show Act.put _ (some 157) _ = _
           simp only [Act.put, List.setIfInBounds_toArray, List.set_cons_zero, List.set_cons_succ, i64_w, i32_w]
           rfl
          refine pu 11 158 (bits 13 0xfff) HT_ (h := ?_)
          refine pu 12 159 (bits 13 0x1fff) HT_ (h := ?_)
          refine done_ (done_of HT_.out (by kernel_rfl)) ?_
          try go_wp2
          go_ret
          exact ⟨by first | rfl | (simp [errW_none, errW_some] <;> rfl) | (simp only [← m0]; first | rfl | (simp [errW_none, errW_some] <;> rfl)) | (simp [*, errW_none, errW_some] <;> rfl), bb HB⟩
         rw [if_neg D4] at H
         have a0c : decide (0 ≤ m3) = false := decide_eq_false D4
         clear D4
         have H' := Aside0.mk H
         clear H
         try go_wp2
         replace a4 := Aside0.mk (blk_drew a4.out)
         replace a3 := Aside0.mk (blk_drew a3.out)
         replace a8 := Aside0.mk (blk_drew a8.out)
         replace HB := Aside0.mk (below_drew1 HB.out)
         have A4 : 0 ≤ ((a9) : Int) := odt
         have A1 : (a9) < (a0.length : Int) := odt
         obtain ⟨O9, X3, e4, e3, e2, e1⟩ := at_T75 C2.out (a9) A4 A1
         have h9 := e1
         have j0 := e2
         have j2 := e3
         have j5 := e4
         obtain rfl : c0 = O9 := (by injection X3)
         replace e4 := hxc HB e4
         replace e3 := hxc HB e3
         replace e2 := hxc HB e2
         replace e1 := hxc HB e1
         replace A4 := eq_true A4
         replace A1 := eq_true A1
         refine start_ (n := 13) (S := fun w' => w'.cell? ⟨d9, 0, none⟩ = some (.slice g1 a1.length e0) ∧ w'.cell? ⟨d9, 1, none⟩ = some (.slice (some c0) a0.length e5) ∧ w'.cell? ⟨g6, 0, none⟩ = some (.int .i64 ((rd_T75 a0 a2).f0)) ∧ w'.cell? ⟨g6, 1, none⟩ = some (.int .i64 ((rd_T75 a0 a2).f1)) ∧ w'.cell? ⟨g6, 2, none⟩ = some (.int .i64 ((rd_T75 a0 a2).f2)) ∧ w'.cell? ⟨g6, 3, none⟩ = some (.int .i64 ((rd_T75 a0 a2).f3)) ∧ w'.cell? (c0.add (((a9)).toNat * 4)) = some (.int .i64 ((rd_T75 a0 (a9)).f0)) ∧ w'.cell? ⟨(c0.add (((a9)).toNat * 4)).block, (c0.add (((a9)).toNat * 4)).off + 1, none⟩ = some (.int .i64 ((rd_T75 a0 (a9)).f1)) ∧ w'.cell? ⟨(c0.add (((a9)).toNat * 4)).block, (c0.add (((a9)).toNat * 4)).off + 2, none⟩ = some (.int .i64 ((rd_T75 a0 (a9)).f2)) ∧ w'.cell? ⟨(c0.add (((a9)).toNat * 4)).block, (c0.add (((a9)).toNat * 4)).off + 3, none⟩ = some (.int .i64 ((rd_T75 a0 (a9)).f3))) (ds := []) #[false, false, false, false, false, false, false, false, false, false, false, false, false] (by kernel_rfl) rfl rfl ⟨bc a3 0, bc a3 1, bc a8 0, bc a8 1, bc a8 2, bc a8 3, (hxc HB j5), (hxc HB j2), (hxc HB j0), (hxc HB h9)⟩ (fun hHeld => ?_); refine with_tabW scarfjointref18_Valid.tab24 scarfjointref18_Valid.bits24 (fun HT_ HW_ => ?_)
         generalize wc.drew = b6g at a4 a3 a8 HB e4 e3 e2 e1 hHeld ⊢
         refine pu 0 147 (bits 13 0x1) HT_ (h := ?_)
         refine pu 1 148 (bits 13 0x3) HT_ (h := ?_)
         refine pu 2 149 (bits 13 0x7) HT_ (h := ?_)
         refine pu 3 150 (bits 13 0xf) HT_ (h := ?_)
         refine pu 5 152 (bits 13 0x2f) HT_ (h := ?_)
         refine pu 6 153 (bits 13 0x6f) HT_ (h := ?_)
         refine tk 4 151 (bits 13 0x7f) HT_ HW_ hHeld (hy := by rintro w' ⟨s0, s1, s2, s3, s4, s5, s6, s7, s8, s9⟩; go_simp; with_reducible rfl) (h := ?_)
         refine pu 7 154 (bits 13 0xff) HT_ (h := ?_)
         refine tk 8 155 (bits 13 0x1ff) HT_ HW_ hHeld (hy := by rintro w' ⟨s0, s1, s2, s3, s4, s5, s6, s7, s8, s9⟩; go_simp; with_reducible rfl) (h := ?_)
         refine tk 9 156 (bits 13 0x3ff) HT_ HW_ hHeld (hy := by rintro w' ⟨s0, s1, s2, s3, s4, s5, s6, s7, s8, s9⟩; go_simp; with_reducible rfl) (h := ?_)
         refine one_ (i := 10) (N := some 157) #[true, true, true, true, true, true, true, true, true, true, true, false, false] rfl rfl (one_of HT_.out (by kernel_rfl)) (by decide) (fun K hK => ?_)
         refine goes_ Tryz.func63 (by kernel_rfl) rfl #[.agg #[.int .i64 ((rd_T75 a0 (a9)).f0), .int .i64 ((rd_T75 a0 (a9)).f1), .int .i64 ((rd_T75 a0 (a9)).f2), .int .i64 ((rd_T75 a0 (a9)).f3)], .agg #[.int .i64 ((rd_T75 a0 a2).f0), .int .i64 ((rd_T75 a0 a2).f1), .int .i64 ((rd_T75 a0 a2).f2), .int .i64 ((rd_T75 a0 a2).f3)]] (by rfl) rfl rfl (by (try simp only [List.map_toArray, List.map_cons, List.map_nil]); first | done | (simp only [m0]; rfl) | rfl | (simp only [List.length_drop, List.length_take]; rfl)) ?_
         with_reducible refine (scarfjointref18_compare.calls ((rd_T75 a0 (a9)).f0) ((rd_T75 a0 (a9)).f1) ((rd_T75 a0 (a9)).f2) ((rd_T75 a0 (a9)).f3) ((rd_T75 a0 a2).f0) ((rd_T75 a0 a2).f1) ((rd_T75 a0 a2).f2) ((rd_T75 a0 a2).f3) m3 _ a0h.out).mono ?_
         rintro e b6f ⟨rfl, hb⟩
         refine ⟨_, rfl, ?_⟩
         replace a4 := bkb a4 hb
         replace a3 := bkb a3 hb
         replace a8 := bkb a8 hb
         replace HB := bstep HB hb
         (try clear hb)
         (try clear hb2)
         (try clear hk)
         (try clear hi)
         refine hK.out _ _ ⟨bc a3 0, bc a3 1, bc a8 0, bc a8 1, bc a8 2, bc a8 3, (hxc HB j5), (hxc HB j2), (hxc HB j0), (hxc HB h9)⟩ (fun hHeld => ?_)
         clear hK K
         refine norm_ (a' := ?_) ?_ ?_
         rotate_left
         ·show Act.put _ (some 157) _ = _
          simp only [Act.put, List.setIfInBounds_toArray, List.set_cons_zero, List.set_cons_succ, i64_w, i32_w]
          rfl
         refine pu 11 158 (bits 13 0xfff) HT_ (h := ?_)
         refine pu 12 159 (bits 13 0x1fff) HT_ (h := ?_)
         refine done_ (done_of HT_.out (by kernel_rfl)) ?_
         try go_wp2
         go_roundg O4
         case measure => have := g0.out; have := n3.out; have := D6.out; have := E6.out; omega
         case rel => exact ⟨(wrap64 (a2 + 1)), eqs, H', ⟨by have := g0.out; have := n3.out; have := D6.out; have := E6.out; omega⟩, ⟨bk a4⟩, ⟨bk a3⟩, ⟨bb HB⟩⟩
end Go.Proofs.YtfpianecohobjaaGreat.P
