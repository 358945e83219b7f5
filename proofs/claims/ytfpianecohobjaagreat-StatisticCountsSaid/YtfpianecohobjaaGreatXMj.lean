/- StatisticOf: a part of its proof. No condition. -/
import Derived.Test.YtfpianecohobjaaGreatXPx0
import Derived.Test.YtfpianecohobjaaGreatXMf
import Derived.Test.YtfpianecohobjaaGreatXMe
import Derived.Test.YtfpianecohobjaaGreatXMi
namespace Go.Proofs.YtfpianecohobjaaGreat.P
open Go.RowKit Go.Proofs.YtfpianecohobjaaGreatW.PrintWords Go.Proofs.YtfpianecohobjaaGreatW.PrintLast Go.Proofs.YtfpianecohobjaaGreatW.PrintMore
set_option maxHeartbeats 8000000
set_option maxRecDepth 100000
set_option linter.unusedVariables false
set_option linter.unusedSimpArgs false
def q4_Is.f (k : Nat) (a4 : List (S96)) (a6 : List (S101)) (a1 : Int) (a2 : Int) : Option (Bool) := (q4_given.f k a4 a6 a1 a2).bind fun e8 => (if e8 = 0 then ((q4_Below1.f k a4 a6 a1 a2).bind fun h3 => (some h3)) else (some false))
theorem q4_Is.calls (k : Nat) (b3 : Option Addr) (b1 : Nat) (a4 : List (S96)) (b2 : Option Addr) (b0 : Nat) (a6 : List (S101)) (a1 : Int) (a2 : Int) (r : Bool) (w : World) (g6 : Kd.C k96 w b3 a4.length a4) (g8 : a4.length ≤ b1) (g5 : Kd.C k101 w b2 a6.length a6) (g7 : a6.length ≤ b0) (h : q4_Is.f k a4 a6 a1 a2 = some r) :
  Calls Tryz.prog 61 #[.agg #[.slice b3 a4.length b1, .slice b2 a6.length b0], .int .i64 a1, .int .i64 a2] w fun e w' => e = .returned (.bool r) ∧ Below w.heap.size w w' := by
 have hu31 := Tryz.underlying31
 have d2 := am g6
 have d4 := am g8
 clear g6 g8
 have d1 := am g5
 have d3 := am g7
 clear g5 g7
 have HB := am (Below.refl w.heap.size w)
 have H : ((q4_given.f k a4 a6 a1 a2).bind fun e8 => (if e8 = 0 then ((q4_Below1.f k a4 a6 a1 a2).bind fun h3 => (some h3)) else (some false))) = some r := h
 clear h
 obtain ⟨e8, A4, H⟩ := obA H
 by_cases c5 : e8 = 0
 rotate_left
 ·rw [if_neg c5] at H
  have j2 := beq_eq_false_iff_ne.mpr c5
  have j1 := bne_iff_ne.mpr c5
  obtain rfl := Option.some.inj H
  go_enter Tryz.func61, Tryz.ntmps61
  go_wp2_with (first | ((with_reducible refine gate_dst (N := 3) rfl ?_); refine be 3 #[.slice b3 a4.length b1, .slice b2 a6.length b0] 31 ?_; intro o0 hg y8 hbox hb; have d0 := am (hbox); have o3 := bsz HB hg; replace HB := bstep HB hb; clear hb hbox hg; obtain ⟨t9, t8, q7, q6⟩ := cz2 d0) | ((with_reducible refine gate_callee (f := 86) rfl ?_); refine gl 10 Tryz.func86 #[.agg #[.slice b3 a4.length b1, .slice b2 a6.length b0], .int .i64 a1, .int .i64 a2] (h := ?_); (with_reducible refine (q4_given.calls k _ _ a4 _ _ a6 a1 a2 e8 _ ?b9 ?b8 ?b7 ?b6 A4.out).mono ?_); (case b9 => exact cb d2 HB); (case b8 => exact d4.out); (case b7 => exact cb d1 HB); (case b6 => exact d3.out); rintro e y6 ⟨rfl, hb⟩; refine ⟨_, rfl, ?_⟩; replace d0 := bkb d0 hb; replace HB := bstep HB hb; (try clear hb); (try clear hb2); (try clear hk); (try clear hi)))
  go_ret
  exact ⟨erf, bb HB⟩
 rw [if_pos c5] at H
 have j2 := beq_iff_eq.mpr c5
 have j1 := bne_eq_false_iff_eq.mpr c5
 clear c5
 obtain ⟨h3, A6, H⟩ := obA H
 obtain rfl := Option.some.inj H
 go_enter Tryz.func61, Tryz.ntmps61
 go_wp2_with (first | ((with_reducible refine gate_dst (N := 3) rfl ?_); refine be 3 #[.slice b3 a4.length b1, .slice b2 a6.length b0] 31 ?_; intro o0 hg w7 hbox hb; have d0 := am (hbox); have o3 := bsz HB hg; replace HB := bstep HB hb; clear hb hbox hg; obtain ⟨v6, v5, v4, v3⟩ := cz2 d0) | ((with_reducible refine gate_callee (f := 86) rfl ?_); refine gl 10 Tryz.func86 #[.agg #[.slice b3 a4.length b1, .slice b2 a6.length b0], .int .i64 a1, .int .i64 a2] (h := ?_); (with_reducible refine (q4_given.calls k _ _ a4 _ _ a6 a1 a2 e8 _ ?b9 ?b8 ?b7 ?b6 A4.out).mono ?_); (case b9 => exact cb d2 HB); (case b8 => exact d4.out); (case b7 => exact cb d1 HB); (case b6 => exact d3.out); rintro e w9 ⟨rfl, hb⟩; refine ⟨_, rfl, ?_⟩; replace d0 := bkb d0 hb; replace HB := bstep HB hb; (try clear hb); (try clear hb2); (try clear hk); (try clear hi); obtain ⟨v1, v0, q9, q8⟩ := cz2 d0) | (go_at_call 87; (with_reducible refine (q4_Below1.calls k _ _ a4 _ _ a6 a1 a2 h3 _ ?b9 ?b8 ?b7 ?b6 A6.out).mono ?_); (case b9 => exact cb d2 HB); (case b8 => exact d4.out); (case b7 => exact cb d1 HB); (case b6 => exact d3.out); rintro e y9 ⟨rfl, hb⟩; replace d0 := bkb d0 hb; replace HB := bstep HB hb; (try clear hb); (try clear hb2); (try clear hk); (try clear hi)))
 go_ret
 exact ⟨erf, bb HB⟩
def scarfjointref18_Nodes.l0 : Nat → Int → Int → Int → List (S96) → List (S101) → List (S75) → List (S75) → Option (Int × Int)
 | 0, _, _, _, _, _, _, _ => none
 | k + 1, x2, x9, h5, h0, g9, d9, h4 => if h5 < (d9.length : Int) then (if 0 ≤ h5 then ((q4_Is.f k h0 g9 ((rd_T75 d9 h5).f0) x2).bind fun j6 => (if j6 = true then (scarfjointref18_Nodes.l0 k x2 (wrap64 (x9 + ((rd_T75 d9 h5).f3))) (wrap64 (h5 + 1)) h0 g9 d9 h4) else (scarfjointref18_Nodes.l0 k x2 x9 (wrap64 (h5 + 1)) h0 g9 d9 h4))) else (none)) else (some (x9, 0))
def scarfjointref18_Nodes.f (k : Nat) (a4 : List (S96)) (a6 : List (S101)) (a7 : List (S75)) (a8 : List (S75)) (a2 : Int) : Option (Int × Int) := (scarfjointref18_Valid.f k a4 a6 a7 a8).bind fun d8 => (if d8 = 0 then ((scarfjointref18_is.f a2 (a4.length : Int)).bind fun h2 => (if h2 = true then (scarfjointref18_Nodes.l0 k a2 0 0 a4 a6 a7 a8) else (some (0, 6)))) else (some (0, d8)))
def scarfjointref18_Nodes.T10 : Bool × List (List Nat × List Nat) := (true, [([], []), ([], []), ([1], [1]), ([], []), ([2, 3], [2, 3]), ([4], [4]), ([5], [5]), ([], []), ([0, 6, 7], [0, 6, 7])])
def scarfjointref18_Nodes.B10 : List Nat := [0, 0, 2, 0, 14, 30, 62, 0, 255]
theorem scarfjointref18_Nodes.tab10 : rtab .any (opsOf Tryz.f27 10) = scarfjointref18_Nodes.T10 := by kernel_rfl
theorem scarfjointref18_Nodes.bits10 : waitsOk scarfjointref18_Nodes.T10.2 scarfjointref18_Nodes.B10 = true := by kernel_rfl
theorem scarfjointref18_Nodes.calls (k : Nat) (b3 : Option Addr) (b1 : Nat) (a4 : List (S96)) (b2 : Option Addr) (b0 : Nat) (a6 : List (S101)) (e6 : Option Addr) (d6 : Nat) (a7 : List (S75)) (d7 : Option Addr) (d5 : Nat) (a8 : List (S75)) (a2 : Int) (r1 : Int) (r2 : Int) (w : World) (g6 : Kd.C k96 w b3 a4.length a4) (g8 : a4.length ≤ b1) (g5 : Kd.C k101 w b2 a6.length a6) (g7 : a6.length ≤ b0) (m1 : Kd.C k75 w e6 a7.length a7) (m3 : a7.length ≤ d6) (m0 : Kd.C k75 w d7 a8.length a8) (m2 : a8.length ≤ d5) (h : scarfjointref18_Nodes.f k a4 a6 a7 a8 a2 = some (r1, r2)) :
  Calls Tryz.prog 27 #[.agg #[.slice b3 a4.length b1, .slice b2 a6.length b0], .agg #[.slice e6 a7.length d6, .slice d7 a8.length d5], .int .i64 a2] w fun e w' => e = .returned (.tuple #[.int .i64 r1, .int .i64 r2]) ∧ Below w.heap.size w w' := by
 have hu31 := Tryz.underlying31
 have hu46 := Tryz.underlying46
 have d2 := am g6
 have d4 := am g8
 clear g6 g8
 have d1 := am g5
 have d3 := am g7
 clear g5 g7
 have e7 := am m1
 have j5 := am m3
 clear m1 m3
 have j3 := am m0
 have j4 := am m2
 clear m0 m2
 have HB := am (Below.refl w.heap.size w)
 have H : ((scarfjointref18_Valid.f k a4 a6 a7 a8).bind fun d8 => (if d8 = 0 then ((scarfjointref18_is.f a2 (a4.length : Int)).bind fun h2 => (if h2 = true then (scarfjointref18_Nodes.l0 k a2 0 0 a4 a6 a7 a8) else (some (0, 6)))) else (some (0, d8)))) = some (r1, r2) := h
 clear h
 obtain ⟨d8, A4, H⟩ := obA H
 by_cases c5 : d8 = 0
 rotate_left
 ·rw [if_neg c5] at H
  have j2 := beq_eq_false_iff_ne.mpr c5
  have j1 := bne_iff_ne.mpr c5
  simp only [Option.some.injEq, Prod.mk.injEq] at H
  obtain ⟨rfl, rfl⟩ := H
  go_enter Tryz.func27, Tryz.ntmps27
  go_wp2_with (first | ((with_reducible refine gate_dst (N := 3) rfl ?_); refine be 3 #[.slice b3 a4.length b1, .slice b2 a6.length b0] 31 ?_; intro e5 hg x7 hbox hb; have a0 := am (hbox); have m7 := bsz HB hg; replace HB := bstep HB hb; clear hb hbox hg) | ((with_reducible refine gate_dst (N := 4) rfl ?_); refine be 4 #[.slice e6 a7.length d6, .slice d7 a8.length d5] 46 ?_; intro e4 hg x6 hbox hb; have a5 := am (hbox); have m6 := bsz HB hg; replace HB := bstep HB hb; have b5 := blt a0 hg; have b4 := bgt a0 hg; replace a0 := bkb a0 hb; clear hb hbox hg; have w4 := b5.out; have v7 := b4.out; obtain ⟨r5, r4, p0, o9⟩ := cz2 a0; obtain ⟨r3, r0, o8, o7⟩ := cz2 a5) | ((with_reducible refine gate_callee (f := 30) rfl ?_); refine gl 13 Tryz.func30 #[.agg #[.slice b3 a4.length b1, .slice b2 a6.length b0], .agg #[.slice e6 a7.length d6, .slice d7 a8.length d5]] (h := ?_); (with_reducible refine (scarfjointref18_Valid.calls k _ _ a4 _ _ a6 _ _ a7 _ _ a8 d8 _ ?b9 ?b8 ?b7 ?b6 ?g4 ?g3 ?g2 ?g1 A4.out).mono ?_); (case b9 => exact cb d2 HB); (case b8 => exact d4.out); (case b7 => exact cb d1 HB); (case b6 => exact d3.out); (case g4 => exact cb e7 HB); (case g3 => exact j5.out); (case g2 => exact cb j3 HB); (case g1 => exact j4.out); rintro e x5 ⟨rfl, hb⟩; refine ⟨_, rfl, ?_⟩; replace a0 := bkb a0 hb; replace a5 := bkb a5 hb; replace HB := bstep HB hb; (try clear hb); (try clear hb2); (try clear hk); (try clear hi)))
  go_ret2
  exact ⟨erf, bb HB⟩
 rw [if_pos c5] at H
 have j2 := beq_iff_eq.mpr c5
 have j1 := bne_eq_false_iff_eq.mpr c5
 clear c5
 obtain ⟨h2, A6, H⟩ := obA H
 by_cases c7 : h2 = true
 rotate_left
 ·replace c7 := Bool.eq_false_iff.mpr c7
  subst c7
  replace H := iff_ H
  simp only [Option.some.injEq, Prod.mk.injEq] at H
  obtain ⟨rfl, rfl⟩ := H
  go_enter Tryz.func27, Tryz.ntmps27
  go_wp2_with (first | ((with_reducible refine gate_dst (N := 3) rfl ?_); refine be 3 #[.slice b3 a4.length b1, .slice b2 a6.length b0] 31 ?_; intro e5 hg y1 hbox hb; have a0 := am (hbox); have m7 := bsz HB hg; replace HB := bstep HB hb; clear hb hbox hg) | ((with_reducible refine gate_dst (N := 4) rfl ?_); refine be 4 #[.slice e6 a7.length d6, .slice d7 a8.length d5] 46 ?_; intro e4 hg y0 hbox hb; have a5 := am (hbox); have m6 := bsz HB hg; replace HB := bstep HB hb; have b5 := blt a0 hg; have b4 := bgt a0 hg; replace a0 := bkb a0 hb; clear hb hbox hg; have w5 := b5.out; have v8 := b4.out; obtain ⟨s9, s8, p7, p6⟩ := cz2 a0; obtain ⟨r9, r8, p5, p4⟩ := cz2 a5) | ((with_reducible refine gate_callee (f := 30) rfl ?_); refine gl 13 Tryz.func30 #[.agg #[.slice b3 a4.length b1, .slice b2 a6.length b0], .agg #[.slice e6 a7.length d6, .slice d7 a8.length d5]] (h := ?_); (with_reducible refine (scarfjointref18_Valid.calls k _ _ a4 _ _ a6 _ _ a7 _ _ a8 d8 _ ?b9 ?b8 ?b7 ?b6 ?g4 ?g3 ?g2 ?g1 A4.out).mono ?_); (case b9 => exact cb d2 HB); (case b8 => exact d4.out); (case b7 => exact cb d1 HB); (case b6 => exact d3.out); (case g4 => exact cb e7 HB); (case g3 => exact j5.out); (case g2 => exact cb j3 HB); (case g1 => exact j4.out); rintro e x8 ⟨rfl, hb⟩; refine ⟨_, rfl, ?_⟩; replace a0 := bkb a0 hb; replace a5 := bkb a5 hb; replace HB := bstep HB hb; (try clear hb); (try clear hb2); (try clear hk); (try clear hi); obtain ⟨r7, r6, p3, p1⟩ := cz2 a0) | ((with_reducible refine gate_callee (f := 60) rfl ?_); refine gl 21 Tryz.func60 #[.int .i64 a2, .int .i64 (a4.length : Int)] (h := ?_); (with_reducible refine (scarfjointref18_is.calls a2 (a4.length : Int) false _ A6.out).mono ?_); rintro e w' ⟨rfl, ⟨nd, rfl⟩⟩; refine ⟨_, rfl, ?_⟩))
  go_ret2
  exact ⟨erf, bb HB⟩
 subst c7
 replace H := ift H
 have H' := am H
 clear H
 go_enter Tryz.func27, Tryz.ntmps27
 go_wp2_with (first | ((with_reducible refine gate_dst (N := 3) rfl ?_); refine be 3 #[.slice b3 a4.length b1, .slice b2 a6.length b0] 31 ?_; intro e5 hg w8 hbox hb; have a0 := am (hbox); have m7 := bsz HB hg; replace HB := bstep HB hb; clear hb hbox hg) | ((with_reducible refine gate_dst (N := 4) rfl ?_); refine be 4 #[.slice e6 a7.length d6, .slice d7 a8.length d5] 46 ?_; intro e4 hg w9 hbox hb; have a5 := am (hbox); have m6 := bsz HB hg; replace HB := bstep HB hb; have b5 := blt a0 hg; have b4 := bgt a0 hg; replace a0 := bkb a0 hb; clear hb hbox hg; have x3 := b5.out; have w3 := b4.out; obtain ⟨n9, n8, n3, n2⟩ := cz2 a0; obtain ⟨n7, n6, n1, n0⟩ := cz2 a5) | ((with_reducible refine gate_callee (f := 30) rfl ?_); refine gl 13 Tryz.func30 #[.agg #[.slice b3 a4.length b1, .slice b2 a6.length b0], .agg #[.slice e6 a7.length d6, .slice d7 a8.length d5]] (h := ?_); (with_reducible refine (scarfjointref18_Valid.calls k _ _ a4 _ _ a6 _ _ a7 _ _ a8 d8 _ ?b9 ?b8 ?b7 ?b6 ?g4 ?g3 ?g2 ?g1 A4.out).mono ?_); (case b9 => exact cb d2 HB); (case b8 => exact d4.out); (case b7 => exact cb d1 HB); (case b6 => exact d3.out); (case g4 => exact cb e7 HB); (case g3 => exact j5.out); (case g2 => exact cb j3 HB); (case g1 => exact j4.out); rintro e y7 ⟨rfl, hb⟩; refine ⟨_, rfl, ?_⟩; replace a0 := bkb a0 hb; replace a5 := bkb a5 hb; replace HB := bstep HB hb; (try clear hb); (try clear hb2); (try clear hk); (try clear hi); obtain ⟨n5, n4, m9, m8⟩ := cz2 a0) | ((with_reducible refine gate_callee (f := 60) rfl ?_); refine gl 21 Tryz.func60 #[.int .i64 a2, .int .i64 (a4.length : Int)] (h := ?_); (with_reducible refine (scarfjointref18_is.calls a2 (a4.length : Int) true _ A6.out).mono ?_); rintro e w' ⟨rfl, ⟨nd, rfl⟩⟩; refine ⟨_, rfl, ?_⟩))
 go_loopg [9, 10] k (fun kq v9 v2 w' => ∃ (h1 : Int) (a3 : Int), v9 = .int .i64 h1 ∧ v2 = .int .i64 a3 ∧ Aside0 (scarfjointref18_Nodes.l0 kq a2 h1 a3 a4 a6 a7 a8 = some (r1, r2)) ∧ Aside0 (kq ≤ k) ∧ Aside0 (w'.heap[e5]? = some (.cells #[(.slice b3 a4.length b1), (.slice b2 a6.length b0)] 31 (0, 0))) ∧ Aside0 (w'.heap[e4]? = some (.cells #[(.slice e6 a7.length d6), (.slice d7 a8.length d5)] 46 (0, 0))) ∧ Aside0 (Below w.heap.size w w'))
 case atStart => exact ⟨(0), (0), eqs, eqs, H', ⟨Nat.le_refl _⟩, ⟨bk a0⟩, ⟨bk a5⟩, ⟨bb HB⟩⟩
 case round =>
  clear H'
  try clear c1
  try clear c2
  try clear p2
  try clear c3
  try clear c5
  try clear j2
  try clear j1
  try clear c6
  try clear c7
  try clear A0
  try clear n9
  try clear n8
  try clear n7
  try clear n6
  try clear n5
  try clear n4
  try clear n3
  try clear n2
  try clear n1
  try clear n0
  try clear m9
  try clear m8
  obtain ⟨h1, a3, rfl, rfl, HA, m5, a0, a5, HB⟩ := hrel
  cases gk with
  | zero => exact absurd HA.out (by simp [scarfjointref18_Nodes.l0])
  | succ k1 =>
   have H := HA.out
   clear HA
   simp only [scarfjointref18_Nodes.l0] at H
   by_cases j0 : a3 < (a7.length : Int)
   rotate_left
   ·rw [if_neg j0] at H
    have o1 := decide_eq_false j0
    clear j0
    simp only [Option.some.injEq, Prod.mk.injEq] at H
    obtain ⟨rfl, rfl⟩ := H
    have w6 := b4.out
    have w0 := b5.out
    obtain ⟨t1, t0, p9, p8⟩ := cz2 a5
    go_wp2
    go_ret2
    exact ⟨erf, bb HB⟩
   rw [if_pos j0] at H
   have o1 := decide_eq_true j0
   clear j0
   obtain ⟨o4, H⟩ := itn H
   have x4 := decide_eq_true o4
   clear o4
   obtain ⟨j6, o5, H⟩ := obA H
   by_cases m4 : j6 = true
   rotate_left
   ·replace m4 := Bool.eq_false_iff.mpr m4
    subst m4
    replace H := iff_ H
    have H' := am H
    clear H
    have x0 := b4.out
    have w1 := b5.out
    obtain ⟨t3, t2, q1, q0⟩ := cz2 a5
    try go_wp2
    replace a0 := am (blk_drew a0.out)
    replace a5 := am (blk_drew a5.out)
    replace HB := am (below_drew1 HB.out)
    have g0 : 0 ≤ a3 := odt
    have e9 : a3 < (a7.length : Int) := odt
    obtain ⟨a9, j9, c9, c8, c4, c0⟩ := at_T75 e7.out a3 g0 e9
    have e0 := c0
    have e1 := c4
    have e2 := c8
    have e3 := c9
    cases j9
    replace c9 := hxc HB c9
    replace c8 := hxc HB c8
    replace c4 := hxc HB c4
    replace c0 := hxc HB c0
    replace g0 := eq_true g0
    replace e9 := eq_true e9
    refine start_ (n := 9) (S := fun w' => w'.cell? ⟨e5, 0, none⟩ = some (.slice b3 a4.length b1) ∧ w'.cell? ⟨e5, 1, none⟩ = some (.slice b2 a6.length b0) ∧ w'.cell? ⟨e4, 0, none⟩ = some (.slice (some a9) a7.length d6) ∧ w'.cell? ⟨e4, 1, none⟩ = some (.slice d7 a8.length d5) ∧ w'.cell? (a9.add ((a3).toNat * 4)) = some (.int .i64 ((rd_T75 a7 a3).f0)) ∧ w'.cell? ⟨(a9.add ((a3).toNat * 4)).block, (a9.add ((a3).toNat * 4)).off + 1, none⟩ = some (.int .i64 ((rd_T75 a7 a3).f1)) ∧ w'.cell? ⟨(a9.add ((a3).toNat * 4)).block, (a9.add ((a3).toNat * 4)).off + 2, none⟩ = some (.int .i64 ((rd_T75 a7 a3).f2)) ∧ w'.cell? ⟨(a9.add ((a3).toNat * 4)).block, (a9.add ((a3).toNat * 4)).off + 3, none⟩ = some (.int .i64 ((rd_T75 a7 a3).f3))) (ds := []) #[false, false, false, false, false, false, false, false, false] (by kernel_rfl) rfl rfl ⟨bc a0 0, bc a0 1, bc a5 0, bc a5 1, (hxc HB e3), (hxc HB e2), (hxc HB e1), (hxc HB e0)⟩ (fun hHeld => ?_); refine with_tabW scarfjointref18_Nodes.tab10 scarfjointref18_Nodes.bits10 (fun HT_ HW_ => ?_)
    generalize wr.drew = y3 at a0 a5 HB c9 c8 c4 c0 hHeld ⊢
    refine pu 1 31 (bits 9 0x2) HT_ (h := ?_)
    refine pu 3 33 (bits 9 0xa) HT_ (h := ?_)
    refine pu 7 37 (bits 9 0x8a) HT_ (h := ?_)
    refine tk 0 30 (bits 9 0x8b) HT_ HW_ hHeld (hy := by rintro w' ⟨s0, s1, s2, s3, s4, s5, s6, s7⟩; go_simp; with_reducible rfl) (h := ?_)
    refine tk 2 32 (bits 9 0x8f) HT_ HW_ hHeld (hy := by rintro w' ⟨s0, s1, s2, s3, s4, s5, s6, s7⟩; go_simp; with_reducible rfl) (h := ?_)
    refine pu 4 34 (bits 9 0x9f) HT_ (h := ?_)
    refine pu 5 35 (bits 9 0xbf) HT_ (h := ?_)
    refine tk 6 36 (bits 9 0xff) HT_ HW_ hHeld (hy := by rintro w' ⟨s0, s1, s2, s3, s4, s5, s6, s7⟩; go_simp; with_reducible rfl) (h := ?_)
    refine one_ (i := 8) (N := some 38) #[true, true, true, true, true, true, true, true, true] rfl rfl (one_of HT_.out (by kernel_rfl)) (by decide) (fun K hK => ?_)
    refine goes_ Tryz.func61 (by kernel_rfl) rfl #[.agg #[.slice b3 a4.length b1, .slice b2 a6.length b0], .int .i64 ((rd_T75 a7 a3).f0), .int .i64 a2] (by rfl) rfl rfl (by (try simp only [List.map_toArray, List.map_cons, List.map_nil]); first | done | rfl | (simp only [List.length_drop, List.length_take]; rfl)) ?_
    with_reducible refine (q4_Is.calls k1 _ _ a4 _ _ a6 ((rd_T75 a7 a3).f0) a2 false _ ?b9 ?b8 ?b7 ?b6 o5.out).mono ?_
    (case b9 => exact cb d2 HB)
    (case b8 => exact d4.out)
    (case b7 => exact cb d1 HB)
    (case b6 => exact d3.out)
    rintro e y2 ⟨rfl, hb⟩
    refine ⟨_, rfl, ?_⟩
    replace a0 := bkb a0 hb
    replace a5 := bkb a5 hb
    replace HB := bstep HB hb
    (try clear hb)
    (try clear hb2)
    (try clear hk)
    (try clear hi)
    refine hK.out _ _ ⟨bc a0 0, bc a0 1, bc a5 0, bc a5 1, (hxc HB e3), (hxc HB e2), (hxc HB e1), (hxc HB e0)⟩ (fun hHeld => ?_)
    clear hK K
    refine norm_ (a' := ?_) ?_ ?_
    rotate_left
    ·show Act.put _ (some 38) _ = _
     simp only [Act.put, List.setIfInBounds_toArray, List.set_cons_zero, List.set_cons_succ, i64_w, i32_w]
     rfl
    refine done_ (done_of HT_.out (by kernel_rfl)) ?_
    try go_wp2
    go_roundg k1
    case measure => have := m5.out; omega
    case rel => exact ⟨(h1), (wrap64 (a3 + 1)), eqs, eqs, H', ⟨by have := m5.out; omega⟩, ⟨bk a0⟩, ⟨bk a5⟩, ⟨bb HB⟩⟩
   subst m4
   replace H := ift H
   have H' := am H
   clear H
   have x1 := b4.out
   have w2 := b5.out
   obtain ⟨t7, t6, q5, q4⟩ := cz2 a5
   try go_wp2
   replace a0 := am (blk_drew a0.out)
   replace a5 := am (blk_drew a5.out)
   replace HB := am (below_drew1 HB.out)
   have g0 : 0 ≤ a3 := odt
   have e9 : a3 < (a7.length : Int) := odt
   obtain ⟨a9, j9, c9, c8, c4, c0⟩ := at_T75 e7.out a3 g0 e9
   have e0 := c0
   have e1 := c4
   have e2 := c8
   have e3 := c9
   cases j9
   replace c9 := hxc HB c9
   replace c8 := hxc HB c8
   replace c4 := hxc HB c4
   replace c0 := hxc HB c0
   replace g0 := eq_true g0
   replace e9 := eq_true e9
   refine start_ (n := 9) (S := fun w' => w'.cell? ⟨e5, 0, none⟩ = some (.slice b3 a4.length b1) ∧ w'.cell? ⟨e5, 1, none⟩ = some (.slice b2 a6.length b0) ∧ w'.cell? ⟨e4, 0, none⟩ = some (.slice (some a9) a7.length d6) ∧ w'.cell? ⟨e4, 1, none⟩ = some (.slice d7 a8.length d5) ∧ w'.cell? (a9.add ((a3).toNat * 4)) = some (.int .i64 ((rd_T75 a7 a3).f0)) ∧ w'.cell? ⟨(a9.add ((a3).toNat * 4)).block, (a9.add ((a3).toNat * 4)).off + 1, none⟩ = some (.int .i64 ((rd_T75 a7 a3).f1)) ∧ w'.cell? ⟨(a9.add ((a3).toNat * 4)).block, (a9.add ((a3).toNat * 4)).off + 2, none⟩ = some (.int .i64 ((rd_T75 a7 a3).f2)) ∧ w'.cell? ⟨(a9.add ((a3).toNat * 4)).block, (a9.add ((a3).toNat * 4)).off + 3, none⟩ = some (.int .i64 ((rd_T75 a7 a3).f3))) (ds := []) #[false, false, false, false, false, false, false, false, false] (by kernel_rfl) rfl rfl ⟨bc a0 0, bc a0 1, bc a5 0, bc a5 1, (hxc HB e3), (hxc HB e2), (hxc HB e1), (hxc HB e0)⟩ (fun hHeld => ?_); refine with_tabW scarfjointref18_Nodes.tab10 scarfjointref18_Nodes.bits10 (fun HT_ HW_ => ?_)
   generalize wr.drew = y5 at a0 a5 HB c9 c8 c4 c0 hHeld ⊢
   refine pu 1 31 (bits 9 0x2) HT_ (h := ?_)
   refine pu 3 33 (bits 9 0xa) HT_ (h := ?_)
   refine pu 7 37 (bits 9 0x8a) HT_ (h := ?_)
   refine tk 0 30 (bits 9 0x8b) HT_ HW_ hHeld (hy := by rintro w' ⟨s0, s1, s2, s3, s4, s5, s6, s7⟩; go_simp; with_reducible rfl) (h := ?_)
   refine tk 2 32 (bits 9 0x8f) HT_ HW_ hHeld (hy := by rintro w' ⟨s0, s1, s2, s3, s4, s5, s6, s7⟩; go_simp; with_reducible rfl) (h := ?_)
   refine pu 4 34 (bits 9 0x9f) HT_ (h := ?_)
   refine pu 5 35 (bits 9 0xbf) HT_ (h := ?_)
   refine tk 6 36 (bits 9 0xff) HT_ HW_ hHeld (hy := by rintro w' ⟨s0, s1, s2, s3, s4, s5, s6, s7⟩; go_simp; with_reducible rfl) (h := ?_)
   refine one_ (i := 8) (N := some 38) #[true, true, true, true, true, true, true, true, true] rfl rfl (one_of HT_.out (by kernel_rfl)) (by decide) (fun K hK => ?_)
   refine goes_ Tryz.func61 (by kernel_rfl) rfl #[.agg #[.slice b3 a4.length b1, .slice b2 a6.length b0], .int .i64 ((rd_T75 a7 a3).f0), .int .i64 a2] (by rfl) rfl rfl (by (try simp only [List.map_toArray, List.map_cons, List.map_nil]); first | done | rfl | (simp only [List.length_drop, List.length_take]; rfl)) ?_
   with_reducible refine (q4_Is.calls k1 _ _ a4 _ _ a6 ((rd_T75 a7 a3).f0) a2 true _ ?b9 ?b8 ?b7 ?b6 o5.out).mono ?_
   (case b9 => exact cb d2 HB)
   (case b8 => exact d4.out)
   (case b7 => exact cb d1 HB)
   (case b6 => exact d3.out)
   rintro e y4 ⟨rfl, hb⟩
   refine ⟨_, rfl, ?_⟩
   replace a0 := bkb a0 hb
   replace a5 := bkb a5 hb
   replace HB := bstep HB hb
   (try clear hb)
   (try clear hb2)
   (try clear hk)
   (try clear hi)
   refine hK.out _ _ ⟨bc a0 0, bc a0 1, bc a5 0, bc a5 1, (hxc HB e3), (hxc HB e2), (hxc HB e1), (hxc HB e0)⟩ (fun hHeld => ?_)
   clear hK K
   refine norm_ (a' := ?_) ?_ ?_
   rotate_left
   ·show Act.put _ (some 38) _ = _
    simp only [Act.put, List.setIfInBounds_toArray, List.set_cons_zero, List.set_cons_succ, i64_w, i32_w]
    rfl
   refine done_ (done_of HT_.out (by kernel_rfl)) ?_
   obtain ⟨t5, t4, q3, q2⟩ := cz2 a5
   have j8 : 0 ≤ a3 := odt
   have j7 : a3 < (a7.length : Int) := odt
   obtain ⟨o2, o6, h9, h8, h7, h6⟩ := at_T75 e7.out a3 j8 j7
   obtain rfl : a9 = o2 := (by injection o6)
   replace h9 := hxc HB h9
   replace h8 := hxc HB h8
   replace h7 := hxc HB h7
   replace h6 := hxc HB h6
   replace j8 := eq_true j8
   replace j7 := eq_true j7
   try go_wp2
   go_roundg k1
   case measure => have := m5.out; omega
   case rel => exact ⟨(wrap64 (h1 + ((rd_T75 a7 a3).f3))), (wrap64 (a3 + 1)), eqs, eqs, H', ⟨by have := m5.out; omega⟩, ⟨bk a0⟩, ⟨bk a5⟩, ⟨bb HB⟩⟩
mutual
def scarfjointref18_Edges.j0 : Nat → Int → Int → Int → Bool → List (S96) → List (S101) → List (S75) → List (S75) → Option (Int × Int)
 | 0, _, _, _, _, _, _, _, _ => none
 | k + 1, x2, x3, x4, E6, d4, d3, d5, b3 => if E6 = true then (some (0, 6)) else (scarfjointref18_Edges.l0 k x2 x3 x4 0 0 d4 d3 d5 b3)
def scarfjointref18_Edges.l0 : Nat → Int → Int → Int → Int → Int → List (S96) → List (S101) → List (S75) → List (S75) → Option (Int × Int)
 | 0, _, _, _, _, _, _, _, _, _ => none
 | k + 1, x2, x3, x4, n3, g5, d4, d3, d5, b3 => if g5 < (b3.length : Int) then (if 0 ≤ g5 then (if ((rd_T75 b3 g5).f0) = x2 then ((q4_Is.f k d4 d3 ((rd_T75 b3 g5).f1) x3).bind fun n6 => (if n6 = true then ((q4_Is.f k d4 d3 ((rd_T75 b3 g5).f2) x4).bind fun n5 => (if n5 = true then (scarfjointref18_Edges.l0 k x2 x3 x4 (wrap64 (n3 + ((rd_T75 b3 g5).f3))) (wrap64 (g5 + 1)) d4 d3 d5 b3) else (scarfjointref18_Edges.l0 k x2 x3 x4 n3 (wrap64 (g5 + 1)) d4 d3 d5 b3))) else (scarfjointref18_Edges.l0 k x2 x3 x4 n3 (wrap64 (g5 + 1)) d4 d3 d5 b3))) else (scarfjointref18_Edges.l0 k x2 x3 x4 n3 (wrap64 (g5 + 1)) d4 d3 d5 b3)) else (none)) else (some (n3, 0))
end
def scarfjointref18_Edges.f (k : Nat) (a8 : List (S96)) (a7 : List (S101)) (a9 : List (S75)) (a5 : List (S75)) (a2 : Int) (a3 : Int) (a4 : Int) : Option (Int × Int) := (scarfjointref18_Valid.f k a8 a7 a9 a5).bind fun e4 => (if e4 = 0 then ((scarfjointref18_is.f a2 (a7.length : Int)).bind fun h2 => (if h2 = true then ((scarfjointref18_is.f a3 (a8.length : Int)).bind fun h1 => (if h1 = true then ((scarfjointref18_is.f a4 (a8.length : Int)).bind fun g7 => (scarfjointref18_Edges.j0 k a2 a3 a4 (!g7) a8 a7 a9 a5)) else (scarfjointref18_Edges.j0 k a2 a3 a4 true a8 a7 a9 a5))) else (scarfjointref18_Edges.j0 k a2 a3 a4 true a8 a7 a9 a5))) else (some (0, e4)))
theorem scarfjointref18_Edges.calls (k : Nat) (e2 : Option Addr) (d9 : Nat) (a8 : List (S96)) (e1 : Option Addr) (d8 : Nat) (a7 : List (S101)) (e0 : Option Addr) (d7 : Nat) (a9 : List (S75)) (e9 : Option Addr) (d6 : Nat) (a5 : List (S75)) (a2 : Int) (a3 : Int) (a4 : Int) (r1 : Int) (r2 : Int) (w : World) (o2 : Kd.C k96 w e2 a8.length a8) (o6 : a8.length ≤ d9) (o1 : Kd.C k101 w e1 a7.length a7) (o5 : a7.length ≤ d8) (o0 : Kd.C k75 w e0 a9.length a9) (o4 : a9.length ≤ d7) (n9 : Kd.C k75 w e9 a5.length a5) (o3 : a5.length ≤ d6) (h : scarfjointref18_Edges.f k a8 a7 a9 a5 a2 a3 a4 = some (r1, r2)) :
  Calls Tryz.prog 29 #[.agg #[.slice e2 a8.length d9, .slice e1 a7.length d8], .agg #[.slice e0 a9.length d7, .slice e9 a5.length d6], .int .i64 a2, .int .i64 a3, .int .i64 a4] w fun e w' => e = .returned (.tuple #[.int .i64 r1, .int .i64 r2]) ∧ Below w.heap.size w w' := by
 have hu31 := Tryz.underlying31
 have hu46 := Tryz.underlying46
 have hu75 := Tryz.underlying75
 have e6 := am o2
 have e8 := am o6
 clear o2 o6
 have e5 := am o1
 have e7 := am o5
 clear o1 o5
 have o9 := am o0
 have p1 := am o4
 clear o0 o4
 have g4 := am n9
 have p0 := am o3
 clear n9 o3
 have HB := am (Below.refl w.heap.size w)
 have H : ((scarfjointref18_Valid.f k a8 a7 a9 a5).bind fun e4 => (if e4 = 0 then ((scarfjointref18_is.f a2 (a7.length : Int)).bind fun h2 => (if h2 = true then ((scarfjointref18_is.f a3 (a8.length : Int)).bind fun h1 => (if h1 = true then ((scarfjointref18_is.f a4 (a8.length : Int)).bind fun g7 => (scarfjointref18_Edges.j0 k a2 a3 a4 (!g7) a8 a7 a9 a5)) else (scarfjointref18_Edges.j0 k a2 a3 a4 true a8 a7 a9 a5))) else (scarfjointref18_Edges.j0 k a2 a3 a4 true a8 a7 a9 a5))) else (some (0, e4)))) = some (r1, r2) := h
 clear h
 obtain ⟨e4, A6, H⟩ := obA H
 by_cases c7 : e4 = 0
 rotate_left
 ·rw [if_neg c7] at H
  have n8 := beq_eq_false_iff_ne.mpr c7
  have n7 := bne_iff_ne.mpr c7
  simp only [Option.some.injEq, Prod.mk.injEq] at H
  obtain ⟨rfl, rfl⟩ := H
  go_enter Tryz.func29, Tryz.ntmps29
  go_wp2_with (first | ((with_reducible refine gate_dst (N := 5) rfl ?_); (try (refine gate_guard (by rfl) ?_; dsimp only)); refine be 5 #[.slice e2 a8.length d9, .slice e1 a7.length d8] 31 ?_; intro g2 hg J4 hbox hb; have a0 := am (hbox); have q0 := bsz HB hg; replace HB := bstep HB hb; clear hb hbox hg) | ((with_reducible refine gate_dst (N := 6) rfl ?_); (try (refine gate_guard (by rfl) ?_; dsimp only)); refine be 6 #[.slice e0 a9.length d7, .slice e9 a5.length d6] 46 ?_; intro g1 hg J3 hbox hb; have a6 := am (hbox); have p9 := bsz HB hg; replace HB := bstep HB hb; have b1 := blt a0 hg; have b0 := bgt a0 hg; replace a0 := bkb a0 hb; clear hb hbox hg; have H3 := b1.out; have F5 := b0.out; obtain ⟨x6, x5, q8, q7⟩ := cz2 a0; obtain ⟨x1, x0, q6, q5⟩ := cz2 a6) | ((with_reducible refine gate_callee (f := 30) rfl ?_); refine gl 18 Tryz.func30 #[.agg #[.slice e2 a8.length d9, .slice e1 a7.length d8], .agg #[.slice e0 a9.length d7, .slice e9 a5.length d6]] (h := ?_); (with_reducible refine (scarfjointref18_Valid.calls k _ _ a8 _ _ a7 _ _ a9 _ _ a5 e4 _ ?d0 ?c9 ?c8 ?c5 ?n1 ?n0 ?m9 ?m8 A6.out).mono ?_); (case d0 => exact cb e6 HB); (case c9 => exact e8.out); (case c8 => exact cb e5 HB); (case c5 => exact e7.out); (case n1 => exact cb o9 HB); (case n0 => exact p1.out); (case m9 => exact cb g4 HB); (case m8 => exact p0.out); rintro e J2 ⟨rfl, hb⟩; refine ⟨_, rfl, ?_⟩; replace a0 := bkb a0 hb; replace a6 := bkb a6 hb; replace HB := bstep HB hb; (try clear hb); (try clear hb2); (try clear hk); (try clear hi)))
  go_ret2
  exact ⟨erf, bb HB⟩
 rw [if_pos c7] at H
 have n8 := beq_iff_eq.mpr c7
 have n7 := bne_eq_false_iff_eq.mpr c7
 clear c7
 have p3 := am H
 clear H
 go_enter Tryz.func29, Tryz.ntmps29
 go_upto_region 4 with (first | ((with_reducible refine gate_dst (N := 5) rfl ?_); (try (refine gate_guard (by rfl) ?_; dsimp only)); refine be 5 #[.slice e2 a8.length d9, .slice e1 a7.length d8] 31 ?_; intro g2 hg w9 hbox hb; have a0 := am (hbox); have q0 := bsz HB hg; replace HB := bstep HB hb; clear hb hbox hg) | ((with_reducible refine gate_dst (N := 6) rfl ?_); (try (refine gate_guard (by rfl) ?_; dsimp only)); refine be 6 #[.slice e0 a9.length d7, .slice e9 a5.length d6] 46 ?_; intro g1 hg L5 hbox hb; have a6 := am (hbox); have p9 := bsz HB hg; replace HB := bstep HB hb; have b1 := blt a0 hg; have b0 := bgt a0 hg; replace a0 := bkb a0 hb; clear hb hbox hg; have J0 := b1.out; have H2 := b0.out; obtain ⟨m4, m3, j4, j3⟩ := cz2 a0; obtain ⟨m2, m1, j2, j1⟩ := cz2 a6) | ((with_reducible refine gate_callee (f := 30) rfl ?_); refine gl 18 Tryz.func30 #[.agg #[.slice e2 a8.length d9, .slice e1 a7.length d8], .agg #[.slice e0 a9.length d7, .slice e9 a5.length d6]] (h := ?_); (with_reducible refine (scarfjointref18_Valid.calls k _ _ a8 _ _ a7 _ _ a9 _ _ a5 e4 _ ?d0 ?c9 ?c8 ?c5 ?n1 ?n0 ?m9 ?m8 A6.out).mono ?_); (case d0 => exact cb e6 HB); (case c9 => exact e8.out); (case c8 => exact cb e5 HB); (case c5 => exact e7.out); (case n1 => exact cb o9 HB); (case n0 => exact p1.out); (case m9 => exact cb g4 HB); (case m8 => exact p0.out); rintro e L4 ⟨rfl, hb⟩; refine ⟨_, rfl, ?_⟩; replace a0 := bkb a0 hb; replace a6 := bkb a6 hb; replace HB := bstep HB hb; (try clear hb); (try clear hb2); (try clear hk); (try clear hi)))
 (try simp only [Act.put, List.setIfInBounds_toArray, List.set_cons_zero, List.set_cons_succ])
 go_cut [43] (fun E7 wc => ∃ (kq : Nat) (h0 : Bool), E7 = .bool h0 ∧ Aside0 (scarfjointref18_Edges.j0 kq a2 a3 a4 h0 a8 a7 a9 a5 = some (r1, r2)) ∧ Aside0 (kq ≤ k) ∧ Aside0 (wc.heap[g2]? = some (.cells #[(.slice e2 a8.length d9), (.slice e1 a7.length d8)] 31 (0, 0))) ∧ Aside0 (wc.heap[g1]? = some (.cells #[(.slice e0 a9.length d7), (.slice e9 a5.length d6)] 46 (0, 0))) ∧ Aside0 (Below w.heap.size w wc))
 case first =>
  have H := p3.out
  clear p3
  obtain ⟨h2, p5, H⟩ := obA H
  by_cases m7 : h2 = true
  rotate_left
  ·replace m7 := Bool.eq_false_iff.mpr m7
   subst m7
   replace H := iff_ H
   have H' := am H
   clear H
   have I7 := b1.out
   have G9 := b0.out
   obtain ⟨j6, j5, h5, h4⟩ := cz2 a0
   go_wp2_with (first | ((with_reducible refine gate_callee (f := 60) rfl ?_); refine gl 26 Tryz.func60 #[.int .i64 a2, .int .i64 (a7.length : Int)] (h := ?_); (with_reducible refine (scarfjointref18_is.calls a2 (a7.length : Int) false _ p5.out).mono ?_); rintro e w' ⟨rfl, ⟨nd, rfl⟩⟩; refine ⟨_, rfl, ?_⟩))
   go_meet
   case rel => exact ⟨_, (true), eqs, H', ⟨by first | omega | exact Nat.le_refl _⟩, ⟨bk a0⟩, ⟨bk a6⟩, ⟨bb HB⟩⟩
  subst m7
  replace H := ift H
  obtain ⟨h1, q4, H⟩ := obA H
  by_cases m6 : h1 = true
  rotate_left
  ·replace m6 := Bool.eq_false_iff.mpr m6
   subst m6
   replace H := iff_ H
   have H' := am H
   clear H
   have I8 := b1.out
   have H0 := b0.out
   obtain ⟨j8, j7, h7, h6⟩ := cz2 a0
   go_wp2_with (first | ((with_reducible refine gate_callee (f := 60) rfl ?_); refine gl 26 Tryz.func60 #[.int .i64 a2, .int .i64 (a7.length : Int)] (h := ?_); (with_reducible refine (scarfjointref18_is.calls a2 (a7.length : Int) true _ p5.out).mono ?_); rintro e w' ⟨rfl, ⟨nd, rfl⟩⟩; refine ⟨_, rfl, ?_⟩) | (go_at_call 60; (with_reducible refine (scarfjointref18_is.calls a3 (a8.length : Int) false _ q4.out).mono ?_); rintro e w' ⟨rfl, ⟨nd, rfl⟩⟩))
   go_meet
   case rel => exact ⟨_, (true), eqs, H', ⟨by first | omega | exact Nat.le_refl _⟩, ⟨bk a0⟩, ⟨bk a6⟩, ⟨bb HB⟩⟩
  subst m6
  replace H := ift H
  obtain ⟨g7, F4, H⟩ := obA H
  have H' := am H
  clear H
  have I9 := b1.out
  have H1 := b0.out
  obtain ⟨m0, j9, h9, h8⟩ := cz2 a0
  go_wp2_with (first | ((with_reducible refine gate_callee (f := 60) rfl ?_); refine gl 26 Tryz.func60 #[.int .i64 a2, .int .i64 (a7.length : Int)] (h := ?_); (with_reducible refine (scarfjointref18_is.calls a2 (a7.length : Int) true _ p5.out).mono ?_); rintro e w' ⟨rfl, ⟨nd, rfl⟩⟩; refine ⟨_, rfl, ?_⟩) | (go_at_call 60; (with_reducible refine (scarfjointref18_is.calls a3 (a8.length : Int) true _ q4.out).mono ?_); rintro e w' ⟨rfl, ⟨nd, rfl⟩⟩) | (go_at_call 60; (with_reducible refine (scarfjointref18_is.calls a4 (a8.length : Int) g7 _ F4.out).mono ?_); rintro e w' ⟨rfl, ⟨nd, rfl⟩⟩))
  go_meet
  case rel => exact ⟨_, (!g7), eqs, H', ⟨by first | omega | exact Nat.le_refl _⟩, ⟨bk a0⟩, ⟨bk a6⟩, ⟨bb HB⟩⟩
 case rest =>
  clear p3
  try clear c1
  try clear c2
  try clear p2
  try clear c3
  try clear c6
  try clear c7
  try clear n8
  try clear n7
  try clear F3
  try clear m7
  try clear m6
  try clear F2
  try clear F1
  try clear F0
  try clear m4
  try clear m3
  try clear m2
  try clear m1
  try clear m0
  try clear j9
  try clear j8
  try clear j7
  try clear j6
  try clear j5
  try clear j4
  try clear j3
  try clear j2
  try clear j1
  try clear h9
  try clear h8
  try clear h7
  try clear h6
  try clear h5
  try clear h4
  obtain ⟨kq, h0, rfl, HA, g9, a0, a6, HB⟩ := hcut
  cases kq with
  | zero => exact absurd HA.out (by simp [scarfjointref18_Edges.j0])
  | succ q1 =>
   have H := HA.out
   clear HA
   simp only [scarfjointref18_Edges.j0] at H
   by_cases n4 : h0 = true
   ·subst n4
    replace H := ift H
    simp only [Option.some.injEq, Prod.mk.injEq] at H
    obtain ⟨rfl, rfl⟩ := H
    go_wp2
    go_ret2
    exact ⟨erf, bb HB⟩
   replace n4 := Bool.eq_false_iff.mpr n4
   subst n4
   replace H := iff_ H
   have H' := am H
   clear H
   go_wp2
   go_loopg [13, 14] q1 (fun kq E9 E8 w' => ∃ (e3 : Int) (a1 : Int), E9 = .int .i64 e3 ∧ E8 = .int .i64 a1 ∧ Aside0 (scarfjointref18_Edges.l0 kq a2 a3 a4 e3 a1 a8 a7 a9 a5 = some (r1, r2)) ∧ Aside0 (kq ≤ q1) ∧ Aside0 (w'.heap[g2]? = some (.cells #[(.slice e2 a8.length d9), (.slice e1 a7.length d8)] 31 (0, 0))) ∧ Aside0 (w'.heap[g1]? = some (.cells #[(.slice e0 a9.length d7), (.slice e9 a5.length d6)] 46 (0, 0))) ∧ Aside0 (Below w.heap.size w w'))
   case atStart => exact ⟨(0), (0), eqs, eqs, H', ⟨Nat.le_refl _⟩, ⟨bk a0⟩, ⟨bk a6⟩, ⟨bb HB⟩⟩
   case round =>
    clear H'
    try clear c1
    try clear c2
    try clear p2
    try clear c3
    try clear c6
    try clear c7
    try clear n8
    try clear n7
    try clear F3
    try clear m7
    try clear m6
    try clear F2
    try clear F1
    try clear F0
    try clear n4
    try clear m4
    try clear m3
    try clear m2
    try clear m1
    try clear m0
    try clear j9
    try clear j8
    try clear j7
    try clear j6
    try clear j5
    try clear j4
    try clear j3
    try clear j2
    try clear j1
    try clear h9
    try clear h8
    try clear h7
    try clear h6
    try clear h5
    try clear h4
    try clear p2
    obtain ⟨e3, a1, rfl, rfl, HA, g8, a0, a6, HB⟩ := hrel
    cases gk with
    | zero => exact absurd HA.out (by simp [scarfjointref18_Edges.l0])
    | succ k2 =>
     have H := HA.out
     clear HA
     simp only [scarfjointref18_Edges.l0] at H
     by_cases m5 : a1 < (a5.length : Int)
     rotate_left
     ·rw [if_neg m5] at H
      have p8 := decide_eq_false m5
      clear m5
      simp only [Option.some.injEq, Prod.mk.injEq] at H
      obtain ⟨rfl, rfl⟩ := H
      have H4 := b0.out
      have F6 := b1.out
      obtain ⟨x8, x7, r0, q9⟩ := cz2 a6
      go_wp2
      go_ret2
      exact ⟨erf, bb HB⟩
     rw [if_pos m5] at H
     have p8 := decide_eq_true m5
     clear m5
     obtain ⟨q2, H⟩ := itn H
     have J1 := decide_eq_true q2
     clear q2
     by_cases h3 : ((rd_T75 a5 a1).f0) = a2
     rotate_left
     ·rw [if_neg h3] at H
      have p7 := beq_eq_false_iff_ne.mpr h3
      have p6 := bne_iff_ne.mpr h3
      have H' := am H
      clear H
      have H7 := b0.out
      have F9 := b1.out
      obtain ⟨y4, y3, r8, r7⟩ := cz2 a6
      have d2 : 0 ≤ a1 := odt
      have d1 : a1 < (a5.length : Int) := odt
      obtain ⟨g3, g6, b7, b6, b5, b4⟩ := at_T75 g4.out a1 d2 d1
      cases g6
      replace b7 := hxc HB b7
      replace b6 := hxc HB b6
      replace b5 := hxc HB b5
      replace b4 := hxc HB b4
      replace d2 := eq_true d2
      replace d1 := eq_true d1
      go_wp2_with (first | ((with_reducible refine gate_dst (N := 15) rfl ?_); (try (refine gate_guard (by rfl) ?_; dsimp only)); refine be 15 #[.int .i64 0, .int .i64 0, .int .i64 0, .int .i64 0] 75 ?_; intro g0 hg J5 hbox hb; have b2 := am (hbox); have n2 := bsz HB hg; replace HB := bstep HB hb; have c4 := blt a0 hg; have b9 := bgt a0 hg; replace a0 := bkb a0 hb; have c0 := blt a6 hg; have b8 := bgt a6 hg; replace a6 := bkb a6 hb; clear hb hbox hg; have H6 := b9.out; have F8 := c4.out; have H5 := b8.out; have F7 := c0.out; obtain ⟨y2, y1, y0, x9, r6, r5, r4, r3⟩ := cz4 b2))
      go_roundg k2
      case measure => have := g9.out; have := g8.out; omega
      case rel => exact ⟨(e3), (wrap64 (a1 + 1)), eqs, eqs, H', ⟨by have := g9.out; have := g8.out; omega⟩, ⟨bkF a0⟩, ⟨bkF a6⟩, ⟨bb HB⟩⟩
     rw [if_pos h3] at H
     have p7 := beq_iff_eq.mpr h3
     have p6 := bne_eq_false_iff_eq.mpr h3
     clear h3
     obtain ⟨n6, p4, H⟩ := obA H
     by_cases o8 : n6 = true
     rotate_left
     ·replace o8 := Bool.eq_false_iff.mpr o8
      subst o8
      replace H := iff_ H
      have H' := am H
      clear H
      have I0 := b0.out
      have G2 := b1.out
      obtain ⟨A2, A1, s6, s5⟩ := cz2 a6
      have d2 : 0 ≤ a1 := odt
      have d1 : a1 < (a5.length : Int) := odt
      obtain ⟨g3, g6, b7, b6, b5, b4⟩ := at_T75 g4.out a1 d2 d1
      cases g6
      replace b7 := hxc HB b7
      replace b6 := hxc HB b6
      replace b5 := hxc HB b5
      replace b4 := hxc HB b4
      replace d2 := eq_true d2
      replace d1 := eq_true d1
      go_wp2_with (first | ((with_reducible refine gate_dst (N := 15) rfl ?_); (try (refine gate_guard (by rfl) ?_; dsimp only)); refine be 15 #[.int .i64 0, .int .i64 0, .int .i64 0, .int .i64 0] 75 ?_; intro g0 hg J7 hbox hb; have b2 := am (hbox); have n2 := bsz HB hg; replace HB := bstep HB hb; have c4 := blt a0 hg; have b9 := bgt a0 hg; replace a0 := bkb a0 hb; have c0 := blt a6 hg; have b8 := bgt a6 hg; replace a6 := bkb a6 hb; clear hb hbox hg; have H9 := b9.out; have G1 := c4.out; have H8 := b8.out; have G0 := c0.out; obtain ⟨A0, y9, y8, y7, s4, s3, s2, s1⟩ := cz4 b2; obtain ⟨y6, y5, s0, r9⟩ := cz2 a0) | (go_at_call 61; (with_reducible refine (q4_Is.calls k2 _ _ a8 _ _ a7 ((rd_T75 a5 a1).f1) a3 false _ ?d0 ?c9 ?c8 ?c5 p4.out).mono ?_); (case d0 => exact Kd.C_below e6.out (bb HB)); (case c9 => exact e8.out); (case c8 => exact Kd.C_below e5.out (bb HB)); (case c5 => exact e7.out); rintro e J6 ⟨rfl, hb⟩; replace a0 := am (blk_below (g := g2) (o := .cells #[.slice e2 a8.length d9, .slice e1 a7.length d8] 31 (0, 0)) (bkF a0) hb); replace a6 := am (blk_below (g := g1) (o := .cells #[.slice e0 a9.length d7, .slice (some g3) a5.length d6] 46 (0, 0)) (bkF a6) hb); replace b2 := am (blk_below (g := g0) (o := .cells #[.int .i64 ((rd_T75 a5 a1).f0), .int .i64 ((rd_T75 a5 a1).f1), .int .i64 ((rd_T75 a5 a1).f2), .int .i64 ((rd_T75 a5 a1).f3)] 75 (0, 0)) (by (with_reducible repeat (first | refine dN ?_ _ | refine dR ?_ | refine dA ?_ _)); refine blk_put (cs := #[.int .i64 ((rd_T75 a5 a1).f0), .int .i64 ((rd_T75 a5 a1).f1), .int .i64 ((rd_T75 a5 a1).f2), .int .i64 0]) ?_ 3 _ rfl; refine blk_put (cs := #[.int .i64 ((rd_T75 a5 a1).f0), .int .i64 ((rd_T75 a5 a1).f1), .int .i64 0, .int .i64 0]) ?_ 2 _ rfl; refine blk_put (cs := #[.int .i64 ((rd_T75 a5 a1).f0), .int .i64 0, .int .i64 0, .int .i64 0]) ?_ 1 _ rfl; refine blk_put (cs := #[.int .i64 0, .int .i64 0, .int .i64 0, .int .i64 0]) ?_ 0 _ rfl; (with_reducible repeat (first | refine dN ?_ _ | refine dR ?_ | refine dA ?_ _)); exact b2.out) hb); replace HB := bstep HB hb; (try clear hb); (try clear hb2); (try clear hk); (try clear hi)))
      go_roundg k2
      case measure => have := g9.out; have := g8.out; omega
      case rel => exact ⟨(e3), (wrap64 (a1 + 1)), eqs, eqs, H', ⟨by have := g9.out; have := g8.out; omega⟩, ⟨bk a0⟩, ⟨bk a6⟩, ⟨bb HB⟩⟩
     subst o8
     replace H := ift H
     obtain ⟨n5, q3, H⟩ := obA H
     by_cases o7 : n5 = true
     ·subst o7
      replace H := ift H
      have H' := am H
      clear H
      have I6 := b0.out
      have G8 := b1.out
      obtain ⟨E5, E4, w8, w7⟩ := cz2 a6
      have d2 : 0 ≤ a1 := odt
      have d1 : a1 < (a5.length : Int) := odt
      obtain ⟨g3, g6, b7, b6, b5, b4⟩ := at_T75 g4.out a1 d2 d1
      cases g6
      replace b7 := hxc HB b7
      replace b6 := hxc HB b6
      replace b5 := hxc HB b5
      replace b4 := hxc HB b4
      replace d2 := eq_true d2
      replace d1 := eq_true d1
      go_wp2_with (first | ((with_reducible refine gate_dst (N := 15) rfl ?_); (try (refine gate_guard (by rfl) ?_; dsimp only)); refine be 15 #[.int .i64 0, .int .i64 0, .int .i64 0, .int .i64 0] 75 ?_; intro g0 hg L3 hbox hb; have b2 := am (hbox); have n2 := bsz HB hg; replace HB := bstep HB hb; have c4 := blt a0 hg; have b9 := bgt a0 hg; replace a0 := bkb a0 hb; have c0 := blt a6 hg; have b8 := bgt a6 hg; replace a6 := bkb a6 hb; clear hb hbox hg; have I5 := b9.out; have G7 := c4.out; have I4 := b8.out; have G6 := c0.out; obtain ⟨E3, E2, E1, E0, w6, w5, w4, w3⟩ := cz4 b2; obtain ⟨D9, D8, w2, w1⟩ := cz2 a0) | (go_at_call 61; (with_reducible refine (q4_Is.calls k2 _ _ a8 _ _ a7 ((rd_T75 a5 a1).f1) a3 true _ ?d0 ?c9 ?c8 ?c5 p4.out).mono ?_); (case d0 => exact Kd.C_below e6.out (bb HB)); (case c9 => exact e8.out); (case c8 => exact Kd.C_below e5.out (bb HB)); (case c5 => exact e7.out); rintro e L2 ⟨rfl, hb⟩; replace a0 := am (blk_below (g := g2) (o := .cells #[.slice e2 a8.length d9, .slice e1 a7.length d8] 31 (0, 0)) (bkF a0) hb); replace a6 := am (blk_below (g := g1) (o := .cells #[.slice e0 a9.length d7, .slice (some g3) a5.length d6] 46 (0, 0)) (bkF a6) hb); replace b2 := am (blk_below (g := g0) (o := .cells #[.int .i64 ((rd_T75 a5 a1).f0), .int .i64 ((rd_T75 a5 a1).f1), .int .i64 ((rd_T75 a5 a1).f2), .int .i64 ((rd_T75 a5 a1).f3)] 75 (0, 0)) (by (with_reducible repeat (first | refine dN ?_ _ | refine dR ?_ | refine dA ?_ _)); refine blk_put (cs := #[.int .i64 ((rd_T75 a5 a1).f0), .int .i64 ((rd_T75 a5 a1).f1), .int .i64 ((rd_T75 a5 a1).f2), .int .i64 0]) ?_ 3 _ rfl; refine blk_put (cs := #[.int .i64 ((rd_T75 a5 a1).f0), .int .i64 ((rd_T75 a5 a1).f1), .int .i64 0, .int .i64 0]) ?_ 2 _ rfl; refine blk_put (cs := #[.int .i64 ((rd_T75 a5 a1).f0), .int .i64 0, .int .i64 0, .int .i64 0]) ?_ 1 _ rfl; refine blk_put (cs := #[.int .i64 0, .int .i64 0, .int .i64 0, .int .i64 0]) ?_ 0 _ rfl; (with_reducible repeat (first | refine dN ?_ _ | refine dR ?_ | refine dA ?_ _)); exact b2.out) hb); replace HB := bstep HB hb; (try clear hb); (try clear hb2); (try clear hk); (try clear hi); obtain ⟨D7, D6, w0, v9⟩ := cz2 a0; obtain ⟨D5, D4, D3, D2, v8, v7, v6, v5⟩ := cz4 b2) | (go_at_call 61; (with_reducible refine (q4_Is.calls k2 _ _ a8 _ _ a7 ((rd_T75 a5 a1).f2) a4 true _ ?d0 ?c9 ?c8 ?c5 q3.out).mono ?_); (case d0 => exact cb e6 HB); (case c9 => exact e8.out); (case c8 => exact cb e5 HB); (case c5 => exact e7.out); rintro e L1 ⟨rfl, hb⟩; replace a0 := bkb a0 hb; replace a6 := bkb a6 hb; replace b2 := bkb b2 hb; replace HB := bstep HB hb; (try clear hb); (try clear hb2); (try clear hk); (try clear hi); obtain ⟨D1, D0, C9, C8, v4, v3, v2, v1⟩ := cz4 b2))
      go_roundg k2
      case measure => have := g9.out; have := g8.out; omega
      case rel => exact ⟨(wrap64 (e3 + ((rd_T75 a5 a1).f3))), (wrap64 (a1 + 1)), eqs, eqs, H', ⟨by have := g9.out; have := g8.out; omega⟩, ⟨bk a0⟩, ⟨bk a6⟩, ⟨bb HB⟩⟩
     replace o7 := Bool.eq_false_iff.mpr o7
     subst o7
     replace H := iff_ H
     have H' := am H
     clear H
     have I3 := b0.out
     have G5 := b1.out
     obtain ⟨C7, C6, v0, t9⟩ := cz2 a6
     have d2 : 0 ≤ a1 := odt
     have d1 : a1 < (a5.length : Int) := odt
     obtain ⟨g3, g6, b7, b6, b5, b4⟩ := at_T75 g4.out a1 d2 d1
     cases g6
     replace b7 := hxc HB b7
     replace b6 := hxc HB b6
     replace b5 := hxc HB b5
     replace b4 := hxc HB b4
     replace d2 := eq_true d2
     replace d1 := eq_true d1
     go_wp2_with (first | ((with_reducible refine gate_dst (N := 15) rfl ?_); (try (refine gate_guard (by rfl) ?_; dsimp only)); refine be 15 #[.int .i64 0, .int .i64 0, .int .i64 0, .int .i64 0] 75 ?_; intro g0 hg L0 hbox hb; have b2 := am (hbox); have n2 := bsz HB hg; replace HB := bstep HB hb; have c4 := blt a0 hg; have b9 := bgt a0 hg; replace a0 := bkb a0 hb; have c0 := blt a6 hg; have b8 := bgt a6 hg; replace a6 := bkb a6 hb; clear hb hbox hg; have I2 := b9.out; have G4 := c4.out; have I1 := b8.out; have G3 := c0.out; obtain ⟨C5, C4, C3, C2, t8, t7, t6, t5⟩ := cz4 b2; obtain ⟨C1, C0, t4, t3⟩ := cz2 a0) | (go_at_call 61; (with_reducible refine (q4_Is.calls k2 _ _ a8 _ _ a7 ((rd_T75 a5 a1).f1) a3 true _ ?d0 ?c9 ?c8 ?c5 p4.out).mono ?_); (case d0 => exact Kd.C_below e6.out (bb HB)); (case c9 => exact e8.out); (case c8 => exact Kd.C_below e5.out (bb HB)); (case c5 => exact e7.out); rintro e J9 ⟨rfl, hb⟩; replace a0 := am (blk_below (g := g2) (o := .cells #[.slice e2 a8.length d9, .slice e1 a7.length d8] 31 (0, 0)) (bkF a0) hb); replace a6 := am (blk_below (g := g1) (o := .cells #[.slice e0 a9.length d7, .slice (some g3) a5.length d6] 46 (0, 0)) (bkF a6) hb); replace b2 := am (blk_below (g := g0) (o := .cells #[.int .i64 ((rd_T75 a5 a1).f0), .int .i64 ((rd_T75 a5 a1).f1), .int .i64 ((rd_T75 a5 a1).f2), .int .i64 ((rd_T75 a5 a1).f3)] 75 (0, 0)) (by (with_reducible repeat (first | refine dN ?_ _ | refine dR ?_ | refine dA ?_ _)); refine blk_put (cs := #[.int .i64 ((rd_T75 a5 a1).f0), .int .i64 ((rd_T75 a5 a1).f1), .int .i64 ((rd_T75 a5 a1).f2), .int .i64 0]) ?_ 3 _ rfl; refine blk_put (cs := #[.int .i64 ((rd_T75 a5 a1).f0), .int .i64 ((rd_T75 a5 a1).f1), .int .i64 0, .int .i64 0]) ?_ 2 _ rfl; refine blk_put (cs := #[.int .i64 ((rd_T75 a5 a1).f0), .int .i64 0, .int .i64 0, .int .i64 0]) ?_ 1 _ rfl; refine blk_put (cs := #[.int .i64 0, .int .i64 0, .int .i64 0, .int .i64 0]) ?_ 0 _ rfl; (with_reducible repeat (first | refine dN ?_ _ | refine dR ?_ | refine dA ?_ _)); exact b2.out) hb); replace HB := bstep HB hb; (try clear hb); (try clear hb2); (try clear hk); (try clear hi); obtain ⟨A9, A8, t2, t1⟩ := cz2 a0; obtain ⟨A7, A5, A4, A3, t0, s9, s8, s7⟩ := cz4 b2) | (go_at_call 61; (with_reducible refine (q4_Is.calls k2 _ _ a8 _ _ a7 ((rd_T75 a5 a1).f2) a4 false _ ?d0 ?c9 ?c8 ?c5 q3.out).mono ?_); (case d0 => exact cb e6 HB); (case c9 => exact e8.out); (case c8 => exact cb e5 HB); (case c5 => exact e7.out); rintro e J8 ⟨rfl, hb⟩; replace a0 := bkb a0 hb; replace a6 := bkb a6 hb; replace b2 := bkb b2 hb; replace HB := bstep HB hb; (try clear hb); (try clear hb2); (try clear hk); (try clear hi)))
     go_roundg k2
     case measure => have := g9.out; have := g8.out; omega
     case rel => exact ⟨(e3), (wrap64 (a1 + 1)), eqs, eqs, H', ⟨by have := g9.out; have := g8.out; omega⟩, ⟨bk a0⟩, ⟨bk a6⟩, ⟨bb HB⟩⟩
end Go.Proofs.YtfpianecohobjaaGreat.P
