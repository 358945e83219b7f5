/- StatisticOf: a part of its proof. No condition. -/
import Derived.Test.YtfpianecohobjaaGreatZPx0
import Derived.Test.YtfpianecohobjaaGreatZPx28
import Derived.Test.YtfpianecohobjaaGreatZMe
import Derived.Test.YtfpianecohobjaaGreatZPx44
namespace Go.Proofs.YtfpianecohobjaaGreat.P
open Go.RowKit Go.Proofs.YtfpianecohobjaaGreatW.PrintWords Go.Proofs.YtfpianecohobjaaGreatW.PrintLast Go.Proofs.YtfpianecohobjaaGreatW.PrintMore
set_option linter.unusedVariables false
set_option linter.unusedSimpArgs false
mutual
def scarfjointref18_Typed.l0 : Nat → Int → List (S96) → List (S101) → List Int → List (S56) → Option (Int)
 | 0, _, _, _, _, _ => none
 | k + 1, x8, e1, e0, b2, b1 => if x8 < (b2.length : Int) then (if 0 ≤ x8 then (if (rd b2 x8) ≥ (e1.length : Int) then (some 6) else (scarfjointref18_Typed.l0 k (wrap64 (x8 + 1)) e1 e0 b2 b1)) else (none)) else (scarfjointref18_Typed.l1 k 0 e1 e0 b2 b1)
def scarfjointref18_Typed.l1 : Nat → Int → List (S96) → List (S101) → List Int → List (S56) → Option (Int)
 | 0, _, _, _, _, _ => none
 | k + 1, x9, e1, e0, b2, b1 => if x9 < (b1.length : Int) then (if 0 ≤ x9 then (if ((rd_T56 b1 x9).f0) ≥ (e0.length : Int) then (some 6) else (if 0 ≤ ((rd_T56 b1 x9).f1) then (if ((rd_T56 b1 x9).f1) < (b2.length : Int) then (if 0 ≤ ((rd_T56 b1 x9).f2) then (if ((rd_T56 b1 x9).f2) < (b2.length : Int) then ((q4_Fits.f k e1 e0 ((rd_T56 b1 x9).f0) (rd b2 ((rd_T56 b1 x9).f1)) (rd b2 ((rd_T56 b1 x9).f2))).bind fun j7 => (if j7 = true then (scarfjointref18_Typed.l1 k (wrap64 (x9 + 1)) e1 e0 b2 b1) else (some 13))) else (none)) else (none)) else (none)) else (none))) else (none)) else (some 0)
end
def scarfjointref18_Typed.f (k : Nat) (a8 : List (S96)) (a7 : List (S101)) (a4 : List Int) (a0 : List (S56)) : Option (Int) := (q4_Valid.f k a8 a7).bind fun g6 => (if g6.2 = 0 then ((q5_Valid.f k a4 a0).bind fun d8 => (if d8 = 0 then (scarfjointref18_Typed.l0 k 0 a8 a7 a4 a0) else (some d8))) else (some g6.2))
def scarfjointref18_Typed.T10 : Bool × List (List Nat × List Nat) := (true, [([], []), ([0], [0]), ([], []), ([1, 2], [1, 2]), ([3], [3]), ([], []), ([5], [5]), ([6], [6]), ([4, 7], [4, 7])])
def scarfjointref18_Typed.B10 : List Nat := [0, 1, 0, 7, 15, 0, 32, 96, 255]
theorem scarfjointref18_Typed.tab10 : rtab .any (opsOf Tryz.f55 10) = scarfjointref18_Typed.T10 := by kernel_rfl
theorem scarfjointref18_Typed.bits10 : waitsOk scarfjointref18_Typed.T10.2 scarfjointref18_Typed.B10 = true := by kernel_rfl
def scarfjointref18_Typed.T18 : Bool × List (List Nat × List Nat) := (true, [([], []), ([], []), ([1], [1]), ([], []), ([3], [3]), ([], []), ([5], [5]), ([4, 6], [4, 6]), ([7], [7]), ([], []), ([9], [9]), ([], []), ([11], [11]), ([10, 12], [10, 12]), ([13], [13]), ([0, 2, 8, 14], [0, 2, 8, 14]), ([15], [15])])
def scarfjointref18_Typed.B18 : List Nat := [0, 0, 2, 0, 8, 0, 32, 120, 248, 0, 512, 0, 2048, 7680, 15872, 32767, 65535]
theorem scarfjointref18_Typed.tab18 : rtab .any (opsOf Tryz.f55 18) = scarfjointref18_Typed.T18 := by kernel_rfl
theorem scarfjointref18_Typed.bits18 : waitsOk scarfjointref18_Typed.T18.2 scarfjointref18_Typed.B18 = true := by kernel_rfl
set_option maxHeartbeats 8000000 in
set_option maxRecDepth 100000 in
theorem scarfjointref18_Typed.calls (k : Nat) (b7 : Option Addr) (b5 : Nat) (a8 : List (S96)) (b6 : Option Addr) (b4 : Nat) (a7 : List (S101)) (e5 : Option Addr) (d0 : Nat) (a4 : List Int) (e4 : Option Addr) (c9 : Nat) (a0 : List (S56)) (r : Int) (w : World) (m5 : Kd.C k96 w b7 a8.length a8) (m9 : a8.length ≤ b5) (m4 : Kd.C k101 w b6 a7.length a7) (m8 : a7.length ≤ b4) (m3 : Kd.C (Kd.int .i64) w e5 a4.length a4) (m7 : a4.length ≤ d0) (m2 : Kd.C k56 w e4 a0.length a0) (m6 : a0.length ≤ c9) (h : scarfjointref18_Typed.f k a8 a7 a4 a0 = some r) :
  Calls Tryz.prog 55 #[.agg #[.slice b7 a8.length b5, .slice b6 a7.length b4], .agg #[.slice e5 a4.length d0, .slice e4 a0.length c9]] w fun e w' => e = .returned (.int .i64 r) ∧ Below w.heap.size w w' := by
 have hu31 := Tryz.underlying31
 have hu35 := Tryz.underlying35
 have hu56 := Tryz.underlying56
 have h0 := Aside0.mk m5
 have h2 := Aside0.mk m9
 clear m5 m9
 have g9 := Aside0.mk m4
 have h1 := Aside0.mk m8
 clear m4 m8
 have e6 := Aside0.mk m3
 have n4 := Aside0.mk m7
 clear m3 m7
 have g8 := Aside0.mk m2
 have n3 := Aside0.mk m6
 clear m2 m6
 have HB := Aside0.mk (Below.refl w.heap.size w)
 have H : ((q4_Valid.f k a8 a7).bind fun g6 => (if g6.2 = 0 then ((q5_Valid.f k a4 a0).bind fun d8 => (if d8 = 0 then (scarfjointref18_Typed.l0 k 0 a8 a7 a4 a0) else (some d8))) else (some g6.2))) = some r := h
 clear h
 obtain ⟨⟨j8, h3⟩, A3, H⟩ := obA H
 replace H : (if h3 = 0 then ((q5_Valid.f k a4 a0).bind fun d8 => (if d8 = 0 then (scarfjointref18_Typed.l0 k 0 a8 a7 a4 a0) else (some d8))) else (some h3)) = some r := H
 by_cases c4 : h3 = 0
 rotate_left
 ·rw [if_neg c4] at H
  have p3 := beq_eq_false_iff_ne.mpr c4
  have p2 := bne_iff_ne.mpr c4
  obtain rfl := Option.some.inj H
  go_enter Tryz.func55, Tryz.ntmps55
  go_wp2_with (first | ((with_reducible refine gate_dst (N := 2) rfl ?_); refine be 2 #[.slice b7 a8.length b5, .slice b6 a7.length b4] 31 ?_; intro b9 hg G3 hbox hb; have a1 := Aside0.mk (hbox); have n7 := bsz HB hg; replace HB := bstep HB hb; clear hb hbox hg) | ((with_reducible refine gate_dst (N := 3) rfl ?_); refine be 3 #[.slice e5 a4.length d0, .slice e4 a0.length c9] 35 ?_; intro b8 hg G2 hbox hb; have a3 := Aside0.mk (hbox); have n6 := bsz HB hg; replace HB := bstep HB hb; have b0 := blt a1 hg; have a9 := bgt a1 hg; replace a1 := bkb a1 hb; clear hb hbox hg; have D8 := b0.out; have C3 := a9.out; obtain ⟨w0, v7, q6, q5⟩ := cz2 a1) | ((with_reducible refine gate_callee (f := 62) rfl ?_); refine gl 13 Tryz.func62 #[.agg #[.slice b7 a8.length b5, .slice b6 a7.length b4]] (h := ?_); (with_reducible refine (q4_Valid.calls k _ _ a8 _ _ a7 j8 h3 _ ?c3 ?c2 ?c1 ?c0 A3.out).mono ?_); (case c3 => exact cb h0 HB); (case c2 => exact h2.out); (case c1 => exact cb g9 HB); (case c0 => exact h1.out); rintro e G1 ⟨rfl, hb⟩; refine ⟨_, rfl, ?_⟩; replace a1 := bkb a1 hb; replace a3 := bkb a3 hb; replace HB := bstep HB hb; (try clear hb); (try clear hb2); (try clear hk); (try clear hi)))
  go_ret
  exact ⟨erf, bb HB⟩
 rw [if_pos c4] at H
 have p3 := beq_iff_eq.mpr c4
 have p2 := bne_eq_false_iff_eq.mpr c4
 clear c4
 obtain ⟨d8, A5, H⟩ := obA H
 by_cases c6 : d8 = 0
 rotate_left
 ·rw [if_neg c6] at H
  have p1 := beq_eq_false_iff_ne.mpr c6
  have p0 := bne_iff_ne.mpr c6
  obtain rfl := Option.some.inj H
  go_enter Tryz.func55, Tryz.ntmps55
  go_wp2_with (first | ((with_reducible refine gate_dst (N := 2) rfl ?_); refine be 2 #[.slice b7 a8.length b5, .slice b6 a7.length b4] 31 ?_; intro b9 hg G7 hbox hb; have a1 := Aside0.mk (hbox); have n7 := bsz HB hg; replace HB := bstep HB hb; clear hb hbox hg) | ((with_reducible refine gate_dst (N := 3) rfl ?_); refine be 3 #[.slice e5 a4.length d0, .slice e4 a0.length c9] 35 ?_; intro b8 hg G6 hbox hb; have a3 := Aside0.mk (hbox); have n6 := bsz HB hg; replace HB := bstep HB hb; have b0 := blt a1 hg; have a9 := bgt a1 hg; replace a1 := bkb a1 hb; clear hb hbox hg; have D9 := b0.out; have C4 := a9.out; obtain ⟨w4, w3, r0, q9⟩ := cz2 a1) | ((with_reducible refine gate_callee (f := 62) rfl ?_); refine gl 13 Tryz.func62 #[.agg #[.slice b7 a8.length b5, .slice b6 a7.length b4]] (h := ?_); (with_reducible refine (q4_Valid.calls k _ _ a8 _ _ a7 j8 h3 _ ?c3 ?c2 ?c1 ?c0 A3.out).mono ?_); (case c3 => exact cb h0 HB); (case c2 => exact h2.out); (case c1 => exact cb g9 HB); (case c0 => exact h1.out); rintro e G5 ⟨rfl, hb⟩; refine ⟨_, rfl, ?_⟩; replace a1 := bkb a1 hb; replace a3 := bkb a3 hb; replace HB := bstep HB hb; (try clear hb); (try clear hb2); (try clear hk); (try clear hi); obtain ⟨w2, w1, q8, q7⟩ := cz2 a3) | ((with_reducible refine gate_callee (f := 82) rfl ?_); refine gl 20 Tryz.func82 #[.agg #[.slice e5 a4.length d0, .slice e4 a0.length c9]] (h := ?_); (with_reducible refine (q5_Valid.calls k _ _ a4 _ _ a0 d8 _ ?c3 ?c2 ?c1 ?c0 A5.out).mono ?_); (case c3 => exact cb e6 HB); (case c2 => exact n4.out); (case c1 => exact cb g8 HB); (case c0 => exact n3.out); rintro e G4 ⟨rfl, hb⟩; refine ⟨_, rfl, ?_⟩; replace a1 := bkb a1 hb; replace a3 := bkb a3 hb; replace HB := bstep HB hb; (try clear hb); (try clear hb2); (try clear hk); (try clear hi)))
  go_ret
  exact ⟨erf, bb HB⟩
 rw [if_pos c6] at H
 have p1 := beq_iff_eq.mpr c6
 have p0 := bne_eq_false_iff_eq.mpr c6
 clear c6
 have H' := Aside0.mk H
 clear H
 go_enter Tryz.func55, Tryz.ntmps55
 go_wp2_with (first | ((with_reducible refine gate_dst (N := 2) rfl ?_); refine be 2 #[.slice b7 a8.length b5, .slice b6 a7.length b4] 31 ?_; intro b9 hg w7 hbox hb; have a1 := Aside0.mk (hbox); have n7 := bsz HB hg; replace HB := bstep HB hb; clear hb hbox hg) | ((with_reducible refine gate_dst (N := 3) rfl ?_); refine be 3 #[.slice e5 a4.length d0, .slice e4 a0.length c9] 35 ?_; intro b8 hg w8 hbox hb; have a3 := Aside0.mk (hbox); have n6 := bsz HB hg; replace HB := bstep HB hb; have b0 := blt a1 hg; have a9 := bgt a1 hg; replace a1 := bkb a1 hb; clear hb hbox hg; have G0 := b0.out; have F9 := a9.out; obtain ⟨o9, o8, o3, o2⟩ := cz2 a1) | ((with_reducible refine gate_callee (f := 62) rfl ?_); refine gl 13 Tryz.func62 #[.agg #[.slice b7 a8.length b5, .slice b6 a7.length b4]] (h := ?_); (with_reducible refine (q4_Valid.calls k _ _ a8 _ _ a7 j8 h3 _ ?c3 ?c2 ?c1 ?c0 A3.out).mono ?_); (case c3 => exact cb h0 HB); (case c2 => exact h2.out); (case c1 => exact cb g9 HB); (case c0 => exact h1.out); rintro e H6 ⟨rfl, hb⟩; refine ⟨_, rfl, ?_⟩; replace a1 := bkb a1 hb; replace a3 := bkb a3 hb; replace HB := bstep HB hb; (try clear hb); (try clear hb2); (try clear hk); (try clear hi); obtain ⟨o7, o6, o1, o0⟩ := cz2 a3) | ((with_reducible refine gate_callee (f := 82) rfl ?_); refine gl 20 Tryz.func82 #[.agg #[.slice e5 a4.length d0, .slice e4 a0.length c9]] (h := ?_); (with_reducible refine (q5_Valid.calls k _ _ a4 _ _ a0 d8 _ ?c3 ?c2 ?c1 ?c0 A5.out).mono ?_); (case c3 => exact cb e6 HB); (case c2 => exact n4.out); (case c1 => exact cb g8 HB); (case c0 => exact n3.out); rintro e H5 ⟨rfl, hb⟩; refine ⟨_, rfl, ?_⟩; replace a1 := bkb a1 hb; replace a3 := bkb a3 hb; replace HB := bstep HB hb; (try clear hb); (try clear hb2); (try clear hk); (try clear hi)))
 go_loopg [8] k (fun kq v8 w' => ∃ (b3 : Int), v8 = .int .i64 b3 ∧ Aside0 (scarfjointref18_Typed.l0 kq b3 a8 a7 a4 a0 = some r) ∧ Aside0 (kq ≤ k) ∧ Aside0 (w'.heap[b9]? = some (.cells #[(.slice b7 a8.length b5), (.slice b6 a7.length b4)] 31 (0, 0))) ∧ Aside0 (w'.heap[b8]? = some (.cells #[(.slice e5 a4.length d0), (.slice e4 a0.length c9)] 35 (0, 0))) ∧ Aside0 (Below w.heap.size w w'))
 case atStart => exact ⟨(0), eqs, H', ⟨Nat.le_refl _⟩, ⟨bk a1⟩, ⟨bk a3⟩, ⟨bb HB⟩⟩
 case round =>
  clear H'
  clear p3
  clear p2
  clear p1
  clear p0
  clear o9
  clear o8
  clear o7
  clear o6
  clear o3
  clear o2
  clear o1
  clear o0
  obtain ⟨b3, rfl, HA, n2, a1, a3, HB⟩ := hrel
  cases gk with
  | zero => exact absurd HA.out (by simp [scarfjointref18_Typed.l0])
  | succ k1 =>
   have H := HA.out
   clear HA
   simp only [scarfjointref18_Typed.l0] at H
   by_cases j3 : b3 < (a4.length : Int)
   ·rw [if_pos j3] at H
    have n1 := decide_eq_true j3
    clear j3
    obtain ⟨q2, H⟩ := itn H
    have F8 := decide_eq_true q2
    clear q2
    by_cases j2 : (rd a4 b3) ≥ (a8.length : Int)
    ·rw [if_pos j2] at H
     have p6 : decide ((a8.length : Int) ≤ (rd a4 b3)) = true := decide_eq_true j2
     clear j2
     obtain rfl := Option.some.inj H
     have F2 := a9.out
     have D7 := b0.out
     obtain ⟨C0, A9, v6, v5⟩ := cz2 a3
     try go_wp2
     replace a1 := Aside0.mk (blk_drew a1.out)
     replace a3 := Aside0.mk (blk_drew a3.out)
     replace HB := Aside0.mk (below_drew1 HB.out)
     have g5 : 0 ≤ b3 := odt
     have g2 : b3 < (a4.length : Int) := odt
     obtain ⟨g7, m1, c8⟩ := Kd.at_int e6.out b3 g5 g2
     have h4 := c8
     cases m1
     replace c8 := hxc HB c8
     replace g5 := eq_true g5
     replace g2 := eq_true g2
     refine start_ (n := 9) (S := fun w' => w'.cell? ⟨b8, 0, none⟩ = some (.slice (some g7) a4.length d0) ∧ w'.cell? ⟨b8, 1, none⟩ = some (.slice e4 a0.length c9) ∧ w'.cell? ⟨b9, 0, none⟩ = some (.slice b7 a8.length b5) ∧ w'.cell? ⟨b9, 1, none⟩ = some (.slice b6 a7.length b4) ∧ w'.cell? (g7.add (b3).toNat) = some (.int .i64 (rd a4 b3))) (ds := []) #[false, false, false, false, false, false, false, false, false] (by kernel_rfl) rfl rfl ⟨bc a3 0, bc a3 1, bc a1 0, bc a1 1, (hxc HB h4)⟩ (fun hHeld => ?_); refine with_tabW scarfjointref18_Typed.tab10 scarfjointref18_Typed.bits10 (fun HT_ HW_ => ?_)
     generalize wr.drew = H4 at a1 a3 HB c8 hHeld ⊢
     refine pu 0 31 (bits 9 0x1) HT_ (h := ?_)
     refine pu 2 33 (bits 9 0x5) HT_ (h := ?_)
     refine pu 5 36 (bits 9 0x25) HT_ (h := ?_)
     refine tk 1 32 (bits 9 0x27) HT_ HW_ hHeld (hy := by rintro w' ⟨s0, s1, s2, s3, s4⟩; go_simp; with_reducible rfl) (h := ?_)
     refine pu 3 34 (bits 9 0x2f) HT_ (h := ?_)
     refine tk 4 35 (bits 9 0x3f) HT_ HW_ hHeld (hy := by rintro w' ⟨s0, s1, s2, s3, s4⟩; go_simp; with_reducible rfl) (h := ?_)
     refine tk 6 37 (bits 9 0x7f) HT_ HW_ hHeld (hy := by rintro w' ⟨s0, s1, s2, s3, s4⟩; go_simp; with_reducible rfl) (h := ?_)
     refine pu 7 38 (bits 9 0xff) HT_ (h := ?_)
     refine pu 8 39 (bits 9 0x1ff) HT_ (h := ?_)
     refine done_ (done_of HT_.out (by kernel_rfl)) ?_
     try go_wp2
     go_ret
     exact ⟨erf, bb HB⟩
    rw [if_neg j2] at H
    have p6 : decide ((a8.length : Int) ≤ (rd a4 b3)) = false := decide_eq_false j2
    clear j2
    have H' := Aside0.mk H
    clear H
    have F1 := a9.out
    have D6 := b0.out
    obtain ⟨A8, A7, v4, v3⟩ := cz2 a3
    try go_wp2
    replace a1 := Aside0.mk (blk_drew a1.out)
    replace a3 := Aside0.mk (blk_drew a3.out)
    replace HB := Aside0.mk (below_drew1 HB.out)
    have g5 : 0 ≤ b3 := odt
    have g2 : b3 < (a4.length : Int) := odt
    obtain ⟨g7, m1, c8⟩ := Kd.at_int e6.out b3 g5 g2
    have h4 := c8
    cases m1
    replace c8 := hxc HB c8
    replace g5 := eq_true g5
    replace g2 := eq_true g2
    refine start_ (n := 9) (S := fun w' => w'.cell? ⟨b8, 0, none⟩ = some (.slice (some g7) a4.length d0) ∧ w'.cell? ⟨b8, 1, none⟩ = some (.slice e4 a0.length c9) ∧ w'.cell? ⟨b9, 0, none⟩ = some (.slice b7 a8.length b5) ∧ w'.cell? ⟨b9, 1, none⟩ = some (.slice b6 a7.length b4) ∧ w'.cell? (g7.add (b3).toNat) = some (.int .i64 (rd a4 b3))) (ds := []) #[false, false, false, false, false, false, false, false, false] (by kernel_rfl) rfl rfl ⟨bc a3 0, bc a3 1, bc a1 0, bc a1 1, (hxc HB h4)⟩ (fun hHeld => ?_); refine with_tabW scarfjointref18_Typed.tab10 scarfjointref18_Typed.bits10 (fun HT_ HW_ => ?_)
    generalize wr.drew = H3 at a1 a3 HB c8 hHeld ⊢
    refine pu 0 31 (bits 9 0x1) HT_ (h := ?_)
    refine pu 2 33 (bits 9 0x5) HT_ (h := ?_)
    refine pu 5 36 (bits 9 0x25) HT_ (h := ?_)
    refine tk 1 32 (bits 9 0x27) HT_ HW_ hHeld (hy := by rintro w' ⟨s0, s1, s2, s3, s4⟩; go_simp; with_reducible rfl) (h := ?_)
    refine pu 3 34 (bits 9 0x2f) HT_ (h := ?_)
    refine tk 4 35 (bits 9 0x3f) HT_ HW_ hHeld (hy := by rintro w' ⟨s0, s1, s2, s3, s4⟩; go_simp; with_reducible rfl) (h := ?_)
    refine tk 6 37 (bits 9 0x7f) HT_ HW_ hHeld (hy := by rintro w' ⟨s0, s1, s2, s3, s4⟩; go_simp; with_reducible rfl) (h := ?_)
    refine pu 7 38 (bits 9 0xff) HT_ (h := ?_)
    refine pu 8 39 (bits 9 0x1ff) HT_ (h := ?_)
    refine done_ (done_of HT_.out (by kernel_rfl)) ?_
    try go_wp2
    go_roundg k1
    case measure => have := n2.out; omega
    case rel => exact ⟨(wrap64 (b3 + 1)), eqs, H', ⟨by have := n2.out; omega⟩, ⟨bk a1⟩, ⟨bk a3⟩, ⟨bb HB⟩⟩
   rw [if_neg j3] at H
   have n1 := decide_eq_false j3
   clear j3
   have H' := Aside0.mk H
   clear H
   have F0 := a9.out
   have D5 := b0.out
   obtain ⟨o5, o4, n9, n8⟩ := cz2 a3
   go_wp2
   go_loopg [9] k1 (fun kq v9 w' => ∃ (a2 : Int), v9 = .int .i64 a2 ∧ Aside0 (scarfjointref18_Typed.l1 kq a2 a8 a7 a4 a0 = some r) ∧ Aside0 (kq ≤ k1) ∧ Aside0 (w'.heap[b9]? = some (.cells #[(.slice b7 a8.length b5), (.slice b6 a7.length b4)] 31 (0, 0))) ∧ Aside0 (w'.heap[b8]? = some (.cells #[(.slice e5 a4.length d0), (.slice e4 a0.length c9)] 35 (0, 0))) ∧ Aside0 (Below w.heap.size w w'))
   case atStart => exact ⟨(0), eqs, H', ⟨Nat.le_refl _⟩, ⟨bk a1⟩, ⟨bk a3⟩, ⟨bb HB⟩⟩
   case round =>
    clear H'
    clear n1
    clear o5
    clear o4
    clear n9
    clear n8
    obtain ⟨a2, rfl, HA, q3, a1, a3, HB⟩ := hrel
    cases gk with
    | zero => exact absurd HA.out (by simp [scarfjointref18_Typed.l1])
    | succ k2 =>
     have H := HA.out
     clear HA
     simp only [scarfjointref18_Typed.l1] at H
     by_cases j1 : a2 < (a0.length : Int)
     rotate_left
     ·rw [if_neg j1] at H
      have p5 := decide_eq_false j1
      clear j1
      obtain rfl := Option.some.inj H
      have E0 := a9.out
      have C5 := b0.out
      obtain ⟨w6, w5, r2, r1⟩ := cz2 a3
      go_wp2
      go_ret
      exact ⟨erf, bb HB⟩
     rw [if_pos j1] at H
     have p5 := decide_eq_true j1
     clear j1
     obtain ⟨q1, H⟩ := itn H
     have F7 := decide_eq_true q1
     clear q1
     by_cases j0 : ((rd_T56 a0 a2).f0) ≥ (a7.length : Int)
     ·rw [if_pos j0] at H
      have p4 : decide ((a7.length : Int) ≤ ((rd_T56 a0 a2).f0)) = true := decide_eq_true j0
      clear j0
      obtain rfl := Option.some.inj H
      have E9 := a9.out
      have D4 := b0.out
      obtain ⟨A6, A4, v2, v1⟩ := cz2 a3
      have e3 : 0 ≤ a2 := odt
      have e2 : a2 < (a0.length : Int) := odt
      obtain ⟨e9, h9, d3, d2, d1⟩ := at_T56 g8.out a2 e3 e2
      cases h9
      replace d3 := hxc HB d3
      replace d2 := hxc HB d2
      replace d1 := hxc HB d1
      replace e3 := eq_true e3
      replace e2 := eq_true e2
      go_wp2_with ((with_reducible refine gate_dst (N := 10) rfl ?_); refine be 10 #[.int .i64 0, .int .i64 0, .int .i64 0] 56 ?_; intro a5 hg H2 hbox hb; have a6 := Aside0.mk (hbox); have n5 := bsz HB hg; replace HB := bstep HB hb; have d7 := blt a1 hg; have d5 := bgt a1 hg; replace a1 := bkb a1 hb; have d6 := blt a3 hg; have d4 := bgt a3 hg; replace a3 := bkb a3 hb; clear hb hbox hg; have E8 := d5.out; have D3 := d7.out; have E7 := d4.out; have D2 := d6.out; obtain ⟨A2, A1, A0, v0, t9, t8⟩ := cz3 a6; obtain ⟨y9, y8, t7, t6⟩ := cz2 a1)
      go_ret
      exact ⟨erf, bb HB⟩
     rw [if_neg j0] at H
     have p4 : decide ((a7.length : Int) ≤ ((rd_T56 a0 a2).f0)) = false := decide_eq_false j0
     clear j0
     obtain ⟨q0, H⟩ := itn H
     have F6 := decide_eq_true q0
     clear q0
     obtain ⟨p9, H⟩ := itn H
     have F5 := decide_eq_true p9
     clear p9
     obtain ⟨p8, H⟩ := itn H
     have F4 := decide_eq_true p8
     clear p8
     obtain ⟨p7, H⟩ := itn H
     have F3 := decide_eq_true p7
     clear p7
     obtain ⟨j7, q4, H⟩ := obA H
     by_cases n0 : j7 = true
     rotate_left
     ·replace n0 := Bool.eq_false_iff.mpr n0
      subst n0
      replace H := iff_ H
      obtain rfl := Option.some.inj H
      have E3 := a9.out
      have C8 := b0.out
      obtain ⟨y0, x7, r9, r8⟩ := cz2 a3
      have e3 : 0 ≤ a2 := odt
      have e2 : a2 < (a0.length : Int) := odt
      obtain ⟨e9, h9, d3, d2, d1⟩ := at_T56 g8.out a2 e3 e2
      cases h9
      replace d3 := hxc HB d3
      replace d2 := hxc HB d2
      replace d1 := hxc HB d1
      replace e3 := eq_true e3
      replace e2 := eq_true e2
      try go_wp2_with ((with_reducible refine gate_dst (N := 10) rfl ?_); refine be 10 #[.int .i64 0, .int .i64 0, .int .i64 0] 56 ?_; intro a5 hg j5 hbox hb; have a6 := Aside0.mk (hbox); have n5 := bsz HB hg; replace HB := bstep HB hb; have d7 := blt a1 hg; have d5 := bgt a1 hg; replace a1 := bkb a1 hb; have d6 := blt a3 hg; have d4 := bgt a3 hg; replace a3 := bkb a3 hb; clear hb hbox hg; have E2 := d5.out; have C7 := d7.out; have E1 := d4.out; have C6 := d6.out; obtain ⟨x6, x4, x3, r7, r6, r5⟩ := cz3 a6; obtain ⟨x0, w9, r4, r3⟩ := cz2 a1)
      have h8 : Aside0 ((((j5.setCell ⟨a5, 0, none⟩ (.int .i64 ((rd_T56 a0 a2).f0))).setCell ⟨a5, 1, none⟩ (.int .i64 ((rd_T56 a0 a2).f1))).setCell ⟨a5, 2, none⟩ (.int .i64 ((rd_T56 a0 a2).f2))).heap[b9]? = some (.cells #[.slice b7 a8.length b5, .slice b6 a7.length b4] 31 (0, 0))) := ⟨bkF a1⟩
      have h7 : Aside0 ((((j5.setCell ⟨a5, 0, none⟩ (.int .i64 ((rd_T56 a0 a2).f0))).setCell ⟨a5, 1, none⟩ (.int .i64 ((rd_T56 a0 a2).f1))).setCell ⟨a5, 2, none⟩ (.int .i64 ((rd_T56 a0 a2).f2))).heap[b8]? = some (.cells #[.slice e5 a4.length d0, .slice (some e9) a0.length c9] 35 (0, 0))) := ⟨bkF a3⟩
      have h6 : Aside0 ((((j5.setCell ⟨a5, 0, none⟩ (.int .i64 ((rd_T56 a0 a2).f0))).setCell ⟨a5, 1, none⟩ (.int .i64 ((rd_T56 a0 a2).f1))).setCell ⟨a5, 2, none⟩ (.int .i64 ((rd_T56 a0 a2).f2))).heap[a5]? = some (.cells #[.int .i64 ((rd_T56 a0 a2).f0), .int .i64 ((rd_T56 a0 a2).f1), .int .i64 ((rd_T56 a0 a2).f2)] 56 (0, 0))) := ⟨by (with_reducible repeat (first | refine dN ?_ _ | refine dR ?_ | refine dA ?_ _)); refine blk_put (cs := #[.int .i64 ((rd_T56 a0 a2).f0), .int .i64 ((rd_T56 a0 a2).f1), .int .i64 0]) ?_ 2 _ rfl; refine blk_put (cs := #[.int .i64 ((rd_T56 a0 a2).f0), .int .i64 0, .int .i64 0]) ?_ 1 _ rfl; refine blk_put (cs := #[.int .i64 0, .int .i64 0, .int .i64 0]) ?_ 0 _ rfl; (with_reducible repeat (first | refine dN ?_ _ | refine dR ?_ | refine dA ?_ _)); exact a6.out⟩
      have h5 : Aside0 (Below w.heap.size w (((j5.setCell ⟨a5, 0, none⟩ (.int .i64 ((rd_T56 a0 a2).f0))).setCell ⟨a5, 1, none⟩ (.int .i64 ((rd_T56 a0 a2).f1))).setCell ⟨a5, 2, none⟩ (.int .i64 ((rd_T56 a0 a2).f2)))) := ⟨bb HB⟩
      clear a1
      clear a3
      clear a6
      clear HB
      generalize (((j5.setCell ⟨a5, 0, none⟩ (.int .i64 ((rd_T56 a0 a2).f0))).setCell ⟨a5, 1, none⟩ (.int .i64 ((rd_T56 a0 a2).f1))).setCell ⟨a5, 2, none⟩ (.int .i64 ((rd_T56 a0 a2).f2))) = C1 at h8 h7 h6 h5 ⊢
      have a1 := h8
      have a3 := h7
      have a6 := h6
      have HB := h5
      clear h8 h7 h6 h5
      replace a1 := Aside0.mk (blk_drew a1.out)
      replace a3 := Aside0.mk (blk_drew a3.out)
      replace a6 := Aside0.mk (blk_drew a6.out)
      replace HB := Aside0.mk (below_drew1 HB.out)
      have g4 : 0 ≤ (((rd_T56 a0 a2).f1) : Int) := odt
      have g1 : ((rd_T56 a0 a2).f1) < (a4.length : Int) := odt
      obtain ⟨d9, m0, c7⟩ := Kd.at_int e6.out ((rd_T56 a0 a2).f1) g4 g1
      have e8 := c7
      cases m0
      replace c7 := hxc HB c7
      replace g4 := eq_true g4
      replace g1 := eq_true g1
      have g3 : 0 ≤ (((rd_T56 a0 a2).f2) : Int) := odt
      have g0 : ((rd_T56 a0 a2).f2) < (a4.length : Int) := odt
      obtain ⟨j4, j9, c5⟩ := Kd.at_int e6.out ((rd_T56 a0 a2).f2) g3 g0
      have e7 := c5
      obtain rfl : d9 = j4 := (by injection j9)
      replace c5 := hxc HB c5
      replace g3 := eq_true g3
      replace g0 := eq_true g0
      refine start_ (n := 17) (S := fun w' => w'.cell? ⟨b9, 0, none⟩ = some (.slice b7 a8.length b5) ∧ w'.cell? ⟨b9, 1, none⟩ = some (.slice b6 a7.length b4) ∧ w'.cell? ⟨a5, 0, none⟩ = some (.int .i64 ((rd_T56 a0 a2).f0)) ∧ w'.cell? ⟨a5, 1, none⟩ = some (.int .i64 ((rd_T56 a0 a2).f1)) ∧ w'.cell? ⟨a5, 2, none⟩ = some (.int .i64 ((rd_T56 a0 a2).f2)) ∧ w'.cell? ⟨b8, 0, none⟩ = some (.slice (some d9) a4.length d0) ∧ w'.cell? ⟨b8, 1, none⟩ = some (.slice (some e9) a0.length c9) ∧ w'.cell? (d9.add (((rd_T56 a0 a2).f1)).toNat) = some (.int .i64 (rd a4 ((rd_T56 a0 a2).f1))) ∧ w'.cell? (d9.add (((rd_T56 a0 a2).f2)).toNat) = some (.int .i64 (rd a4 ((rd_T56 a0 a2).f2)))) (ds := []) #[false, false, false, false, false, false, false, false, false, false, false, false, false, false, false, false, false] (by kernel_rfl) rfl rfl ⟨bc a1 0, bc a1 1, bc a6 0, bc a6 1, bc a6 2, bc a3 0, bc a3 1, (hxc HB e8), (hxc HB e7)⟩ (fun hHeld => ?_); refine with_tabW scarfjointref18_Typed.tab18 scarfjointref18_Typed.bits18 (fun HT_ HW_ => ?_)
      generalize C1.drew = G9 at a1 a3 a6 HB c7 c5 hHeld ⊢
      refine pu 1 59 (bits 17 0x2) HT_ (h := ?_)
      refine pu 3 61 (bits 17 0xa) HT_ (h := ?_)
      refine pu 5 63 (bits 17 0x2a) HT_ (h := ?_)
      refine pu 9 67 (bits 17 0x22a) HT_ (h := ?_)
      refine pu 11 69 (bits 17 0xa2a) HT_ (h := ?_)
      refine tk 0 58 (bits 17 0xa2b) HT_ HW_ hHeld (hy := by rintro w' ⟨s0, s1, s2, s3, s4, s5, s6, s7, s8⟩; go_simp; with_reducible rfl) (h := ?_)
      refine tk 2 60 (bits 17 0xa2f) HT_ HW_ hHeld (hy := by rintro w' ⟨s0, s1, s2, s3, s4, s5, s6, s7, s8⟩; go_simp; with_reducible rfl) (h := ?_)
      refine tk 4 62 (bits 17 0xa3f) HT_ HW_ hHeld (hy := by rintro w' ⟨s0, s1, s2, s3, s4, s5, s6, s7, s8⟩; go_simp; with_reducible rfl) (h := ?_)
      refine tk 6 64 (bits 17 0xa7f) HT_ HW_ hHeld (hy := by rintro w' ⟨s0, s1, s2, s3, s4, s5, s6, s7, s8⟩; go_simp; with_reducible rfl) (h := ?_)
      refine pu 7 65 (bits 17 0xaff) HT_ (h := ?_)
      refine tk 8 66 (bits 17 0xbff) HT_ HW_ hHeld (hy := by rintro w' ⟨s0, s1, s2, s3, s4, s5, s6, s7, s8⟩; go_simp; with_reducible rfl) (h := ?_)
      refine tk 10 68 (bits 17 0xfff) HT_ HW_ hHeld (hy := by rintro w' ⟨s0, s1, s2, s3, s4, s5, s6, s7, s8⟩; go_simp; with_reducible rfl) (h := ?_)
      refine tk 12 70 (bits 17 0x1fff) HT_ HW_ hHeld (hy := by rintro w' ⟨s0, s1, s2, s3, s4, s5, s6, s7, s8⟩; go_simp; with_reducible rfl) (h := ?_)
      refine pu 13 71 (bits 17 0x3fff) HT_ (h := ?_)
      refine tk 14 72 (bits 17 0x7fff) HT_ HW_ hHeld (hy := by rintro w' ⟨s0, s1, s2, s3, s4, s5, s6, s7, s8⟩; go_simp; with_reducible rfl) (h := ?_)
      refine one_ (i := 15) (N := some 73) #[true, true, true, true, true, true, true, true, true, true, true, true, true, true, true, true, false] rfl rfl (one_of HT_.out (by kernel_rfl)) (by decide) (fun K hK => ?_)
      refine goes_ Tryz.func65 (by kernel_rfl) rfl #[.agg #[.slice b7 a8.length b5, .slice b6 a7.length b4], .int .i64 ((rd_T56 a0 a2).f0), .int .i64 (rd a4 ((rd_T56 a0 a2).f1)), .int .i64 (rd a4 ((rd_T56 a0 a2).f2))] (by rfl) rfl rfl (by (try simp only [List.map_toArray, List.map_cons, List.map_nil]); first | done | rfl | (simp only [List.length_drop, List.length_take]; rfl)) ?_
      with_reducible refine (q4_Fits.calls k2 _ _ a8 _ _ a7 ((rd_T56 a0 a2).f0) (rd a4 ((rd_T56 a0 a2).f1)) (rd a4 ((rd_T56 a0 a2).f2)) false _ ?c3 ?c2 ?c1 ?c0 q4.out).mono ?_
      (case c3 => exact cb h0 HB)
      (case c2 => exact h2.out)
      (case c1 => exact cb g9 HB)
      (case c0 => exact h1.out)
      rintro e G8 ⟨rfl, hb⟩
      refine ⟨_, rfl, ?_⟩
      replace a1 := bkb a1 hb
      replace a3 := bkb a3 hb
      replace a6 := bkb a6 hb
      replace HB := bstep HB hb
      clear hb
      refine hK.out _ _ ⟨bc a1 0, bc a1 1, bc a6 0, bc a6 1, bc a6 2, bc a3 0, bc a3 1, (hxc HB e8), (hxc HB e7)⟩ (fun hHeld => ?_)
      clear hK K
      refine norm_ (a' := ?_) ?_ ?_
      rotate_left
      ·show Act.put _ (some 73) _ = _
       simp only [Act.put, List.setIfInBounds_toArray, List.set_cons_zero, List.set_cons_succ, i64_w, i32_w]
       rfl
      refine pu 16 74 (bits 17 0x1ffff) HT_ (h := ?_)
      refine done_ (done_of HT_.out (by kernel_rfl)) ?_
      try go_wp2
      go_ret
      exact ⟨erf, bb HB⟩
     subst n0
     replace H := ift H
     have H' := Aside0.mk H
     clear H
     have E6 := a9.out
     have D1 := b0.out
     obtain ⟨y7, y6, t5, t4⟩ := cz2 a3
     have e3 : 0 ≤ a2 := odt
     have e2 : a2 < (a0.length : Int) := odt
     obtain ⟨e9, h9, d3, d2, d1⟩ := at_T56 g8.out a2 e3 e2
     cases h9
     replace d3 := hxc HB d3
     replace d2 := hxc HB d2
     replace d1 := hxc HB d1
     replace e3 := eq_true e3
     replace e2 := eq_true e2
     try go_wp2_with ((with_reducible refine gate_dst (N := 10) rfl ?_); refine be 10 #[.int .i64 0, .int .i64 0, .int .i64 0] 56 ?_; intro a5 hg j6 hbox hb; have a6 := Aside0.mk (hbox); have n5 := bsz HB hg; replace HB := bstep HB hb; have d7 := blt a1 hg; have d5 := bgt a1 hg; replace a1 := bkb a1 hb; have d6 := blt a3 hg; have d4 := bgt a3 hg; replace a3 := bkb a3 hb; clear hb hbox hg; have E5 := d5.out; have D0 := d7.out; have E4 := d4.out; have C9 := d6.out; obtain ⟨y5, y4, y3, t3, t2, t1⟩ := cz3 a6; obtain ⟨y2, y1, t0, s9⟩ := cz2 a1)
     have h8 : Aside0 ((((j6.setCell ⟨a5, 0, none⟩ (.int .i64 ((rd_T56 a0 a2).f0))).setCell ⟨a5, 1, none⟩ (.int .i64 ((rd_T56 a0 a2).f1))).setCell ⟨a5, 2, none⟩ (.int .i64 ((rd_T56 a0 a2).f2))).heap[b9]? = some (.cells #[.slice b7 a8.length b5, .slice b6 a7.length b4] 31 (0, 0))) := ⟨bkF a1⟩
     have h7 : Aside0 ((((j6.setCell ⟨a5, 0, none⟩ (.int .i64 ((rd_T56 a0 a2).f0))).setCell ⟨a5, 1, none⟩ (.int .i64 ((rd_T56 a0 a2).f1))).setCell ⟨a5, 2, none⟩ (.int .i64 ((rd_T56 a0 a2).f2))).heap[b8]? = some (.cells #[.slice e5 a4.length d0, .slice (some e9) a0.length c9] 35 (0, 0))) := ⟨bkF a3⟩
     have h6 : Aside0 ((((j6.setCell ⟨a5, 0, none⟩ (.int .i64 ((rd_T56 a0 a2).f0))).setCell ⟨a5, 1, none⟩ (.int .i64 ((rd_T56 a0 a2).f1))).setCell ⟨a5, 2, none⟩ (.int .i64 ((rd_T56 a0 a2).f2))).heap[a5]? = some (.cells #[.int .i64 ((rd_T56 a0 a2).f0), .int .i64 ((rd_T56 a0 a2).f1), .int .i64 ((rd_T56 a0 a2).f2)] 56 (0, 0))) := ⟨by (with_reducible repeat (first | refine dN ?_ _ | refine dR ?_ | refine dA ?_ _)); refine blk_put (cs := #[.int .i64 ((rd_T56 a0 a2).f0), .int .i64 ((rd_T56 a0 a2).f1), .int .i64 0]) ?_ 2 _ rfl; refine blk_put (cs := #[.int .i64 ((rd_T56 a0 a2).f0), .int .i64 0, .int .i64 0]) ?_ 1 _ rfl; refine blk_put (cs := #[.int .i64 0, .int .i64 0, .int .i64 0]) ?_ 0 _ rfl; (with_reducible repeat (first | refine dN ?_ _ | refine dR ?_ | refine dA ?_ _)); exact a6.out⟩
     have h5 : Aside0 (Below w.heap.size w (((j6.setCell ⟨a5, 0, none⟩ (.int .i64 ((rd_T56 a0 a2).f0))).setCell ⟨a5, 1, none⟩ (.int .i64 ((rd_T56 a0 a2).f1))).setCell ⟨a5, 2, none⟩ (.int .i64 ((rd_T56 a0 a2).f2)))) := ⟨bb HB⟩
     clear a1
     clear a3
     clear a6
     clear HB
     generalize (((j6.setCell ⟨a5, 0, none⟩ (.int .i64 ((rd_T56 a0 a2).f0))).setCell ⟨a5, 1, none⟩ (.int .i64 ((rd_T56 a0 a2).f1))).setCell ⟨a5, 2, none⟩ (.int .i64 ((rd_T56 a0 a2).f2))) = C2 at h8 h7 h6 h5 ⊢
     have a1 := h8
     have a3 := h7
     have a6 := h6
     have HB := h5
     clear h8 h7 h6 h5
     replace a1 := Aside0.mk (blk_drew a1.out)
     replace a3 := Aside0.mk (blk_drew a3.out)
     replace a6 := Aside0.mk (blk_drew a6.out)
     replace HB := Aside0.mk (below_drew1 HB.out)
     have g4 : 0 ≤ (((rd_T56 a0 a2).f1) : Int) := odt
     have g1 : ((rd_T56 a0 a2).f1) < (a4.length : Int) := odt
     obtain ⟨d9, m0, c7⟩ := Kd.at_int e6.out ((rd_T56 a0 a2).f1) g4 g1
     have e8 := c7
     cases m0
     replace c7 := hxc HB c7
     replace g4 := eq_true g4
     replace g1 := eq_true g1
     have g3 : 0 ≤ (((rd_T56 a0 a2).f2) : Int) := odt
     have g0 : ((rd_T56 a0 a2).f2) < (a4.length : Int) := odt
     obtain ⟨j4, j9, c5⟩ := Kd.at_int e6.out ((rd_T56 a0 a2).f2) g3 g0
     have e7 := c5
     obtain rfl : d9 = j4 := (by injection j9)
     replace c5 := hxc HB c5
     replace g3 := eq_true g3
     replace g0 := eq_true g0
     refine start_ (n := 17) (S := fun w' => w'.cell? ⟨b9, 0, none⟩ = some (.slice b7 a8.length b5) ∧ w'.cell? ⟨b9, 1, none⟩ = some (.slice b6 a7.length b4) ∧ w'.cell? ⟨a5, 0, none⟩ = some (.int .i64 ((rd_T56 a0 a2).f0)) ∧ w'.cell? ⟨a5, 1, none⟩ = some (.int .i64 ((rd_T56 a0 a2).f1)) ∧ w'.cell? ⟨a5, 2, none⟩ = some (.int .i64 ((rd_T56 a0 a2).f2)) ∧ w'.cell? ⟨b8, 0, none⟩ = some (.slice (some d9) a4.length d0) ∧ w'.cell? ⟨b8, 1, none⟩ = some (.slice (some e9) a0.length c9) ∧ w'.cell? (d9.add (((rd_T56 a0 a2).f1)).toNat) = some (.int .i64 (rd a4 ((rd_T56 a0 a2).f1))) ∧ w'.cell? (d9.add (((rd_T56 a0 a2).f2)).toNat) = some (.int .i64 (rd a4 ((rd_T56 a0 a2).f2)))) (ds := []) #[false, false, false, false, false, false, false, false, false, false, false, false, false, false, false, false, false] (by kernel_rfl) rfl rfl ⟨bc a1 0, bc a1 1, bc a6 0, bc a6 1, bc a6 2, bc a3 0, bc a3 1, (hxc HB e8), (hxc HB e7)⟩ (fun hHeld => ?_); refine with_tabW scarfjointref18_Typed.tab18 scarfjointref18_Typed.bits18 (fun HT_ HW_ => ?_)
     generalize C2.drew = H1 at a1 a3 a6 HB c7 c5 hHeld ⊢
     refine pu 1 59 (bits 17 0x2) HT_ (h := ?_)
     refine pu 3 61 (bits 17 0xa) HT_ (h := ?_)
     refine pu 5 63 (bits 17 0x2a) HT_ (h := ?_)
     refine pu 9 67 (bits 17 0x22a) HT_ (h := ?_)
     refine pu 11 69 (bits 17 0xa2a) HT_ (h := ?_)
     refine tk 0 58 (bits 17 0xa2b) HT_ HW_ hHeld (hy := by rintro w' ⟨s0, s1, s2, s3, s4, s5, s6, s7, s8⟩; go_simp; with_reducible rfl) (h := ?_)
     refine tk 2 60 (bits 17 0xa2f) HT_ HW_ hHeld (hy := by rintro w' ⟨s0, s1, s2, s3, s4, s5, s6, s7, s8⟩; go_simp; with_reducible rfl) (h := ?_)
     refine tk 4 62 (bits 17 0xa3f) HT_ HW_ hHeld (hy := by rintro w' ⟨s0, s1, s2, s3, s4, s5, s6, s7, s8⟩; go_simp; with_reducible rfl) (h := ?_)
     refine tk 6 64 (bits 17 0xa7f) HT_ HW_ hHeld (hy := by rintro w' ⟨s0, s1, s2, s3, s4, s5, s6, s7, s8⟩; go_simp; with_reducible rfl) (h := ?_)
     refine pu 7 65 (bits 17 0xaff) HT_ (h := ?_)
     refine tk 8 66 (bits 17 0xbff) HT_ HW_ hHeld (hy := by rintro w' ⟨s0, s1, s2, s3, s4, s5, s6, s7, s8⟩; go_simp; with_reducible rfl) (h := ?_)
     refine tk 10 68 (bits 17 0xfff) HT_ HW_ hHeld (hy := by rintro w' ⟨s0, s1, s2, s3, s4, s5, s6, s7, s8⟩; go_simp; with_reducible rfl) (h := ?_)
     refine tk 12 70 (bits 17 0x1fff) HT_ HW_ hHeld (hy := by rintro w' ⟨s0, s1, s2, s3, s4, s5, s6, s7, s8⟩; go_simp; with_reducible rfl) (h := ?_)
     refine pu 13 71 (bits 17 0x3fff) HT_ (h := ?_)
     refine tk 14 72 (bits 17 0x7fff) HT_ HW_ hHeld (hy := by rintro w' ⟨s0, s1, s2, s3, s4, s5, s6, s7, s8⟩; go_simp; with_reducible rfl) (h := ?_)
     refine one_ (i := 15) (N := some 73) #[true, true, true, true, true, true, true, true, true, true, true, true, true, true, true, true, false] rfl rfl (one_of HT_.out (by kernel_rfl)) (by decide) (fun K hK => ?_)
     refine goes_ Tryz.func65 (by kernel_rfl) rfl #[.agg #[.slice b7 a8.length b5, .slice b6 a7.length b4], .int .i64 ((rd_T56 a0 a2).f0), .int .i64 (rd a4 ((rd_T56 a0 a2).f1)), .int .i64 (rd a4 ((rd_T56 a0 a2).f2))] (by rfl) rfl rfl (by (try simp only [List.map_toArray, List.map_cons, List.map_nil]); first | done | rfl | (simp only [List.length_drop, List.length_take]; rfl)) ?_
     with_reducible refine (q4_Fits.calls k2 _ _ a8 _ _ a7 ((rd_T56 a0 a2).f0) (rd a4 ((rd_T56 a0 a2).f1)) (rd a4 ((rd_T56 a0 a2).f2)) true _ ?c3 ?c2 ?c1 ?c0 q4.out).mono ?_
     (case c3 => exact cb h0 HB)
     (case c2 => exact h2.out)
     (case c1 => exact cb g9 HB)
     (case c0 => exact h1.out)
     rintro e H0 ⟨rfl, hb⟩
     refine ⟨_, rfl, ?_⟩
     replace a1 := bkb a1 hb
     replace a3 := bkb a3 hb
     replace a6 := bkb a6 hb
     replace HB := bstep HB hb
     clear hb
     refine hK.out _ _ ⟨bc a1 0, bc a1 1, bc a6 0, bc a6 1, bc a6 2, bc a3 0, bc a3 1, (hxc HB e8), (hxc HB e7)⟩ (fun hHeld => ?_)
     clear hK K
     refine norm_ (a' := ?_) ?_ ?_
     rotate_left
     ·show Act.put _ (some 73) _ = _
      simp only [Act.put, List.setIfInBounds_toArray, List.set_cons_zero, List.set_cons_succ, i64_w, i32_w]
      rfl
     refine pu 16 74 (bits 17 0x1ffff) HT_ (h := ?_)
     refine done_ (done_of HT_.out (by kernel_rfl)) ?_
     try go_wp2
     go_roundg k2
     case measure => have := n2.out; have := q3.out; omega
     case rel => exact ⟨(wrap64 (a2 + 1)), eqs, H', ⟨by have := n2.out; have := q3.out; omega⟩, ⟨bk a1⟩, ⟨bk a3⟩, ⟨bb HB⟩⟩
end Go.Proofs.YtfpianecohobjaaGreat.P
