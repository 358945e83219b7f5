/- StatisticOf: a part of its proof. No condition. -/
import Derived.Test.YtfpianecohobjaaGreatXPx0
import Derived.Test.YtfpianecohobjaaGreatXMd
import Derived.Test.YtfpianecohobjaaGreatXPx19
import Derived.Test.YtfpianecohobjaaGreatXPx42
import Derived.Test.YtfpianecohobjaaGreatXPx48
import Derived.Test.YtfpianecohobjaaGreatXMi
import Derived.Test.YtfpianecohobjaaGreatXMj
namespace Go.Proofs.YtfpianecohobjaaGreat.P
open Go.RowKit Go.Proofs.YtfpianecohobjaaGreatW.PrintWords Go.Proofs.YtfpianecohobjaaGreatW.PrintLast Go.Proofs.YtfpianecohobjaaGreatW.PrintMore
set_option maxHeartbeats 8000000
set_option maxRecDepth 100000
set_option linter.unusedVariables false
set_option linter.unusedSimpArgs false
def scarfjointlaw18_StatisticCounts.j0 : Nat → Bool → List (S96) → List (S101) → List (S75) → List (S75) → Int → Int → Int → Int → Option (Bool)
 | 0, _, _, _, _, _, _, _, _, _ => none
 | k + 1, v9, e9, e8, e7, e6, j8, e5, j7, q8 => if v9 = true then ((scarfjointlaw18_awake.f k).bind fun m7 => (some m7)) else ((scarfjointref18_Copied.f e7 e6).bind fun n7 => ((statistic_Nodes.f k e9 e8 n7.1 n7.2 e5).bind fun g8 => ((scarfjointref18_Nodes.f k e9 e8 e7 e6 e5).bind fun c4 => ((scarfjointref18_Copied.f e7 e6).bind fun b8 => ((statistic_Edges.f k e9 e8 b8.1 b8.2 j8 e5 j7).bind fun b7 => ((scarfjointref18_Edges.f k e9 e8 e7 e6 j8 e5 j7).bind fun b6 => (if g8.1 = c4.1 then (if g8.2 = c4.2 then (if b7.1 = b6.1 then (some (b7.2 == b6.2)) else (some false)) else (some false)) else (some false))))))))
def scarfjointlaw18_StatisticCounts.f (k : Nat) (a4 : List (S96)) (a3 : List (S101)) (a6 : List (S75)) (a5 : List (S75)) (a9 : Int) (a7 : Int) (a8 : Int) (b9 : Int) : Option (Bool) := (scarfjointlaw18_awake.f k).bind fun j1 => (if j1 = true then ((q4_Few.f k a4 a3).bind fun h9 => (if h9 = true then ((scarfjointref18_Few.f a6 a5).bind fun h5 => (scarfjointlaw18_StatisticCounts.j0 k (!h5) a4 a3 a6 a5 a9 a7 a8 b9)) else (scarfjointlaw18_StatisticCounts.j0 k true a4 a3 a6 a5 a9 a7 a8 b9))) else (scarfjointlaw18_StatisticCounts.j0 k true a4 a3 a6 a5 a9 a7 a8 b9))
def scarfjointlaw18_StatisticCounts.T3 : Bool × List (List Nat × List Nat) := (true, [([], []), ([], []), ([1], [1]), ([], []), ([3], [3]), ([0, 2, 4, 2], [0, 2, 4]), ([5], [5]), ([6], [6]), ([6], [6]), ([7, 5, 0, 1, 2, 3, 4, 5, 6, 7], [7]), ([8, 9, 0, 1, 2, 3, 4, 5, 6, 7, 8, 9], [8])])
def scarfjointlaw18_StatisticCounts.B3 : List Nat := [0, 0, 2, 0, 8, 31, 63, 127, 127, 255, 1023]
theorem scarfjointlaw18_StatisticCounts.tab3 : rtab .any (opsOf Tryz.f6 3) = scarfjointlaw18_StatisticCounts.T3 := by kernel_rfl
theorem scarfjointlaw18_StatisticCounts.bits3 : waitsOk scarfjointlaw18_StatisticCounts.T3.2 scarfjointlaw18_StatisticCounts.B3 = true := by kernel_rfl
def scarfjointlaw18_StatisticCounts.T5 : Bool × List (List Nat × List Nat) := (true, [([], []), ([], []), ([1], [1]), ([], []), ([3], [3]), ([], []), ([5], [5]), ([], []), ([7], [7]), ([0, 2, 4, 6, 8, 2], [0, 2, 4, 6, 8]), ([9], [9]), ([10], [10]), ([10], [10]), ([11, 9, 0, 1, 2, 3, 4, 5, 6, 7, 8, 9, 10, 11], [11]), ([12, 13, 0, 1, 2, 3, 4, 5, 6, 7, 8, 9, 10, 11, 12, 13], [12])])
def scarfjointlaw18_StatisticCounts.B5 : List Nat := [0, 0, 2, 0, 8, 0, 32, 0, 128, 511, 1023, 2047, 2047, 4095, 16383]
theorem scarfjointlaw18_StatisticCounts.tab5 : rtab .any (opsOf Tryz.f6 5) = scarfjointlaw18_StatisticCounts.T5 := by kernel_rfl
theorem scarfjointlaw18_StatisticCounts.bits5 : waitsOk scarfjointlaw18_StatisticCounts.T5.2 scarfjointlaw18_StatisticCounts.B5 = true := by kernel_rfl
theorem scarfjointlaw18_StatisticCounts.calls (k : Nat) (d4 : Option Addr) (d0 : Nat) (a4 : List (S96)) (d3 : Option Addr) (c8 : Nat) (a3 : List (S101)) (d2 : Option Addr) (c7 : Nat) (a6 : List (S75)) (d1 : Option Addr) (c5 : Nat) (a5 : List (S75)) (a9 : Int) (a7 : Int) (a8 : Int) (b9 : Int) (r : Bool) (hr : r = true) (w : World) (n1 : Kd.C k96 w d4 a4.length a4) (n5 : a4.length ≤ d0) (n0 : Kd.C k101 w d3 a3.length a3) (n4 : a3.length ≤ c8) (m9 : Kd.C k75 w d2 a6.length a6) (n3 : a6.length ≤ c7) (m8 : Kd.C k75 w d1 a5.length a5) (n2 : a5.length ≤ c5) (h : scarfjointlaw18_StatisticCounts.f k a4 a3 a6 a5 a9 a7 a8 b9 = some r) :
  Calls Tryz.prog 6 #[.agg #[.slice d4 a4.length d0, .slice d3 a3.length c8], .agg #[.slice d2 a6.length c7, .slice d1 a5.length c5], .agg #[.int .i64 a9, .int .i64 a7, .int .i64 a8, .int .i64 b9]] w fun e w' => e = .returned (.bool r) ∧ Below w.heap.size w w' := by
 have hu31 := Tryz.underlying31
 have hu46 := Tryz.underlying46
 have hu65 := Tryz.underlying65
 have g1 := am n1
 have g3 := am n5
 clear n1 n5
 have g0 := am n0
 have g2 := am n4
 clear n0 n4
 have h0 := am m9
 have h2 := am n3
 clear m9 n3
 have g9 := am m8
 have h1 := am n2
 clear m8 n2
 have HB := am (Below.refl w.heap.size w)
 have H : ((scarfjointlaw18_awake.f k).bind fun j1 => (if j1 = true then ((q4_Few.f k a4 a3).bind fun h9 => (if h9 = true then ((scarfjointref18_Few.f a6 a5).bind fun h5 => (scarfjointlaw18_StatisticCounts.j0 k (!h5) a4 a3 a6 a5 a9 a7 a8 b9)) else (scarfjointlaw18_StatisticCounts.j0 k true a4 a3 a6 a5 a9 a7 a8 b9))) else (scarfjointlaw18_StatisticCounts.j0 k true a4 a3 a6 a5 a9 a7 a8 b9))) = some r := h
 clear h
 have p1 := am H
 clear H
 go_enter Tryz.func6, Tryz.ntmps6
 go_upto_region 1 with (first | ((with_reducible refine gate_dst (N := 3) rfl ?_); refine be 3 #[.slice d4 a4.length d0, .slice d3 a3.length c8] 31 ?_; intro g7 hg w5 hbox hb; have a1 := am (hbox); have A3 := bsz HB hg; replace HB := bstep HB hb; clear hb hbox hg) | ((with_reducible refine gate_dst (N := 4) rfl ?_); refine be 4 #[.slice d2 a6.length c7, .slice d1 a5.length c5] 46 ?_; intro g6 hg w6 hbox hb; have a2 := am (hbox); have A2 := bsz HB hg; replace HB := bstep HB hb; have e4 := blt a1 hg; have e2 := bgt a1 hg; replace a1 := bkb a1 hb; clear hb hbox hg) | ((with_reducible refine gate_dst (N := 5) rfl ?_); refine be 5 #[.int .i64 a9, .int .i64 a7, .int .i64 a8, .int .i64 b9] 65 ?_; intro c3 hg w7 hbox hb; have a0 := am (hbox); have A1 := bsz HB hg; replace HB := bstep HB hb; have e3 := blt a1 hg; have e1 := bgt a1 hg; replace a1 := bkb a1 hb; have h7 := blt a2 hg; have h6 := bgt a2 hg; replace a2 := bkb a2 hb; clear hb hbox hg))
 (try simp only [Act.put, List.setIfInBounds_toArray, List.set_cons_zero, List.set_cons_succ])
 go_cut [26] (fun w1 wc => ∃ (kq : Nat) (h8 : Bool), w1 = .bool h8 ∧ Aside0 (scarfjointlaw18_StatisticCounts.j0 kq h8 a4 a3 a6 a5 a9 a7 a8 b9 = some r) ∧ Aside0 (kq ≤ k) ∧ Aside0 (wc.heap[g7]? = some (.cells #[(.slice d4 a4.length d0), (.slice d3 a3.length c8)] 31 (0, 0))) ∧ Aside0 (wc.heap[g6]? = some (.cells #[(.slice d2 a6.length c7), (.slice d1 a5.length c5)] 46 (0, 0))) ∧ Aside0 (wc.heap[c3]? = some (.cells #[.int .i64 a9, .int .i64 a7, .int .i64 a8, .int .i64 b9] 65 (0, 0))) ∧ Aside0 (Below w.heap.size w wc))
 case first =>
  have H := p1.out
  clear p1
  obtain ⟨j1, A8, H⟩ := obA H
  by_cases c9 : j1 = true
  rotate_left
  ·replace c9 := Bool.eq_false_iff.mpr c9
   subst c9
   replace H := iff_ H
   have H' := am H
   clear H
   go_wp2_with (first | ((with_reducible refine gate_callee (f := 10) rfl ?_); refine gl 15 Tryz.func10 #[] (h := ?_); (with_reducible refine (scarfjointlaw18_awake.calls k  false _ A8.out).mono ?_); rintro e C7 ⟨rfl, hb⟩; refine ⟨_, rfl, ?_⟩; replace a1 := bkb a1 hb; replace a2 := bkb a2 hb; replace a0 := bkb a0 hb; replace HB := bstep HB hb; (try clear hb); (try clear hb2); (try clear hk); (try clear hi)))
   go_meet
   case rel => exact ⟨_, (true), eqs, H', ⟨by first | omega | exact Nat.le_refl _⟩, ⟨bk a1⟩, ⟨bk a2⟩, ⟨bk a0⟩, ⟨bb HB⟩⟩
  subst c9
  replace H := ift H
  obtain ⟨h9, p9, H⟩ := obA H
  by_cases m4 : h9 = true
  rotate_left
  ·replace m4 := Bool.eq_false_iff.mpr m4
   subst m4
   replace H := iff_ H
   have H' := am H
   clear H
   go_wp2_with (first | ((with_reducible refine gate_callee (f := 10) rfl ?_); refine gl 15 Tryz.func10 #[] (h := ?_); (with_reducible refine (scarfjointlaw18_awake.calls k  true _ A8.out).mono ?_); rintro e C9 ⟨rfl, hb⟩; refine ⟨_, rfl, ?_⟩; replace a1 := bkb a1 hb; replace a2 := bkb a2 hb; replace a0 := bkb a0 hb; replace HB := bstep HB hb; (try clear hb); (try clear hb2); (try clear hk); (try clear hi); have y7 := e4.out; have x7 := e2.out; have y6 := e3.out; have x6 := e1.out; obtain ⟨o5, o4, n9, n8⟩ := cz2 a1) | (go_at_call 20; (with_reducible refine (q4_Few.calls k _ _ a4 _ _ a3 false _ ?b5 ?b4 ?b3 ?b2 p9.out).mono ?_); (case b5 => exact cb g1 HB); (case b4 => exact g3.out); (case b3 => exact cb g0 HB); (case b2 => exact g2.out); rintro e C8 ⟨rfl, hb⟩; replace a1 := bkb a1 hb; replace a2 := bkb a2 hb; replace a0 := bkb a0 hb; replace HB := bstep HB hb; (try clear hb); (try clear hb2); (try clear hk); (try clear hi)))
   go_meet
   case rel => exact ⟨_, (true), eqs, H', ⟨by first | omega | exact Nat.le_refl _⟩, ⟨bk a1⟩, ⟨bk a2⟩, ⟨bk a0⟩, ⟨bb HB⟩⟩
  subst m4
  replace H := ift H
  obtain ⟨h5, x2, H⟩ := obA H
  have H' := am H
  clear H
  go_wp2_with (first | ((with_reducible refine gate_callee (f := 10) rfl ?_); refine gl 15 Tryz.func10 #[] (h := ?_); (with_reducible refine (scarfjointlaw18_awake.calls k  true _ A8.out).mono ?_); rintro e D2 ⟨rfl, hb⟩; refine ⟨_, rfl, ?_⟩; replace a1 := bkb a1 hb; replace a2 := bkb a2 hb; replace a0 := bkb a0 hb; replace HB := bstep HB hb; (try clear hb); (try clear hb2); (try clear hk); (try clear hi); have A0 := e4.out; have y2 := e2.out; have y9 := e3.out; have y1 := e1.out; obtain ⟨o9, o8, o3, o2⟩ := cz2 a1) | (go_at_call 20; (with_reducible refine (q4_Few.calls k _ _ a4 _ _ a3 true _ ?b5 ?b4 ?b3 ?b2 p9.out).mono ?_); (case b5 => exact cb g1 HB); (case b4 => exact g3.out); (case b3 => exact cb g0 HB); (case b2 => exact g2.out); rintro e D1 ⟨rfl, hb⟩; replace a1 := bkb a1 hb; replace a2 := bkb a2 hb; replace a0 := bkb a0 hb; replace HB := bstep HB hb; (try clear hb); (try clear hb2); (try clear hk); (try clear hi); have y8 := h7.out; have y0 := h6.out; obtain ⟨o7, o6, o1, o0⟩ := cz2 a2) | (go_at_call 24; (with_reducible refine (scarfjointref18_Few.calls _ _ a6 _ _ a5 h5 _ ?b5 ?b4 ?b3 ?b2 x2.out).mono ?_); (case b5 => exact cb h0 HB); (case b4 => exact h2.out); (case b3 => exact cb g9 HB); (case b2 => exact h1.out); rintro e D0 ⟨rfl, hb⟩; replace a1 := bkb a1 hb; replace a2 := bkb a2 hb; replace a0 := bkb a0 hb; replace HB := bstep HB hb; (try clear hb); (try clear hb2); (try clear hk); (try clear hi)))
  go_meet
  case rel => exact ⟨_, (!h5), eqs, H', ⟨by first | omega | exact Nat.le_refl _⟩, ⟨bk a1⟩, ⟨bk a2⟩, ⟨bk a0⟩, ⟨bb HB⟩⟩
 case rest =>
  clear p1
  try clear c1
  try clear c2
  try clear p2
  try clear c6
  try clear c9
  try clear D8
  try clear m4
  try clear D7
  try clear D6
  try clear D5
  try clear D4
  try clear D3
  try clear o9
  try clear o8
  try clear o7
  try clear o6
  try clear o5
  try clear o4
  try clear o3
  try clear o2
  try clear o1
  try clear o0
  try clear n9
  try clear n8
  obtain ⟨kq, h8, rfl, HA, D9, a1, a2, a0, HB⟩ := hcut
  cases kq with
  | zero => exact absurd HA.out (by simp [scarfjointlaw18_StatisticCounts.j0])
  | succ c0 =>
   have H := HA.out
   clear HA
   simp only [scarfjointlaw18_StatisticCounts.j0] at H
   by_cases n6 : h8 = true
   ·subst n6
    replace H := ift H
    obtain ⟨m7, x1, H⟩ := obA H
    obtain rfl := Option.some.inj H
    go_wp2_with (first | ((with_reducible refine gate_callee (f := 10) rfl ?_); refine gl 27 Tryz.func10 #[] (h := ?_); (with_reducible refine (scarfjointlaw18_awake.calls c0  m7 _ x1.out).mono ?_); rintro e C6 ⟨rfl, hb⟩; refine ⟨_, rfl, ?_⟩; replace a1 := bkb a1 hb; replace a2 := bkb a2 hb; replace a0 := bkb a0 hb; replace HB := bstep HB hb; (try clear hb); (try clear hb2); (try clear hk); (try clear hi)))
    go_ret
    exact ⟨by first | rfl | (simp <;> rfl) | (simp [*] <;> rfl), bb HB⟩
   replace n6 := Bool.eq_false_iff.mpr n6
   subst n6
   replace H := iff_ H
   obtain ⟨⟨m3, m2⟩, x0, H⟩ := obA H
   replace H : ((statistic_Nodes.f c0 a4 a3 m3 m2 a7).bind fun g8 => ((scarfjointref18_Nodes.f c0 a4 a3 a6 a5 a7).bind fun c4 => ((scarfjointref18_Copied.f a6 a5).bind fun b8 => ((statistic_Edges.f c0 a4 a3 b8.1 b8.2 a9 a7 a8).bind fun b7 => ((scarfjointref18_Edges.f c0 a4 a3 a6 a5 a9 a7 a8).bind fun b6 => (if g8.1 = c4.1 then (if g8.2 = c4.2 then (if b7.1 = b6.1 then (some (b7.2 == b6.2)) else (some false)) else (some false)) else (some false))))))) = some r := H
   obtain ⟨⟨g5, g4⟩, w9, H⟩ := obA H
   replace H : ((scarfjointref18_Nodes.f c0 a4 a3 a6 a5 a7).bind fun c4 => ((scarfjointref18_Copied.f a6 a5).bind fun b8 => ((statistic_Edges.f c0 a4 a3 b8.1 b8.2 a9 a7 a8).bind fun b7 => ((scarfjointref18_Edges.f c0 a4 a3 a6 a5 a9 a7 a8).bind fun b6 => (if g5 = c4.1 then (if g4 = c4.2 then (if b7.1 = b6.1 then (some (b7.2 == b6.2)) else (some false)) else (some false)) else (some false)))))) = some r := H
   obtain ⟨⟨h4, h3⟩, w8, H⟩ := obA H
   replace H : ((scarfjointref18_Copied.f a6 a5).bind fun b8 => ((statistic_Edges.f c0 a4 a3 b8.1 b8.2 a9 a7 a8).bind fun b7 => ((scarfjointref18_Edges.f c0 a4 a3 a6 a5 a9 a7 a8).bind fun b6 => (if g5 = h4 then (if g4 = h3 then (if b7.1 = b6.1 then (some (b7.2 == b6.2)) else (some false)) else (some false)) else (some false))))) = some r := H
   obtain ⟨⟨m1, m0⟩, w4, H⟩ := obA H
   replace H : ((statistic_Edges.f c0 a4 a3 m1 m0 a9 a7 a8).bind fun b7 => ((scarfjointref18_Edges.f c0 a4 a3 a6 a5 a9 a7 a8).bind fun b6 => (if g5 = h4 then (if g4 = h3 then (if b7.1 = b6.1 then (some (b7.2 == b6.2)) else (some false)) else (some false)) else (some false)))) = some r := H
   obtain ⟨⟨j9, m6⟩, w3, H⟩ := obA H
   replace H : ((scarfjointref18_Edges.f c0 a4 a3 a6 a5 a9 a7 a8).bind fun b6 => (if g5 = h4 then (if g4 = h3 then (if j9 = b6.1 then (some (m6 == b6.2)) else (some false)) else (some false)) else (some false))) = some r := H
   obtain ⟨⟨m5, p0⟩, w2, H⟩ := obA H
   replace H : (if g5 = h4 then (if g4 = h3 then (if j9 = m5 then (some (m6 == p0)) else (some false)) else (some false)) else (some false)) = some r := H
   by_cases j6 : g5 = h4
   rotate_left
   ·rw [if_neg j6] at H
    have p8 := beq_eq_false_iff_ne.mpr j6
    have p7 := bne_iff_ne.mpr j6
    exact absurd (H.trans (congrArg some hr)) (by simp)
   rw [if_pos j6] at H
   have p8 := beq_iff_eq.mpr j6
   have p7 := bne_eq_false_iff_eq.mpr j6
   clear j6
   by_cases j5 : g4 = h3
   rotate_left
   ·rw [if_neg j5] at H
    have p6 := beq_eq_false_iff_ne.mpr j5
    have p5 := bne_iff_ne.mpr j5
    exact absurd (H.trans (congrArg some hr)) (by simp)
   rw [if_pos j5] at H
   have p6 := beq_iff_eq.mpr j5
   have p5 := bne_eq_false_iff_eq.mpr j5
   clear j5
   by_cases j4 : j9 = m5
   rotate_left
   ·rw [if_neg j4] at H
    have p4 := beq_eq_false_iff_ne.mpr j4
    have p3 := bne_iff_ne.mpr j4
    exact absurd (H.trans (congrArg some hr)) (by simp)
   rw [if_pos j4] at H
   have p4 := beq_iff_eq.mpr j4
   have p3 := bne_eq_false_iff_eq.mpr j4
   clear j4
   obtain rfl := Option.some.inj H
   try go_wp2
   replace a1 := am (blk_drew a1.out)
   replace a2 := am (blk_drew a2.out)
   replace a0 := am (blk_drew a0.out)
   replace HB := am (below_drew1 HB.out)
   refine start_ (n := 11) (S := fun w' => w'.cell? ⟨g7, 0, none⟩ = some (.slice d4 a4.length d0) ∧ w'.cell? ⟨g7, 1, none⟩ = some (.slice d3 a3.length c8) ∧ w'.cell? ⟨g6, 0, none⟩ = some (.slice d2 a6.length c7) ∧ w'.cell? ⟨g6, 1, none⟩ = some (.slice d1 a5.length c5) ∧ w'.cell? ⟨c3, 0, none⟩ = some (.int .i64 a9) ∧ w'.cell? ⟨c3, 1, none⟩ = some (.int .i64 a7) ∧ w'.cell? ⟨c3, 2, none⟩ = some (.int .i64 a8) ∧ w'.cell? ⟨c3, 3, none⟩ = some (.int .i64 b9)) (ds := []) #[false, false, false, false, false, false, false, false, false, false, false] (by kernel_rfl) rfl rfl ⟨bc a1 0, bc a1 1, bc a2 0, bc a2 1, bc a0 0, bc a0 1, bc a0 2, bc a0 3⟩ (fun hHeld => ?_); refine with_tabW scarfjointlaw18_StatisticCounts.tab3 scarfjointlaw18_StatisticCounts.bits3 (fun HT_ HW_ => ?_)
   generalize wc.drew = C5 at a1 a2 a0 HB hHeld ⊢
   refine pu 3 32 (bits 11 0x8) HT_ (h := ?_)
   refine tk 0 29 (bits 11 0x9) HT_ HW_ hHeld (hy := by rintro w' ⟨s0, s1, s2, s3, s4, s5, s6, s7⟩; go_simp; with_reducible rfl) (h := ?_)
   refine tk 1 30 (bits 11 0xb) HT_ HW_ hHeld (hy := by rintro w' ⟨s0, s1, s2, s3, s4, s5, s6, s7⟩; go_simp; with_reducible rfl) (h := ?_)
   refine tk 4 33 (bits 11 0x1b) HT_ HW_ hHeld (hy := by rintro w' ⟨s0, s1, s2, s3, s4, s5, s6, s7⟩; go_simp; with_reducible rfl) (h := ?_)
   refine one_ (i := 2) (N := some 31) #[true, true, true, true, true, false, false, false, false, false, false] rfl rfl (one_of HT_.out (by kernel_rfl)) (by decide) (fun K hK => ?_)
   refine goes_ Tryz.func26 (by kernel_rfl) rfl #[.agg #[.slice d2 a6.length c7, .slice d1 a5.length c5]] (by rfl) rfl rfl (by (try simp only [List.map_toArray, List.map_cons, List.map_nil]); first | done | rfl | (simp only [List.length_drop, List.length_take]; rfl)) ?_
   with_reducible refine (scarfjointref18_Copied.calls _ _ a6 _ _ a5 m3 m2 _ ?b5 ?b4 ?b3 ?b2 x0.out).mono ?_
   (case b5 => exact cb h0 HB)
   (case b4 => exact h2.out)
   (case b3 => exact cb g9 HB)
   (case b2 => exact h1.out)
   rintro e C4 ⟨A7, A6, rfl, j3, j2, hb⟩
   refine ⟨_, rfl, ?_⟩
   have b1 := am (Kd.R_lower j3 (below_size (bb HB)))
   have b0 := am (Kd.R_lower j2 (below_size (bb HB)))
   replace a1 := bkb a1 hb
   replace a2 := bkb a2 hb
   replace a0 := bkb a0 hb
   replace HB := bstep HB hb
   (try clear hb)
   (try clear hb2)
   (try clear hk)
   (try clear hi)
   (try clear j3)
   (try clear j2)
   obtain ⟨q7, q3, eo41⟩ := Kd.R_slice b1.out
   (first | subst eo41 | (injection eo41 with f1_ f2_ f3_; have f4_ := f1_.symm; have f5_ := f3_.symm; clear f1_ f2_ f3_; subst f4_; subst f5_))
   obtain ⟨q6, q2, eo42⟩ := Kd.R_slice b0.out
   (first | subst eo42 | (injection eo42 with f1_ f2_ f3_; have f4_ := f1_.symm; have f5_ := f3_.symm; clear f1_ f2_ f3_; subst f4_; subst f5_))
   refine hK.out _ _ ⟨bc a1 0, bc a1 1, bc a2 0, bc a2 1, bc a0 0, bc a0 1, bc a0 2, bc a0 3⟩ (fun hHeld => ?_)
   clear hK K
   refine norm_ (a' := ?_) ?_ ?_
   rotate_left
   ·show Act.put _ (some 31) _ = _
    simp only [Act.put, List.setIfInBounds_toArray, List.set_cons_zero, List.set_cons_succ, i64_w, i32_w]
    rfl
   refine one_ (i := 5) (N := some 34) #[true, true, true, true, true, true, false, false, false, false, false] rfl rfl (one_of HT_.out (by kernel_rfl)) (by decide) (fun K hK => ?_)
   refine goes_ Tryz.func25 (by kernel_rfl) rfl #[.agg #[.slice d4 a4.length d0, .slice d3 a3.length c8], .agg #[.slice q7 m3.length q3, .slice q6 m2.length q2], .int .i64 a7] (by rfl) rfl rfl (by (try simp only [List.map_toArray, List.map_cons, List.map_nil]); first | done | rfl | (simp only [List.length_drop, List.length_take]; rfl)) ?_
   with_reducible refine (statistic_Nodes.calls c0 _ _ a4 _ _ a3 _ _ m3 _ _ m2 a7 g5 g4 _ ?b5 ?b4 ?b3 ?b2 ?d8 ?d7 ?d6 ?d5 w9.out).mono ?_
   (case b5 => exact cb g1 HB)
   (case b4 => exact g3.out)
   (case b3 => exact cb g0 HB)
   (case b2 => exact g2.out)
   (case d8 => repeat (first | exact (Kd.R_reads' b1.out).2.2 | (with_reducible refine Kd.C_alloc ?_ _) | (with_reducible refine Kd.C_drewN ?_ _) | (with_reducible refine Kd.C_drew ?_)))
   (case d7 => exact (Kd.R_reads' b1.out).2.1)
   (case d6 => repeat (first | exact (Kd.R_reads' b0.out).2.2 | (with_reducible refine Kd.C_alloc ?_ _) | (with_reducible refine Kd.C_drewN ?_ _) | (with_reducible refine Kd.C_drew ?_)))
   (case d5 => exact (Kd.R_reads' b0.out).2.1)
   rintro e C3 ⟨rfl, hb⟩
   refine ⟨_, rfl, ?_⟩
   replace b1 := kRb b1 hb
   replace b0 := kRb b0 hb
   replace a1 := bkb a1 hb
   replace a2 := bkb a2 hb
   replace a0 := bkb a0 hb
   replace HB := bstep HB hb
   (try clear hb)
   (try clear hb2)
   (try clear hk)
   (try clear hi)
   refine hK.out _ _ ⟨bc a1 0, bc a1 1, bc a2 0, bc a2 1, bc a0 0, bc a0 1, bc a0 2, bc a0 3⟩ (fun hHeld => ?_)
   clear hK K
   refine norm_ (a' := ?_) ?_ ?_
   rotate_left
   ·show Act.put _ (some 34) _ = _
    simp only [Act.put, List.setIfInBounds_toArray, List.set_cons_zero, List.set_cons_succ, i64_w, i32_w]
    rfl
   refine pu 6 28 (bits 11 0x7f) HT_ (h := ?_)
   refine pu 7 35 (bits 11 0xff) HT_ (h := ?_)
   refine pu 8 36 (bits 11 0x1ff) HT_ (h := ?_)
   refine pu 9 7 (bits 11 0x3ff) HT_ (h := ?_)
   refine pu 10 8 (bits 11 0x7ff) HT_ (h := ?_)
   refine done_ (done_of HT_.out (by kernel_rfl)) ?_
   have y5 := e4.out
   have x5 := e2.out
   have y4 := e3.out
   have x4 := e1.out
   obtain ⟨v8, v7, t2, t1⟩ := cz2 a1
   have y3 := h7.out
   have x3 := h6.out
   obtain ⟨v6, v5, t0, s9⟩ := cz2 a2
   obtain ⟨v4, v3, v2, v1, s8, r9, r8, r7⟩ := cz4 a0
   try go_wp2_with (first | ((with_reducible refine gate_callee (f := 27) rfl ?_); refine gl 42 Tryz.func27 #[.agg #[.slice d4 a4.length d0, .slice d3 a3.length c8], .agg #[.slice d2 a6.length c7, .slice d1 a5.length c5], .int .i64 a7] (h := ?_); (with_reducible refine (scarfjointref18_Nodes.calls c0 _ _ a4 _ _ a3 _ _ a6 _ _ a5 a7 h4 h3 _ ?b5 ?b4 ?b3 ?b2 ?d8 ?d7 ?d6 ?d5 w8.out).mono ?_); (case b5 => exact cb g1 HB); (case b4 => exact g3.out); (case b3 => exact cb g0 HB); (case b2 => exact g2.out); (case d8 => exact cb h0 HB); (case d7 => exact h2.out); (case d6 => exact cb g9 HB); (case d5 => exact h1.out); rintro e w0 ⟨rfl, hb⟩; refine ⟨_, rfl, ?_⟩; replace b1 := kRb b1 hb; replace b0 := kRb b0 hb; replace a1 := bkb a1 hb; replace a2 := bkb a2 hb; replace a0 := bkb a0 hb; replace HB := bstep HB hb; (try clear hb); (try clear hb2); (try clear hk); (try clear hi)))
   replace b1 := am (Kd.R_drew b1.out)
   replace b0 := am (Kd.R_drew b0.out)
   replace a1 := am (blk_drew a1.out)
   replace a2 := am (blk_drew a2.out)
   replace a0 := am (blk_drew a0.out)
   replace HB := am (below_drew1 HB.out)
   refine start_ (n := 15) (S := fun w' => w'.cell? ⟨g7, 0, none⟩ = some (.slice d4 a4.length d0) ∧ w'.cell? ⟨g7, 1, none⟩ = some (.slice d3 a3.length c8) ∧ w'.cell? ⟨g6, 0, none⟩ = some (.slice d2 a6.length c7) ∧ w'.cell? ⟨g6, 1, none⟩ = some (.slice d1 a5.length c5) ∧ w'.cell? ⟨c3, 0, none⟩ = some (.int .i64 a9) ∧ w'.cell? ⟨c3, 1, none⟩ = some (.int .i64 a7) ∧ w'.cell? ⟨c3, 2, none⟩ = some (.int .i64 a8) ∧ w'.cell? ⟨c3, 3, none⟩ = some (.int .i64 b9)) (ds := []) #[false, false, false, false, false, false, false, false, false, false, false, false, false, false, false] (by kernel_rfl) rfl rfl ⟨bc a1 0, bc a1 1, bc a2 0, bc a2 1, bc a0 0, bc a0 1, bc a0 2, bc a0 3⟩ (fun hHeld => ?_); refine with_tabW scarfjointlaw18_StatisticCounts.tab5 scarfjointlaw18_StatisticCounts.bits5 (fun HT_ HW_ => ?_)
   generalize w0.drew = C2 at b1 b0 a1 a2 a0 HB hHeld ⊢
   refine pu 3 49 (bits 15 0x8) HT_ (h := ?_)
   refine pu 5 51 (bits 15 0x28) HT_ (h := ?_)
   refine pu 7 53 (bits 15 0xa8) HT_ (h := ?_)
   refine tk 0 46 (bits 15 0xa9) HT_ HW_ hHeld (hy := by rintro w' ⟨s0, s1, s2, s3, s4, s5, s6, s7⟩; go_simp; with_reducible rfl) (h := ?_)
   refine tk 1 47 (bits 15 0xab) HT_ HW_ hHeld (hy := by rintro w' ⟨s0, s1, s2, s3, s4, s5, s6, s7⟩; go_simp; with_reducible rfl) (h := ?_)
   refine tk 4 50 (bits 15 0xbb) HT_ HW_ hHeld (hy := by rintro w' ⟨s0, s1, s2, s3, s4, s5, s6, s7⟩; go_simp; with_reducible rfl) (h := ?_)
   refine tk 6 52 (bits 15 0xfb) HT_ HW_ hHeld (hy := by rintro w' ⟨s0, s1, s2, s3, s4, s5, s6, s7⟩; go_simp; with_reducible rfl) (h := ?_)
   refine tk 8 54 (bits 15 0x1fb) HT_ HW_ hHeld (hy := by rintro w' ⟨s0, s1, s2, s3, s4, s5, s6, s7⟩; go_simp; with_reducible rfl) (h := ?_)
   refine one_ (i := 2) (N := some 48) #[true, true, true, true, true, true, true, true, true, false, false, false, false, false, false] rfl rfl (one_of HT_.out (by kernel_rfl)) (by decide) (fun K hK => ?_)
   refine goes_ Tryz.func26 (by kernel_rfl) rfl #[.agg #[.slice d2 a6.length c7, .slice d1 a5.length c5]] (by rfl) rfl rfl (by (try simp only [List.map_toArray, List.map_cons, List.map_nil]); first | done | rfl | (simp only [List.length_drop, List.length_take]; rfl)) ?_
   with_reducible refine (scarfjointref18_Copied.calls _ _ a6 _ _ a5 m1 m0 _ ?b5 ?b4 ?b3 ?b2 w4.out).mono ?_
   (case b5 => exact cb h0 HB)
   (case b4 => exact h2.out)
   (case b3 => exact cb g9 HB)
   (case b2 => exact h1.out)
   rintro e C1 ⟨A5, A4, rfl, j3, j2, hb⟩
   refine ⟨_, rfl, ?_⟩
   have e0 := am (Kd.R_lower (Kd.R_new' (Kd.R_new' j3 (Kd.R_lt (kR b1))) (Kd.R_lt (kR b0))) (below_size (bb HB)))
   have d9 := am (Kd.R_lower (Kd.R_new' (Kd.R_new' j2 (Kd.R_lt (kR b1))) (Kd.R_lt (kR b0))) (below_size (bb HB)))
   replace b1 := am (Kd.R_mono (Kd.R_told (Kd.R_told (Kd.R_old (kR b1) hb) (Kd.R_base j3)) (Kd.R_base j2)) (fun _ h_ => h_.1))
   replace b0 := am (Kd.R_mono (Kd.R_told (Kd.R_told (Kd.R_old (kR b0) hb) (Kd.R_base j3)) (Kd.R_base j2)) (fun _ h_ => h_.1))
   replace a1 := bkb a1 hb
   replace a2 := bkb a2 hb
   replace a0 := bkb a0 hb
   replace HB := bstep HB hb
   (try clear hb)
   (try clear hb2)
   (try clear hk)
   (try clear hi)
   (try clear j3)
   (try clear j2)
   obtain ⟨q5, q1, eo53⟩ := Kd.R_slice e0.out
   (first | subst eo53 | (injection eo53 with f1_ f2_ f3_; have f4_ := f1_.symm; have f5_ := f3_.symm; clear f1_ f2_ f3_; subst f4_; subst f5_))
   obtain ⟨q4, q0, eo54⟩ := Kd.R_slice d9.out
   (first | subst eo54 | (injection eo54 with f1_ f2_ f3_; have f4_ := f1_.symm; have f5_ := f3_.symm; clear f1_ f2_ f3_; subst f4_; subst f5_))
   refine hK.out _ _ ⟨bc a1 0, bc a1 1, bc a2 0, bc a2 1, bc a0 0, bc a0 1, bc a0 2, bc a0 3⟩ (fun hHeld => ?_)
   clear hK K
   refine norm_ (a' := ?_) ?_ ?_
   rotate_left
   ·show Act.put _ (some 48) _ = _
    simp only [Act.put, List.setIfInBounds_toArray, List.set_cons_zero, List.set_cons_succ, i64_w, i32_w]
    rfl
   refine one_ (i := 9) (N := some 55) #[true, true, true, true, true, true, true, true, true, true, false, false, false, false, false] rfl rfl (one_of HT_.out (by kernel_rfl)) (by decide) (fun K hK => ?_)
   refine goes_ Tryz.func28 (by kernel_rfl) rfl #[.agg #[.slice d4 a4.length d0, .slice d3 a3.length c8], .agg #[.slice q5 m1.length q1, .slice q4 m0.length q0], .int .i64 a9, .int .i64 a7, .int .i64 a8] (by rfl) rfl rfl (by (try simp only [List.map_toArray, List.map_cons, List.map_nil]); first | done | rfl | (simp only [List.length_drop, List.length_take]; rfl)) ?_
   with_reducible refine (statistic_Edges.calls c0 _ _ a4 _ _ a3 _ _ m1 _ _ m0 a9 a7 a8 j9 m6 _ ?b5 ?b4 ?b3 ?b2 ?d8 ?d7 ?d6 ?d5 w3.out).mono ?_
   (case b5 => exact cb g1 HB)
   (case b4 => exact g3.out)
   (case b3 => exact cb g0 HB)
   (case b2 => exact g2.out)
   (case d8 => repeat (first | exact (Kd.R_reads' e0.out).2.2 | (with_reducible refine Kd.C_alloc ?_ _) | (with_reducible refine Kd.C_drewN ?_ _) | (with_reducible refine Kd.C_drew ?_)))
   (case d7 => exact (Kd.R_reads' e0.out).2.1)
   (case d6 => repeat (first | exact (Kd.R_reads' d9.out).2.2 | (with_reducible refine Kd.C_alloc ?_ _) | (with_reducible refine Kd.C_drewN ?_ _) | (with_reducible refine Kd.C_drew ?_)))
   (case d5 => exact (Kd.R_reads' d9.out).2.1)
   rintro e C0 ⟨rfl, hb⟩
   refine ⟨_, rfl, ?_⟩
   replace b1 := kRb b1 hb
   replace b0 := kRb b0 hb
   replace e0 := kRb e0 hb
   replace d9 := kRb d9 hb
   replace a1 := bkb a1 hb
   replace a2 := bkb a2 hb
   replace a0 := bkb a0 hb
   replace HB := bstep HB hb
   (try clear hb)
   (try clear hb2)
   (try clear hk)
   (try clear hi)
   refine hK.out _ _ ⟨bc a1 0, bc a1 1, bc a2 0, bc a2 1, bc a0 0, bc a0 1, bc a0 2, bc a0 3⟩ (fun hHeld => ?_)
   clear hK K
   refine norm_ (a' := ?_) ?_ ?_
   rotate_left
   ·show Act.put _ (some 55) _ = _
    simp only [Act.put, List.setIfInBounds_toArray, List.set_cons_zero, List.set_cons_succ, i64_w, i32_w]
    rfl
   refine pu 10 45 (bits 15 0x7ff) HT_ (h := ?_)
   refine pu 11 56 (bits 15 0xfff) HT_ (h := ?_)
   refine pu 12 57 (bits 15 0x1fff) HT_ (h := ?_)
   refine pu 13 11 (bits 15 0x3fff) HT_ (h := ?_)
   refine pu 14 12 (bits 15 0x7fff) HT_ (h := ?_)
   refine done_ (done_of HT_.out (by kernel_rfl)) ?_
   obtain ⟨v0, t9, r6, r5⟩ := cz2 a1
   obtain ⟨t8, t7, r4, r3⟩ := cz2 a2
   obtain ⟨t6, t5, t4, t3, r2, r1, r0, q9⟩ := cz4 a0
   try go_wp2_with (first | ((with_reducible refine gate_callee (f := 29) rfl ?_); refine gl 67 Tryz.func29 #[.agg #[.slice d4 a4.length d0, .slice d3 a3.length c8], .agg #[.slice d2 a6.length c7, .slice d1 a5.length c5], .int .i64 a9, .int .i64 a7, .int .i64 a8] (h := ?_); (with_reducible refine (scarfjointref18_Edges.calls c0 _ _ a4 _ _ a3 _ _ a6 _ _ a5 a9 a7 a8 m5 p0 _ ?b5 ?b4 ?b3 ?b2 ?d8 ?d7 ?d6 ?d5 w2.out).mono ?_); (case b5 => exact cb g1 HB); (case b4 => exact g3.out); (case b3 => exact cb g0 HB); (case b2 => exact g2.out); (case d8 => exact cb h0 HB); (case d7 => exact h2.out); (case d6 => exact cb g9 HB); (case d5 => exact h1.out); rintro e A9 ⟨rfl, hb⟩; refine ⟨_, rfl, ?_⟩; replace b1 := kRb b1 hb; replace b0 := kRb b0 hb; replace e0 := kRb e0 hb; replace d9 := kRb d9 hb; replace a1 := bkb a1 hb; replace a2 := bkb a2 hb; replace a0 := bkb a0 hb; replace HB := bstep HB hb; (try clear hb); (try clear hb2); (try clear hk); (try clear hi)))
   go_ret
   exact ⟨by first | rfl | (simp <;> rfl) | (simp [*] <;> rfl), bb HB⟩
end Go.Proofs.YtfpianecohobjaaGreat.P
