/- StatisticOf: a part of its proof. No condition. -/
import Derived.Test.YtfpianecohobjaaGreatEPx0
import Derived.Test.YtfpianecohobjaaGreatEMk
import Derived.Test.YtfpianecohobjaaGreatEPx19
import Derived.Test.YtfpianecohobjaaGreatEPx40
import Derived.Test.YtfpianecohobjaaGreatEPx42
import Derived.Test.YtfpianecohobjaaGreatEPx48
import Derived.Test.YtfpianecohobjaaGreatEMi
import Derived.Test.YtfpianecohobjaaGreatEPx57
namespace Go.Proofs.YtfpianecohobjaaGreat.P
open Go.RowKit Go.Proofs.YtfpianecohobjaaGreatW.PrintWords Go.Proofs.YtfpianecohobjaaGreatW.PrintLast Go.Proofs.YtfpianecohobjaaGreatW.PrintMore
set_option maxHeartbeats 8000000
set_option maxRecDepth 100000
set_option linter.unusedVariables false
set_option linter.unusedSimpArgs false
mutual
def scarfjointlaw18_StatisticEdge.j0 : Nat → Bool → List (S96) → List (S101) → List (S75) → List (S75) → Int → Int → Int → Int → Option (Bool)
 | 0, _, _, _, _, _, _, _, _, _ => none
 | k + 1, L6, j2, h9, h8, h7, h6, h5, h4, h3 => if L6 = true then ((scarfjointlaw18_awake.f k).bind fun t7 => (some t7)) else ((scarfjointref18_Copied.f h8 h7).bind fun t1 => ((statistic_Edge.f k j2 h9 t1.1 t1.2 h6 h5 h4 h3).bind fun e4 => ((scarfjointref18_Edge.f k j2 h9 h8 h7 h6 h5 h4 h3).bind fun e9 => (if e4.2.2 = e9.2.2 then ((scarfjointref18_Same.f k e4.1 e4.2.1 e9.1 e9.2.1).bind fun s9 => (if s9 = true then (scarfjointlaw18_StatisticEdge.j1 k e4.2.2 e9.2.2 (e4.2.2 != 0) j2 h9 h8 h7 h6 h5 h4 h3 e4.1 e4.2.1 e9.1 e9.2.1) else (scarfjointlaw18_StatisticEdge.j1 k e4.2.2 e9.2.2 true j2 h9 h8 h7 h6 h5 h4 h3 e4.1 e4.2.1 e9.1 e9.2.1))) else (scarfjointlaw18_StatisticEdge.j1 k e4.2.2 e9.2.2 true j2 h9 h8 h7 h6 h5 h4 h3 e4.1 e4.2.1 e9.1 e9.2.1)))))
def scarfjointlaw18_StatisticEdge.j1 : Nat → Int → Int → Bool → List (S96) → List (S101) → List (S75) → List (S75) → Int → Int → Int → Int → List (S75) → List (S75) → List (S75) → List (S75) → Option (Bool)
 | 0, _, _, _, _, _, _, _, _, _, _, _, _, _, _, _ => none
 | k + 1, x8, L7, L5, j2, h9, h8, h7, h6, h5, h4, h3, q5, q4, t3, t2 => if L5 = true then (if x8 = L7 then ((scarfjointref18_Same.f k q5 q4 t3 t2).bind fun t6 => (some t6)) else (some false)) else ((statistic_Edge.f k j2 h9 q5 q4 h6 h5 h4 (wrap64 (-h3))).bind fun q9 => (if q9.2.2 = 0 then ((scarfjointref18_Same.f k q9.1 q9.2.1 h8 h7).bind fun t5 => (some t5)) else (some false)))
end
def scarfjointlaw18_StatisticEdge.f (k : Nat) (c1 : List (S96)) (c0 : List (S101)) (c5 : List (S75)) (c4 : List (S75)) (d4 : Int) (d3 : Int) (d2 : Int) (d1 : Int) : Option (Bool) := (scarfjointlaw18_awake.f k).bind fun p6 => (if p6 = true then ((q4_Few.f k c1 c0).bind fun p5 => (if p5 = true then ((scarfjointref18_Few.f c5 c4).bind fun q3 => (scarfjointlaw18_StatisticEdge.j0 k (!q3) c1 c0 c5 c4 d4 d3 d2 d1)) else (scarfjointlaw18_StatisticEdge.j0 k true c1 c0 c5 c4 d4 d3 d2 d1))) else (scarfjointlaw18_StatisticEdge.j0 k true c1 c0 c5 c4 d4 d3 d2 d1))
def scarfjointlaw18_StatisticEdge.T3 : Bool × List (List Nat × List Nat) := (true, [([], []), ([], []), ([1], [1]), ([], []), ([3], [3]), ([], []), ([5], [5]), ([], []), ([7], [7]), ([], []), ([9], [9]), ([0, 2, 4, 6, 8, 10, 2], [0, 2, 4, 6, 8, 10]), ([11], [11]), ([12], [12]), ([12], [12]), ([], []), ([15, 13, 11, 0, 1, 2, 3, 4, 5, 6, 7, 8, 9, 10, 11, 12, 13, 15], [13, 15]), ([14, 16, 0, 1, 2, 3, 4, 5, 6, 7, 8, 9, 10, 11, 12, 13, 14, 15, 16], [14])])
def scarfjointlaw18_StatisticEdge.B3 : List Nat := [0, 0, 2, 0, 8, 0, 32, 0, 128, 0, 512, 2047, 4095, 8191, 8191, 0, 49151, 131071]
theorem scarfjointlaw18_StatisticEdge.tab3 : rtab .any (opsOf Tryz.f8 3) = scarfjointlaw18_StatisticEdge.T3 := by kernel_rfl
theorem scarfjointlaw18_StatisticEdge.bits3 : waitsOk scarfjointlaw18_StatisticEdge.T3.2 scarfjointlaw18_StatisticEdge.B3 = true := by kernel_rfl
theorem scarfjointlaw18_StatisticEdge.calls (k : Nat) (g3 : Option Addr) (g1 : Nat) (c1 : List (S96)) (g2 : Option Addr) (g0 : Nat) (c0 : List (S101)) (h2 : Option Addr) (h0 : Nat) (c5 : List (S75)) (h1 : Option Addr) (g9 : Nat) (c4 : List (S75)) (d4 : Int) (d3 : Int) (d2 : Int) (d1 : Int) (r : Bool) (w : World) (v1 : Kd.C k96 w g3 c1.length c1) (v5 : c1.length ≤ g1) (v0 : Kd.C k101 w g2 c0.length c0) (v4 : c0.length ≤ g0) (t9 : Kd.C k75 w h2 c5.length c5) (v3 : c5.length ≤ h0) (t8 : Kd.C k75 w h1 c4.length c4) (v2 : c4.length ≤ g9) (h : scarfjointlaw18_StatisticEdge.f k c1 c0 c5 c4 d4 d3 d2 d1 = some r) :
  Calls Tryz.prog 8 #[.agg #[.slice g3 c1.length g1, .slice g2 c0.length g0], .agg #[.slice h2 c5.length h0, .slice h1 c4.length g9], .agg #[.int .i64 d4, .int .i64 d3, .int .i64 d2, .int .i64 d1]] w fun e w' => e = .returned (.bool r) ∧ Below w.heap.size w w' := by
 have hu31 := Tryz.underlying31
 have hu46 := Tryz.underlying46
 have hu65 := Tryz.underlying65
 have p0 := Aside0.mk v1
 have p2 := Aside0.mk v5
 clear v1 v5
 have o9 := Aside0.mk v0
 have p1 := Aside0.mk v4
 clear v0 v4
 have p9 := Aside0.mk t9
 have q1 := Aside0.mk v3
 clear t9 v3
 have p8 := Aside0.mk t8
 have q0 := Aside0.mk v2
 clear t8 v2
 have HB := Aside0.mk (Below.refl w.heap.size w)
 have H : ((scarfjointlaw18_awake.f k).bind fun p6 => (if p6 = true then ((q4_Few.f k c1 c0).bind fun p5 => (if p5 = true then ((scarfjointref18_Few.f c5 c4).bind fun q3 => (scarfjointlaw18_StatisticEdge.j0 k (!q3) c1 c0 c5 c4 d4 d3 d2 d1)) else (scarfjointlaw18_StatisticEdge.j0 k true c1 c0 c5 c4 d4 d3 d2 d1))) else (scarfjointlaw18_StatisticEdge.j0 k true c1 c0 c5 c4 d4 d3 d2 d1))) = some r := h
 clear h
 have C4 := Aside0.mk H
 clear H
 go_enter Tryz.func8, Tryz.ntmps8
 go_upto_region 1 with (first | ((with_reducible refine gate_dst (N := 3) rfl ?_); refine be 3 #[.slice g3 c1.length g1, .slice g2 c0.length g0] 31 ?_; intro d7 hg w5 hbox hb; have a1 := Aside0.mk (hbox); have P7 := bsz HB hg; replace HB := bstep HB hb; clear hb hbox hg) | ((with_reducible refine gate_dst (N := 4) rfl ?_); refine be 4 #[.slice h2 c5.length h0, .slice h1 c4.length g9] 46 ?_; intro d6 hg w6 hbox hb; have a2 := Aside0.mk (hbox); have P6 := bsz HB hg; replace HB := bstep HB hb; have o3 := blt a1 hg; have o1 := bgt a1 hg; replace a1 := bkb a1 hb; clear hb hbox hg) | ((with_reducible refine gate_dst (N := 5) rfl ?_); refine be 5 #[.int .i64 d4, .int .i64 d3, .int .i64 d2, .int .i64 d1] 65 ?_; intro b6 hg w7 hbox hb; have a0 := Aside0.mk (hbox); have P5 := bsz HB hg; replace HB := bstep HB hb; have o2 := blt a1 hg; have n9 := bgt a1 hg; replace a1 := bkb a1 hb; have o0 := blt a2 hg; have n8 := bgt a2 hg; replace a2 := bkb a2 hb; clear hb hbox hg))
 (try simp only [Act.put, List.setIfInBounds_toArray, List.set_cons_zero, List.set_cons_succ])
 go_cut [24] (fun M1 wc => ∃ (kq : Nat) (q2 : Bool), M1 = .bool q2 ∧ Aside0 (scarfjointlaw18_StatisticEdge.j0 kq q2 c1 c0 c5 c4 d4 d3 d2 d1 = some r) ∧ Aside0 (kq ≤ k) ∧ Aside0 (wc.heap[d7]? = some (.cells #[(.slice g3 c1.length g1), (.slice g2 c0.length g0)] 31 (0, 0))) ∧ Aside0 (wc.heap[d6]? = some (.cells #[(.slice h2 c5.length h0), (.slice h1 c4.length g9)] 46 (0, 0))) ∧ Aside0 (wc.heap[b6]? = some (.cells #[.int .i64 d4, .int .i64 d3, .int .i64 d2, .int .i64 d1] 65 (0, 0))) ∧ Aside0 (Below w.heap.size w wc))
 case first =>
  have H := C4.out
  clear C4
  obtain ⟨p6, A8, H⟩ := obA H
  by_cases c9 : p6 = true
  subst c9
  replace H := ift H
  obtain ⟨p5, Q5, H⟩ := obA H
  by_cases v9 : p5 = true
  subst v9
  replace H := ift H
  obtain ⟨q3, Q4, H⟩ := obA H
  have H' := Aside0.mk H
  clear H
  rotate_left
  replace v9 := Bool.eq_false_iff.mpr v9
  subst v9
  replace H := iff_ H
  have H' := Aside0.mk H
  clear H
  rotate_left
  replace c9 := Bool.eq_false_iff.mpr c9
  subst c9
  replace H := iff_ H
  have H' := Aside0.mk H
  clear H
  all_goals
   go_wp2_with (first | ((with_reducible refine gate_callee (f := 10) rfl ?_); refine gl 13 Tryz.func10 #[] (h := ?_); (with_reducible refine (scarfjointlaw18_awake.calls _ _ _ A8.out).mono ?_); rintro e w13 ⟨rfl, hb⟩; refine ⟨_, rfl, ?_⟩; replace a1 := bkb a1 hb; replace a2 := bkb a2 hb; replace a0 := bkb a0 hb; replace HB := bstep HB hb; clear hb; have Y3 := o3.out; have V6 := o1.out; have Y2 := o2.out; have V5 := n9.out; obtain ⟨L4, L3, J2, J1⟩ := cz2 a1) | (go_at_call 20; (with_reducible refine (q4_Few.calls _ _ _ _ _ _ _ _ _ (cb p0 HB) p2.out (cb o9 HB) p1.out Q5.out).mono ?_); rintro e w17 ⟨rfl, hb⟩; replace a1 := bkb a1 hb; replace a2 := bkb a2 hb; replace a0 := bkb a0 hb; replace HB := bstep HB hb; clear hb; have Y1 := o0.out; have V4 := n8.out; obtain ⟨L2, L1, J0, I9⟩ := cz2 a2) | (go_at_call 24; (with_reducible refine (scarfjointref18_Few.calls _ _ _ _ _ _ _ _ (cb p9 HB) q1.out (cb p8 HB) q0.out Q4.out).mono ?_); rintro e w20 ⟨rfl, hb⟩; replace a1 := bkb a1 hb; replace a2 := bkb a2 hb; replace a0 := bkb a0 hb; replace HB := bstep HB hb; clear hb))
   go_meet
   case rel => exact ⟨_, _, eqs, H', ⟨by first | omega | exact Nat.le_refl _⟩, ⟨bk a1⟩, ⟨bk a2⟩, ⟨bk a0⟩, ⟨bb HB⟩⟩
 case rest =>
  clear C4
  obtain ⟨kq, q2, rfl, HA, E2, a1, a2, a0, HB⟩ := hcut
  cases kq with
  | zero => exact absurd HA.out (by simp [scarfjointlaw18_StatisticEdge.j0])
  | succ M2 =>
   have H := HA.out
   clear HA
   simp only [scarfjointlaw18_StatisticEdge.j0] at H
   by_cases v8 : q2 = true
   ·subst v8
    replace H := ift H
    obtain ⟨t7, Q3, H⟩ := obA H
    obtain rfl := Option.some.inj H
    go_wp2_with (first | ((with_reducible refine gate_callee (f := 10) rfl ?_); refine gl 25 Tryz.func10 #[] (h := ?_); (with_reducible refine (scarfjointlaw18_awake.calls _ _ _ Q3.out).mono ?_); rintro e Z9 ⟨rfl, hb⟩; refine ⟨_, rfl, ?_⟩; replace a1 := bkb a1 hb; replace a2 := bkb a2 hb; replace a0 := bkb a0 hb; replace HB := bstep HB hb; clear hb))
    go_ret
    exact ⟨erf, bb HB⟩
   replace v8 := Bool.eq_false_iff.mpr v8
   subst v8
   replace H := iff_ H
   obtain ⟨⟨n7, n6⟩, E3, H⟩ := obA H
   try dsimp only at H
   obtain ⟨⟨b3, b2, o8⟩, C6, H⟩ := obA H
   try dsimp only at H
   obtain ⟨⟨b5, b4, t0⟩, Q2, H⟩ := obA H
   try dsimp only at H
   have t4 := Aside0.mk H
   clear H
   try go_wp2
   replace a1 := Aside0.mk (blk_drew a1.out)
   replace a2 := Aside0.mk (blk_drew a2.out)
   replace a0 := Aside0.mk (blk_drew a0.out)
   replace HB := Aside0.mk (below_drew1 HB.out)
   refine start_ (n := 18) (S := fun w' => w'.cell? ⟨d7, 0, none⟩ = some (.slice g3 c1.length g1) ∧ w'.cell? ⟨d7, 1, none⟩ = some (.slice g2 c0.length g0) ∧ w'.cell? ⟨d6, 0, none⟩ = some (.slice h2 c5.length h0) ∧ w'.cell? ⟨d6, 1, none⟩ = some (.slice h1 c4.length g9) ∧ w'.cell? ⟨b6, 0, none⟩ = some (.int .i64 d4) ∧ w'.cell? ⟨b6, 1, none⟩ = some (.int .i64 d3) ∧ w'.cell? ⟨b6, 2, none⟩ = some (.int .i64 d2) ∧ w'.cell? ⟨b6, 3, none⟩ = some (.int .i64 d1)) (ds := []) #[false, false, false, false, false, false, false, false, false, false, false, false, false, false, false, false, false, false] (by kernel_rfl) rfl rfl ⟨bc a1 0, bc a1 1, bc a2 0, bc a2 1, bc a0 0, bc a0 1, bc a0 2, bc a0 3⟩ (fun hHeld => ?_); refine with_tabW scarfjointlaw18_StatisticEdge.tab3 scarfjointlaw18_StatisticEdge.bits3 (fun HT_ HW_ => ?_)
   generalize wc.drew = Z8 at a1 a2 a0 HB hHeld ⊢
   refine pu 3 30 (bits 18 0x8) HT_ (h := ?_)
   refine pu 5 32 (bits 18 0x28) HT_ (h := ?_)
   refine pu 7 34 (bits 18 0xa8) HT_ (h := ?_)
   refine pu 9 36 (bits 18 0x2a8) HT_ (h := ?_)
   refine tk 0 27 (bits 18 0x2a9) HT_ HW_ hHeld (hy := by rintro w' ⟨s0, s1, s2, s3, s4, s5, s6, s7⟩; go_simp; with_reducible rfl) (h := ?_)
   refine tk 1 28 (bits 18 0x2ab) HT_ HW_ hHeld (hy := by rintro w' ⟨s0, s1, s2, s3, s4, s5, s6, s7⟩; go_simp; with_reducible rfl) (h := ?_)
   refine tk 4 31 (bits 18 0x2bb) HT_ HW_ hHeld (hy := by rintro w' ⟨s0, s1, s2, s3, s4, s5, s6, s7⟩; go_simp; with_reducible rfl) (h := ?_)
   refine tk 6 33 (bits 18 0x2fb) HT_ HW_ hHeld (hy := by rintro w' ⟨s0, s1, s2, s3, s4, s5, s6, s7⟩; go_simp; with_reducible rfl) (h := ?_)
   refine tk 8 35 (bits 18 0x3fb) HT_ HW_ hHeld (hy := by rintro w' ⟨s0, s1, s2, s3, s4, s5, s6, s7⟩; go_simp; with_reducible rfl) (h := ?_)
   refine tk 10 37 (bits 18 0x7fb) HT_ HW_ hHeld (hy := by rintro w' ⟨s0, s1, s2, s3, s4, s5, s6, s7⟩; go_simp; with_reducible rfl) (h := ?_)
   refine join_ (σ := Value × Value × Value × Value × Nat) 2 #[true, true, true, true, true, true, true, true, true, true, true, true, true, true, true, true, false, false] (fun s_ => [(29, .agg #[s_.1, s_.2.1]), (38, .tuple #[.agg #[s_.2.2.1, s_.2.2.2.1], .int .i64 o8]), (7, .pointer (some ⟨s_.2.2.2.2, 0, none⟩)), (26, .tuple #[.agg #[s_.2.2.1, s_.2.2.2.1], .int .i64 o8]), (39, .agg #[s_.2.2.1, s_.2.2.2.1]), (40, .int .i64 o8)]) (fun s_ w' => (w'.cell? ⟨d7, 0, none⟩ = some (.slice g3 c1.length g1) ∧ w'.cell? ⟨d7, 1, none⟩ = some (.slice g2 c0.length g0) ∧ w'.cell? ⟨d6, 0, none⟩ = some (.slice h2 c5.length h0) ∧ w'.cell? ⟨d6, 1, none⟩ = some (.slice h1 c4.length g9) ∧ w'.cell? ⟨b6, 0, none⟩ = some (.int .i64 d4) ∧ w'.cell? ⟨b6, 1, none⟩ = some (.int .i64 d3) ∧ w'.cell? ⟨b6, 2, none⟩ = some (.int .i64 d2) ∧ w'.cell? ⟨b6, 3, none⟩ = some (.int .i64 d1)) ∧ (Kd.R k75 75 w' w.heap.size (fun k_ => some k_ ≠ (s_.2.1 : Value).ownBlock ∧ some k_ ≠ (s_.2.2.1 : Value).ownBlock ∧ some k_ ≠ (s_.2.2.2.1 : Value).ownBlock) s_.1 n7) ∧ (Kd.R k75 75 w' w.heap.size (fun k_ => some k_ ≠ (s_.1 : Value).ownBlock ∧ some k_ ≠ (s_.2.2.1 : Value).ownBlock ∧ some k_ ≠ (s_.2.2.2.1 : Value).ownBlock) s_.2.1 n6) ∧ (Kd.R k75 75 w' w.heap.size (fun k_ => some k_ ≠ (s_.1 : Value).ownBlock ∧ some k_ ≠ (s_.2.1 : Value).ownBlock ∧ some k_ ≠ (s_.2.2.2.1 : Value).ownBlock) s_.2.2.1 b3) ∧ (Kd.R k75 75 w' w.heap.size (fun k_ => some k_ ≠ (s_.1 : Value).ownBlock ∧ some k_ ≠ (s_.2.1 : Value).ownBlock ∧ some k_ ≠ (s_.2.2.1 : Value).ownBlock) s_.2.2.2.1 b2) ∧ (w'.heap[d7]? = some (.cells #[.slice g3 c1.length g1, .slice g2 c0.length g0] 31 (0, 0))) ∧ (w'.heap[d6]? = some (.cells #[.slice h2 c5.length h0, .slice h1 c4.length g9] 46 (0, 0))) ∧ (w'.heap[b6]? = some (.cells #[.int .i64 d4, .int .i64 d3, .int .i64 d2, .int .i64 d1] 65 (0, 0))) ∧ (w'.heap[s_.2.2.2.2]? = some (.cells #[.slice none 0 0, .slice none 0 0] 46 (0, 0))) ∧ (w.heap.size ≤ s_.2.2.2.2) ∧ (w.heap.size ≤ s_.2.2.2.2) ∧ (d7 ≠ s_.2.2.2.2) ∧ (s_.2.2.2.2 ≠ d7) ∧ (d6 ≠ s_.2.2.2.2) ∧ (s_.2.2.2.2 ≠ d6) ∧ (b6 ≠ s_.2.2.2.2) ∧ (s_.2.2.2.2 ≠ b6) ∧ (Below w.heap.size w w')) ?_ ?_
   rotate_left
   ·intro hCont
    refine two_ (i := 2) (j := 15) (Ni := some 29) (Nj := some 7) #[true, true, true, true, true, true, true, true, true, true, true, false, false, false, false, false, false, false] #[true, true, false, true, true, true, true, true, true, true, true, false, false, false, false, true, false, false] rfl rfl rfl rfl (two_of HT_.out (by kernel_rfl)) (by decide) (by decide) (fun K hK => ?_) (fun K hK => ?_)
    ·skip
     refine goes_ Tryz.func26 (by kernel_rfl) rfl #[.agg #[.slice h2 c5.length h0, .slice h1 c4.length g9]] (by rfl) rfl rfl (by (try simp only [List.map_toArray, List.map_cons, List.map_nil]); first | done | rfl | (simp only [List.length_drop, List.length_take]; rfl)) ?_
     with_reducible refine (scarfjointref18_Copied.calls _ _ _ _ _ _ _ _ _ ?e8 ?e7 ?e6 ?e5 E3.out).mono ?_
     (case e8 => exact cb p9 HB)
     (case e7 => exact q1.out)
     (case e6 => exact cb p8 HB)
     (case e5 => exact q0.out)
     rintro e L9 ⟨m3, m2, rfl, e3, e2, hb⟩
     refine ⟨_, rfl, ?_⟩
     have a6 := Aside0.mk (Kd.R_lower e3 (below_size (bb HB)))
     have a5 := Aside0.mk (Kd.R_lower e2 (below_size (bb HB)))
     replace a1 := bkb a1 hb
     replace a2 := bkb a2 hb
     replace a0 := bkb a0 hb
     replace HB := bstep HB hb
     (try clear hb)
     (try clear hb2)
     (try clear hk)
     (try clear hi)
     (try clear e3)
     (try clear e2)
     obtain ⟨C5, C1, eo36⟩ := Kd.R_slice a6.out
     (first | subst eo36 | (injection eo36 with f1_ f2_ f3_; have f4_ := f1_.symm; have f5_ := f3_.symm; clear f1_ f2_ f3_; subst f4_; subst f5_))
     obtain ⟨o7, o6, eo37⟩ := Kd.R_slice a5.out
     (first | subst eo37 | (injection eo37 with f1_ f2_ f3_; have f4_ := f1_.symm; have f5_ := f3_.symm; clear f1_ f2_ f3_; subst f4_; subst f5_))
     refine hK.out _ _ ⟨bc a1 0, bc a1 1, bc a2 0, bc a2 1, bc a0 0, bc a0 1, bc a0 2, bc a0 3⟩ (fun hHeld => ?_)
     clear hK K
     refine norm_ (a' := ?_) ?_ ?_
     rotate_left
     ·show Act.put _ (some 29) _ = _
      simp only [Act.put, List.setIfInBounds_toArray, List.set_cons_zero, List.set_cons_succ, i64_w, i32_w]
      rfl
     refine two_ (i := 11) (j := 15) (Ni := some 38) (Nj := some 7) #[true, true, true, true, true, true, true, true, true, true, true, true, false, false, false, false, false, false] #[true, true, true, true, true, true, true, true, true, true, true, false, false, false, false, true, false, false] rfl rfl rfl rfl (two_of HT_.out (by kernel_rfl)) (by decide) (by decide) (fun K hK => ?_) (fun K hK => ?_)
     ·skip
      refine goes_ Tryz.func19 (by kernel_rfl) rfl #[.agg #[.slice g3 c1.length g1, .slice g2 c0.length g0], .agg #[.slice C5 n7.length C1, .slice o7 n6.length o6], .int .i64 d4, .int .i64 d3, .int .i64 d2, .int .i64 d1] (by rfl) rfl rfl (by (try simp only [List.map_toArray, List.map_cons, List.map_nil]); first | done | rfl | (simp only [List.length_drop, List.length_take]; rfl)) ?_
      with_reducible refine (statistic_Edge.calls _ _ _ _ _ _ _ _ _ _ _ _ _ _ _ _ _ _ _ _ _ ?e8 ?e7 ?e6 ?e5 ?g8 ?g7 ?g6 ?g5 C6.out).mono ?_
      (case e8 => exact cb p0 HB)
      (case e7 => exact p2.out)
      (case e6 => exact cb o9 HB)
      (case e5 => exact p1.out)
      (case g8 => repeat (first | exact (Kd.R_reads' a6.out).2.2 | (with_reducible refine Kd.C_alloc ?_ _) | (with_reducible refine Kd.C_drewN ?_ _) | (with_reducible refine Kd.C_drew ?_)))
      (case g7 => exact (Kd.R_reads' a6.out).2.1)
      (case g6 => repeat (first | exact (Kd.R_reads' a5.out).2.2 | (with_reducible refine Kd.C_alloc ?_ _) | (with_reducible refine Kd.C_drewN ?_ _) | (with_reducible refine Kd.C_drew ?_)))
      (case g5 => exact (Kd.R_reads' a5.out).2.1)
      rintro e Z7 ⟨m1, m0, rfl, e3, e2, hb⟩
      refine ⟨_, rfl, ?_⟩
      have c3 := Aside0.mk (Kd.R_lower (Kd.R_new' (Kd.R_new' e3 (Kd.R_lt (kR a6))) (Kd.R_lt (kR a5))) (below_size (bb HB)))
      have c2 := Aside0.mk (Kd.R_lower (Kd.R_new' (Kd.R_new' e2 (Kd.R_lt (kR a6))) (Kd.R_lt (kR a5))) (below_size (bb HB)))
      replace a6 := Aside0.mk (Kd.R_mono (Kd.R_told (Kd.R_told (Kd.R_old (kR a6) hb) (Kd.R_base e3)) (Kd.R_base e2)) (fun _ h_ => h_.1))
      replace a5 := Aside0.mk (Kd.R_mono (Kd.R_told (Kd.R_told (Kd.R_old (kR a5) hb) (Kd.R_base e3)) (Kd.R_base e2)) (fun _ h_ => h_.1))
      replace a1 := bkb a1 hb
      replace a2 := bkb a2 hb
      replace a0 := bkb a0 hb
      replace HB := bstep HB hb
      (try clear hb)
      (try clear hb2)
      (try clear hk)
      (try clear hi)
      (try clear e3)
      (try clear e2)
      refine hK.out _ _ ⟨bc a1 0, bc a1 1, bc a2 0, bc a2 1, bc a0 0, bc a0 1, bc a0 2, bc a0 3⟩ (fun hHeld => ?_)
      clear hK K
      refine norm_ (a' := ?_) ?_ ?_
      rotate_left
      ·show Act.put _ (some 38) _ = _
       simp only [Act.put, List.setIfInBounds_toArray, List.set_cons_zero, List.set_cons_succ, i64_w, i32_w]
       rfl
      refine pu 12 26 (bits 18 0x1fff) HT_ (h := ?_)
      refine pu 13 39 (bits 18 0x3fff) HT_ (h := ?_)
      refine pu 14 40 (bits 18 0x7fff) HT_ (h := ?_)
      refine one_ (i := 15) (N := some 7) #[true, true, true, true, true, true, true, true, true, true, true, true, true, true, true, true, false, false] rfl rfl (one_of HT_.out (by kernel_rfl)) (by decide) (fun K hK => ?_)
      refine box_step ?hg (N := 7) ?hd (cs := #[.slice none 0 0, .slice none 0 0]) (t := 46) ?hr ?_; (case hd => rfl); (case hg => rfl); (case hr => first | (go_simp; done) | (go_simp; rfl))
      intro a3 hg D1 hbox hb
      replace a6 := kRb a6 hb
      replace a5 := kRb a5 hb
      replace c3 := kRb c3 hb
      replace c2 := kRb c2 hb
      have a4 := Aside0.mk (hbox)
      have o4 := bsz HB hg
      have o5 := bsz HB hg
      replace HB := bstep HB hb
      have b1 := blt a1 hg
      have b9 := bgt a1 hg
      replace a1 := bkb a1 hb
      have b0 := blt a2 hg
      have b8 := bgt a2 hg
      replace a2 := bkb a2 hb
      have a7 := blt a0 hg
      have b7 := bgt a0 hg
      replace a0 := bkb a0 hb
      clear hb hbox hg
      refine hK.out _ _ ⟨bc a1 0, bc a1 1, bc a2 0, bc a2 1, bc a0 0, bc a0 1, bc a0 2, bc a0 3⟩ (fun hHeld => ?_)
      clear hK K
      refine norm_ (a' := ?_) ?_ ?_
      rotate_left
      ·show Act.put _ (some 7) _ = _
       simp only [Act.put, List.setIfInBounds_toArray, List.set_cons_zero, List.set_cons_succ, i64_w, i32_w]
       rfl
      exact norm_ (by simp only [putAll, Act.put, List.setIfInBounds_toArray, List.set_cons_zero, List.set_cons_succ]) (hCont (.slice C5 n7.length C1, .slice o7 n6.length o6, m1, m0, a3) _ ⟨hHeld, (by (with_reducible repeat (first | apply Kd.R_alloc | apply Kd.R_drewN | apply Kd.R_drew)); exact Kd.R_mono a6.out (fun _ hk => ⟨hk.1.1, ⟨hk.1.2, hk.2⟩⟩)), (by (with_reducible repeat (first | apply Kd.R_alloc | apply Kd.R_drewN | apply Kd.R_drew)); exact Kd.R_mono a5.out (fun _ hk => ⟨hk.1.1, ⟨hk.1.2, hk.2⟩⟩)), (by (with_reducible repeat (first | apply Kd.R_alloc | apply Kd.R_drewN | apply Kd.R_drew)); exact Kd.R_mono c3.out (fun _ hk => ⟨hk.1.2, ⟨hk.2, hk.1.1⟩⟩)), (by (with_reducible repeat (first | apply Kd.R_alloc | apply Kd.R_drewN | apply Kd.R_drew)); exact Kd.R_mono c2.out (fun _ hk => ⟨hk.1.2, ⟨hk.2, hk.1.1⟩⟩)), (bk a1), (bk a2), (bk a0), (bk a4), o4.out, o5.out, b1.out, b9.out, b0.out, b8.out, a7.out, b7.out, (bb HB)⟩)
     ·skip
      refine box_step ?hg (N := 7) ?hd (cs := #[.slice none 0 0, .slice none 0 0]) (t := 46) ?hr ?_; (case hd => rfl); (case hg => rfl); (case hr => first | (go_simp; done) | (go_simp; rfl))
      intro a3 hg L8 hbox hb
      replace a6 := kRb a6 hb
      replace a5 := kRb a5 hb
      have a4 := Aside0.mk (hbox)
      have o4 := bsz HB hg
      have o5 := bsz HB hg
      replace HB := bstep HB hb
      have b1 := blt a1 hg
      have b9 := bgt a1 hg
      replace a1 := bkb a1 hb
      have b0 := blt a2 hg
      have b8 := bgt a2 hg
      replace a2 := bkb a2 hb
      have a7 := blt a0 hg
      have b7 := bgt a0 hg
      replace a0 := bkb a0 hb
      clear hb hbox hg
      obtain ⟨o7, o6, eo37⟩ := Kd.R_slice a6.out
      (first | subst eo37 | (injection eo37 with f1_ f2_ f3_; have f4_ := f1_.symm; have f5_ := f3_.symm; clear f1_ f2_ f3_; subst f4_; subst f5_))
      obtain ⟨r0, q6, eo38⟩ := Kd.R_slice a5.out
      (first | subst eo38 | (injection eo38 with f1_ f2_ f3_; have f4_ := f1_.symm; have f5_ := f3_.symm; clear f1_ f2_ f3_; subst f4_; subst f5_))
      refine hK.out _ _ ⟨bc a1 0, bc a1 1, bc a2 0, bc a2 1, bc a0 0, bc a0 1, bc a0 2, bc a0 3⟩ (fun hHeld => ?_)
      clear hK K
      refine norm_ (a' := ?_) ?_ ?_
      rotate_left
      ·show Act.put _ (some 7) _ = _
       simp only [Act.put, List.setIfInBounds_toArray, List.set_cons_zero, List.set_cons_succ, i64_w, i32_w]
       rfl
      refine one_ (i := 11) (N := some 38) #[true, true, true, true, true, true, true, true, true, true, true, true, false, false, false, true, false, false] rfl rfl (one_of HT_.out (by kernel_rfl)) (by decide) (fun K hK => ?_)
      refine goes_ Tryz.func19 (by kernel_rfl) rfl #[.agg #[.slice g3 c1.length g1, .slice g2 c0.length g0], .agg #[.slice o7 n7.length o6, .slice r0 n6.length q6], .int .i64 d4, .int .i64 d3, .int .i64 d2, .int .i64 d1] (by rfl) rfl rfl (by (try simp only [List.map_toArray, List.map_cons, List.map_nil]); first | done | rfl | (simp only [List.length_drop, List.length_take]; rfl)) ?_
      with_reducible refine (statistic_Edge.calls _ _ _ _ _ _ _ _ _ _ _ _ _ _ _ _ _ _ _ _ _ ?e8 ?e7 ?e6 ?e5 ?g8 ?g7 ?g6 ?g5 C6.out).mono ?_
      (case e8 => exact cb p0 HB)
      (case e7 => exact p2.out)
      (case e6 => exact cb o9 HB)
      (case e5 => exact p1.out)
      (case g8 => repeat (first | exact (Kd.R_reads' a6.out).2.2 | (with_reducible refine Kd.C_alloc ?_ _) | (with_reducible refine Kd.C_drewN ?_ _) | (with_reducible refine Kd.C_drew ?_)))
      (case g7 => exact (Kd.R_reads' a6.out).2.1)
      (case g6 => repeat (first | exact (Kd.R_reads' a5.out).2.2 | (with_reducible refine Kd.C_alloc ?_ _) | (with_reducible refine Kd.C_drewN ?_ _) | (with_reducible refine Kd.C_drew ?_)))
      (case g5 => exact (Kd.R_reads' a5.out).2.1)
      rintro e D1 ⟨m1, m0, rfl, e3, e2, hb⟩
      refine ⟨_, rfl, ?_⟩
      have c3 := Aside0.mk (Kd.R_lower (Kd.R_new' (Kd.R_new' e3 (Kd.R_lt (kR a6))) (Kd.R_lt (kR a5))) (below_size (bb HB)))
      have c2 := Aside0.mk (Kd.R_lower (Kd.R_new' (Kd.R_new' e2 (Kd.R_lt (kR a6))) (Kd.R_lt (kR a5))) (below_size (bb HB)))
      replace a6 := Aside0.mk (Kd.R_mono (Kd.R_told (Kd.R_told (Kd.R_old (kR a6) hb) (Kd.R_base e3)) (Kd.R_base e2)) (fun _ h_ => h_.1))
      replace a5 := Aside0.mk (Kd.R_mono (Kd.R_told (Kd.R_told (Kd.R_old (kR a5) hb) (Kd.R_base e3)) (Kd.R_base e2)) (fun _ h_ => h_.1))
      replace a1 := bkb a1 hb
      replace a2 := bkb a2 hb
      replace a0 := bkb a0 hb
      replace a4 := bkb a4 hb
      replace HB := bstep HB hb
      (try clear hb)
      (try clear hb2)
      (try clear hk)
      (try clear hi)
      (try clear e3)
      (try clear e2)
      refine hK.out _ _ ⟨bc a1 0, bc a1 1, bc a2 0, bc a2 1, bc a0 0, bc a0 1, bc a0 2, bc a0 3⟩ (fun hHeld => ?_)
      clear hK K
      refine norm_ (a' := ?_) ?_ ?_
      rotate_left
      ·show Act.put _ (some 38) _ = _
       simp only [Act.put, List.setIfInBounds_toArray, List.set_cons_zero, List.set_cons_succ, i64_w, i32_w]
       rfl
      refine pu 12 26 (bits 18 0x9fff) HT_ (h := ?_)
      refine pu 13 39 (bits 18 0xbfff) HT_ (h := ?_)
      refine pu 14 40 (bits 18 0xffff) HT_ (h := ?_)
      exact norm_ (by simp only [putAll, Act.put, List.setIfInBounds_toArray, List.set_cons_zero, List.set_cons_succ]) (hCont (.slice o7 n7.length o6, .slice r0 n6.length q6, m1, m0, a3) _ ⟨hHeld, (by (with_reducible repeat (first | apply Kd.R_alloc | apply Kd.R_drewN | apply Kd.R_drew)); exact Kd.R_mono a6.out (fun _ hk => ⟨hk.1.1, ⟨hk.1.2, hk.2⟩⟩)), (by (with_reducible repeat (first | apply Kd.R_alloc | apply Kd.R_drewN | apply Kd.R_drew)); exact Kd.R_mono a5.out (fun _ hk => ⟨hk.1.1, ⟨hk.1.2, hk.2⟩⟩)), (by (with_reducible repeat (first | apply Kd.R_alloc | apply Kd.R_drewN | apply Kd.R_drew)); exact Kd.R_mono c3.out (fun _ hk => ⟨hk.1.2, ⟨hk.2, hk.1.1⟩⟩)), (by (with_reducible repeat (first | apply Kd.R_alloc | apply Kd.R_drewN | apply Kd.R_drew)); exact Kd.R_mono c2.out (fun _ hk => ⟨hk.1.2, ⟨hk.2, hk.1.1⟩⟩)), (bk a1), (bk a2), (bk a0), (bk a4), o4.out, o5.out, b1.out, b9.out, b0.out, b8.out, a7.out, b7.out, (bb HB)⟩)
    ·skip
     refine box_step ?hg (N := 7) ?hd (cs := #[.slice none 0 0, .slice none 0 0]) (t := 46) ?hr ?_; (case hd => rfl); (case hg => rfl); (case hr => first | (go_simp; done) | (go_simp; rfl))
     intro a3 hg L9 hbox hb
     have a4 := Aside0.mk (hbox)
     have o4 := bsz HB hg
     have o5 := bsz HB hg
     replace HB := bstep HB hb
     have b1 := blt a1 hg
     have b9 := bgt a1 hg
     replace a1 := bkb a1 hb
     have b0 := blt a2 hg
     have b8 := bgt a2 hg
     replace a2 := bkb a2 hb
     have a7 := blt a0 hg
     have b7 := bgt a0 hg
     replace a0 := bkb a0 hb
     clear hb hbox hg
     refine hK.out _ _ ⟨bc a1 0, bc a1 1, bc a2 0, bc a2 1, bc a0 0, bc a0 1, bc a0 2, bc a0 3⟩ (fun hHeld => ?_)
     clear hK K
     refine norm_ (a' := ?_) ?_ ?_
     rotate_left
     ·show Act.put _ (some 7) _ = _
      simp only [Act.put, List.setIfInBounds_toArray, List.set_cons_zero, List.set_cons_succ, i64_w, i32_w]
      rfl
     refine one_ (i := 2) (N := some 29) #[true, true, true, true, true, true, true, true, true, true, true, false, false, false, false, true, false, false] rfl rfl (one_of HT_.out (by kernel_rfl)) (by decide) (fun K hK => ?_)
     refine goes_ Tryz.func26 (by kernel_rfl) rfl #[.agg #[.slice h2 c5.length h0, .slice h1 c4.length g9]] (by rfl) rfl rfl (by (try simp only [List.map_toArray, List.map_cons, List.map_nil]); first | done | rfl | (simp only [List.length_drop, List.length_take]; rfl)) ?_
     with_reducible refine (scarfjointref18_Copied.calls _ _ _ _ _ _ _ _ _ ?e8 ?e7 ?e6 ?e5 E3.out).mono ?_
     (case e8 => exact cb p9 HB)
     (case e7 => exact q1.out)
     (case e6 => exact cb p8 HB)
     (case e5 => exact q0.out)
     rintro e L8 ⟨m3, m2, rfl, e3, e2, hb⟩
     refine ⟨_, rfl, ?_⟩
     have a6 := Aside0.mk (Kd.R_lower e3 (below_size (bb HB)))
     have a5 := Aside0.mk (Kd.R_lower e2 (below_size (bb HB)))
     replace a1 := bkb a1 hb
     replace a2 := bkb a2 hb
     replace a0 := bkb a0 hb
     replace a4 := bkb a4 hb
     replace HB := bstep HB hb
     (try clear hb)
     (try clear hb2)
     (try clear hk)
     (try clear hi)
     (try clear e3)
     (try clear e2)
     obtain ⟨o7, o6, eo37⟩ := Kd.R_slice a6.out
     (first | subst eo37 | (injection eo37 with f1_ f2_ f3_; have f4_ := f1_.symm; have f5_ := f3_.symm; clear f1_ f2_ f3_; subst f4_; subst f5_))
     obtain ⟨r0, q6, eo38⟩ := Kd.R_slice a5.out
     (first | subst eo38 | (injection eo38 with f1_ f2_ f3_; have f4_ := f1_.symm; have f5_ := f3_.symm; clear f1_ f2_ f3_; subst f4_; subst f5_))
     refine hK.out _ _ ⟨bc a1 0, bc a1 1, bc a2 0, bc a2 1, bc a0 0, bc a0 1, bc a0 2, bc a0 3⟩ (fun hHeld => ?_)
     clear hK K
     refine norm_ (a' := ?_) ?_ ?_
     rotate_left
     ·show Act.put _ (some 29) _ = _
      simp only [Act.put, List.setIfInBounds_toArray, List.set_cons_zero, List.set_cons_succ, i64_w, i32_w]
      rfl
     refine one_ (i := 11) (N := some 38) #[true, true, true, true, true, true, true, true, true, true, true, true, false, false, false, true, false, false] rfl rfl (one_of HT_.out (by kernel_rfl)) (by decide) (fun K hK => ?_)
     refine goes_ Tryz.func19 (by kernel_rfl) rfl #[.agg #[.slice g3 c1.length g1, .slice g2 c0.length g0], .agg #[.slice o7 n7.length o6, .slice r0 n6.length q6], .int .i64 d4, .int .i64 d3, .int .i64 d2, .int .i64 d1] (by rfl) rfl rfl (by (try simp only [List.map_toArray, List.map_cons, List.map_nil]); first | done | rfl | (simp only [List.length_drop, List.length_take]; rfl)) ?_
     with_reducible refine (statistic_Edge.calls _ _ _ _ _ _ _ _ _ _ _ _ _ _ _ _ _ _ _ _ _ ?e8 ?e7 ?e6 ?e5 ?g8 ?g7 ?g6 ?g5 C6.out).mono ?_
     (case e8 => exact cb p0 HB)
     (case e7 => exact p2.out)
     (case e6 => exact cb o9 HB)
     (case e5 => exact p1.out)
     (case g8 => repeat (first | exact (Kd.R_reads' a6.out).2.2 | (with_reducible refine Kd.C_alloc ?_ _) | (with_reducible refine Kd.C_drewN ?_ _) | (with_reducible refine Kd.C_drew ?_)))
     (case g7 => exact (Kd.R_reads' a6.out).2.1)
     (case g6 => repeat (first | exact (Kd.R_reads' a5.out).2.2 | (with_reducible refine Kd.C_alloc ?_ _) | (with_reducible refine Kd.C_drewN ?_ _) | (with_reducible refine Kd.C_drew ?_)))
     (case g5 => exact (Kd.R_reads' a5.out).2.1)
     rintro e D1 ⟨m1, m0, rfl, e3, e2, hb⟩
     refine ⟨_, rfl, ?_⟩
     have c3 := Aside0.mk (Kd.R_lower (Kd.R_new' (Kd.R_new' e3 (Kd.R_lt (kR a6))) (Kd.R_lt (kR a5))) (below_size (bb HB)))
     have c2 := Aside0.mk (Kd.R_lower (Kd.R_new' (Kd.R_new' e2 (Kd.R_lt (kR a6))) (Kd.R_lt (kR a5))) (below_size (bb HB)))
     replace a6 := Aside0.mk (Kd.R_mono (Kd.R_told (Kd.R_told (Kd.R_old (kR a6) hb) (Kd.R_base e3)) (Kd.R_base e2)) (fun _ h_ => h_.1))
     replace a5 := Aside0.mk (Kd.R_mono (Kd.R_told (Kd.R_told (Kd.R_old (kR a5) hb) (Kd.R_base e3)) (Kd.R_base e2)) (fun _ h_ => h_.1))
     replace a1 := bkb a1 hb
     replace a2 := bkb a2 hb
     replace a0 := bkb a0 hb
     replace a4 := bkb a4 hb
     replace HB := bstep HB hb
     (try clear hb)
     (try clear hb2)
     (try clear hk)
     (try clear hi)
     (try clear e3)
     (try clear e2)
     refine hK.out _ _ ⟨bc a1 0, bc a1 1, bc a2 0, bc a2 1, bc a0 0, bc a0 1, bc a0 2, bc a0 3⟩ (fun hHeld => ?_)
     clear hK K
     refine norm_ (a' := ?_) ?_ ?_
     rotate_left
     ·show Act.put _ (some 38) _ = _
      simp only [Act.put, List.setIfInBounds_toArray, List.set_cons_zero, List.set_cons_succ, i64_w, i32_w]
      rfl
     refine pu 12 26 (bits 18 0x9fff) HT_ (h := ?_)
     refine pu 13 39 (bits 18 0xbfff) HT_ (h := ?_)
     refine pu 14 40 (bits 18 0xffff) HT_ (h := ?_)
     exact norm_ (by simp only [putAll, Act.put, List.setIfInBounds_toArray, List.set_cons_zero, List.set_cons_succ]) (hCont (.slice o7 n7.length o6, .slice r0 n6.length q6, m1, m0, a3) _ ⟨hHeld, (by (with_reducible repeat (first | apply Kd.R_alloc | apply Kd.R_drewN | apply Kd.R_drew)); exact Kd.R_mono a6.out (fun _ hk => ⟨hk.1.1, ⟨hk.1.2, hk.2⟩⟩)), (by (with_reducible repeat (first | apply Kd.R_alloc | apply Kd.R_drewN | apply Kd.R_drew)); exact Kd.R_mono a5.out (fun _ hk => ⟨hk.1.1, ⟨hk.1.2, hk.2⟩⟩)), (by (with_reducible repeat (first | apply Kd.R_alloc | apply Kd.R_drewN | apply Kd.R_drew)); exact Kd.R_mono c3.out (fun _ hk => ⟨hk.1.2, ⟨hk.2, hk.1.1⟩⟩)), (by (with_reducible repeat (first | apply Kd.R_alloc | apply Kd.R_drewN | apply Kd.R_drew)); exact Kd.R_mono c2.out (fun _ hk => ⟨hk.1.2, ⟨hk.2, hk.1.1⟩⟩)), (bk a1), (bk a2), (bk a0), (bk a4), o4.out, o5.out, b1.out, b9.out, b0.out, b8.out, a7.out, b7.out, (bb HB)⟩)
   rintro ⟨m3, m2, m1, m0, a3⟩ j3 ⟨hS_, h0_, h1_, h2_, h3_, h4_, h5_, h6_, h7_, h8_, h9_, h10_, h11_, h12_, h13_, h14_, h15_, h16_⟩
   have a6 : Aside0 (Kd.R k75 75 j3 w.heap.size (fun k_ => some k_ ≠ (m2 : Value).ownBlock ∧ some k_ ≠ (m1 : Value).ownBlock ∧ some k_ ≠ (m0 : Value).ownBlock) m3 n7) := ⟨h0_⟩
   have a5 : Aside0 (Kd.R k75 75 j3 w.heap.size (fun k_ => some k_ ≠ (m3 : Value).ownBlock ∧ some k_ ≠ (m1 : Value).ownBlock ∧ some k_ ≠ (m0 : Value).ownBlock) m2 n6) := ⟨h1_⟩
   have c3 : Aside0 (Kd.R k75 75 j3 w.heap.size (fun k_ => some k_ ≠ (m3 : Value).ownBlock ∧ some k_ ≠ (m2 : Value).ownBlock ∧ some k_ ≠ (m0 : Value).ownBlock) m1 b3) := ⟨h2_⟩
   have c2 : Aside0 (Kd.R k75 75 j3 w.heap.size (fun k_ => some k_ ≠ (m3 : Value).ownBlock ∧ some k_ ≠ (m2 : Value).ownBlock ∧ some k_ ≠ (m1 : Value).ownBlock) m0 b2) := ⟨h3_⟩
   replace a1 : Aside0 (j3.heap[d7]? = some (.cells #[.slice g3 c1.length g1, .slice g2 c0.length g0] 31 (0, 0))) := ⟨h4_⟩
   replace a2 : Aside0 (j3.heap[d6]? = some (.cells #[.slice h2 c5.length h0, .slice h1 c4.length g9] 46 (0, 0))) := ⟨h5_⟩
   replace a0 : Aside0 (j3.heap[b6]? = some (.cells #[.int .i64 d4, .int .i64 d3, .int .i64 d2, .int .i64 d1] 65 (0, 0))) := ⟨h6_⟩
   have a4 : Aside0 (j3.heap[a3]? = some (.cells #[.slice none 0 0, .slice none 0 0] 46 (0, 0))) := ⟨h7_⟩
   have o4 : Aside0 (w.heap.size ≤ a3) := ⟨h8_⟩
   have o5 : Aside0 (w.heap.size ≤ a3) := ⟨h9_⟩
   have b1 : Aside0 (d7 ≠ a3) := ⟨h10_⟩
   have b9 : Aside0 (a3 ≠ d7) := ⟨h11_⟩
   have b0 : Aside0 (d6 ≠ a3) := ⟨h12_⟩
   have b8 : Aside0 (a3 ≠ d6) := ⟨h13_⟩
   have a7 : Aside0 (b6 ≠ a3) := ⟨h14_⟩
   have b7 : Aside0 (a3 ≠ b6) := ⟨h15_⟩
   replace HB : Aside0 (Below w.heap.size w j3) := ⟨h16_⟩
   clear h0_ h1_ h2_ h3_ h4_ h5_ h6_ h7_ h8_ h9_ h10_ h11_ h12_ h13_ h14_ h15_ h16_
   have hHeld : j3.cell? ⟨d7, 0, none⟩ = some (.slice g3 c1.length g1) ∧ j3.cell? ⟨d7, 1, none⟩ = some (.slice g2 c0.length g0) ∧ j3.cell? ⟨d6, 0, none⟩ = some (.slice h2 c5.length h0) ∧ j3.cell? ⟨d6, 1, none⟩ = some (.slice h1 c4.length g9) ∧ j3.cell? ⟨b6, 0, none⟩ = some (.int .i64 d4) ∧ j3.cell? ⟨b6, 1, none⟩ = some (.int .i64 d3) ∧ j3.cell? ⟨b6, 2, none⟩ = some (.int .i64 d2) ∧ j3.cell? ⟨b6, 3, none⟩ = some (.int .i64 d1) := hS_
   obtain ⟨e1, d0, eo41⟩ := Kd.R_slice c3.out
   (first | subst eo41 | (injection eo41 with f1_ f2_ f3_; have f4_ := f1_.symm; have f5_ := f3_.symm; clear f1_ f2_ f3_; subst f4_; subst f5_))
   obtain ⟨e0, c8, eo43⟩ := Kd.R_slice c2.out
   (first | subst eo43 | (injection eo43 with f1_ f2_ f3_; have f4_ := f1_.symm; have f5_ := f3_.symm; clear f1_ f2_ f3_; subst f4_; subst f5_))
   refine norm_ (a' := ?_) ?_ ?_
   rotate_left
   ·simp only [putAll, Act.put, List.setIfInBounds_toArray, List.set_cons_zero, List.set_cons_succ]
    rfl
   refine one_ (i := 16) (N := none) #[true, true, true, true, true, true, true, true, true, true, true, true, true, true, true, true, true, false] rfl rfl (one_of HT_.out (by kernel_rfl)) (by decide) (fun K hK => ?_)
   have Z1 : j3.cell? ⟨a3, 0, none⟩ = some (.slice none 0 0) := bc a4 0
   have Y5 := blk_frozen a4.out 0
   have H4 := b1.out
   have H3 := b0.out
   have H2 := a7.out
   have I0 := b9.out
   have H9 := b8.out
   have H8 := b7.out
   have Z0 : j3.cell? ⟨a3, 1, none⟩ = some (.slice none 0 0) := bc a4 1
   have Y4 := blk_frozen a4.out 1
   have H1 := b1.out
   have H0 := b0.out
   have G9 := a7.out
   have H7 := b9.out
   have H6 := b8.out
   have H5 := b7.out
   refine skip_ (w1 := ?_) (by rfl) rfl ?_ ?_
   rotate_left
   ·go_simp
    rfl
   refine hK.out _ _ ⟨((cell_far (p := ⟨a3, _, none⟩) b1.out _).trans (((cell_far (p := ⟨a3, _, none⟩) b1.out _).trans (hHeld.1)))), ((cell_far (p := ⟨a3, _, none⟩) b1.out _).trans (((cell_far (p := ⟨a3, _, none⟩) b1.out _).trans (hHeld.2.1)))), ((cell_far (p := ⟨a3, _, none⟩) b0.out _).trans (((cell_far (p := ⟨a3, _, none⟩) b0.out _).trans (hHeld.2.2.1)))), ((cell_far (p := ⟨a3, _, none⟩) b0.out _).trans (((cell_far (p := ⟨a3, _, none⟩) b0.out _).trans (hHeld.2.2.2.1)))), ((cell_far (p := ⟨a3, _, none⟩) a7.out _).trans (((cell_far (p := ⟨a3, _, none⟩) a7.out _).trans (hHeld.2.2.2.2.1)))), ((cell_far (p := ⟨a3, _, none⟩) a7.out _).trans (((cell_far (p := ⟨a3, _, none⟩) a7.out _).trans (hHeld.2.2.2.2.2.1)))), ((cell_far (p := ⟨a3, _, none⟩) a7.out _).trans (((cell_far (p := ⟨a3, _, none⟩) a7.out _).trans (hHeld.2.2.2.2.2.2.1)))), ((cell_far (p := ⟨a3, _, none⟩) a7.out _).trans (((cell_far (p := ⟨a3, _, none⟩) a7.out _).trans (hHeld.2.2.2.2.2.2.2))))⟩ (fun hHeld => ?_)
   clear hK K
   refine pu 17 8 (bits 18 0x3ffff) HT_ (h := ?_)
   refine done_ (done_of HT_.out (by kernel_rfl)) ?_
   have Y0 := o3.out
   have V3 := o1.out
   have X9 := o2.out
   have V2 := n9.out
   have X8 := b1.out
   have V1 := b9.out
   obtain ⟨y4, y3, x3, x2⟩ := cz2 a1
   have X7 := o0.out
   have V0 := n8.out
   have X6 := b0.out
   have U9 := b8.out
   obtain ⟨y2, y1, x1, x0⟩ := cz2 a2
   have X5 := a7.out
   have U8 := b7.out
   obtain ⟨y0, x9, x7, x6, w9, w8, w4, w3⟩ := cz4 a0
   go_upto_region 5 with (first | ((with_reducible refine gate_callee (f := 32) rfl ?_); refine gl 52 Tryz.func32 #[.agg #[.slice g3 c1.length g1, .slice g2 c0.length g0], .agg #[.slice h2 c5.length h0, .slice h1 c4.length g9], .int .i64 d4, .int .i64 d3, .int .i64 d2, .int .i64 d1] (h := ?_); (with_reducible refine (scarfjointref18_Edge.calls _ _ _ _ _ _ _ _ _ _ _ _ _ _ _ _ _ _ _ _ _ (Kd.C_below p0.out (bb HB)) p2.out (Kd.C_below o9.out (bb HB)) p1.out (Kd.C_below p9.out (bb HB)) q1.out (Kd.C_below p8.out (bb HB)) q0.out Q2.out).mono ?_); rintro e Z6 ⟨Q9, Q8, rfl, e3, e2, hb⟩; refine ⟨_, rfl, ?_⟩; have j9 := Aside0.mk (Kd.R_lower (Kd.R_new' (Kd.R_new' (Kd.R_new' (Kd.R_new' e3 (Kd.R_lt (by (with_reducible repeat (first | apply Kd.R_alloc | apply Kd.R_drewN | apply Kd.R_drew)); exact (Kd.R_mono (Kd.R_far (p := ⟨a3, 1, none⟩) (Kd.R_far (p := ⟨a3, 0, none⟩) (Kd.R_types a6.out a4.out (by decide)) (fun _ hk => hk.2) (.slice e1 b3.length d0)) (fun _ hk => hk.2) (.slice e0 b2.length c8)) (fun _ h_ => h_.1))))) (Kd.R_lt (by (with_reducible repeat (first | apply Kd.R_alloc | apply Kd.R_drewN | apply Kd.R_drew)); exact (Kd.R_mono (Kd.R_far (p := ⟨a3, 1, none⟩) (Kd.R_far (p := ⟨a3, 0, none⟩) (Kd.R_types a5.out a4.out (by decide)) (fun _ hk => hk.2) (.slice e1 b3.length d0)) (fun _ hk => hk.2) (.slice e0 b2.length c8)) (fun _ h_ => h_.1))))) (Kd.R_lt (by (with_reducible repeat (first | apply Kd.R_alloc | apply Kd.R_drewN | apply Kd.R_drew)); exact (Kd.R_mono (Kd.R_far (p := ⟨a3, 1, none⟩) (Kd.R_far (p := ⟨a3, 0, none⟩) (Kd.R_types c3.out a4.out (by decide)) (fun _ hk => hk.2) (.slice e1 b3.length d0)) (fun _ hk => hk.2) (.slice e0 b2.length c8)) (fun _ h_ => h_.1))))) (Kd.R_lt (by (with_reducible repeat (first | apply Kd.R_alloc | apply Kd.R_drewN | apply Kd.R_drew)); exact (Kd.R_mono (Kd.R_far (p := ⟨a3, 1, none⟩) (Kd.R_far (p := ⟨a3, 0, none⟩) (Kd.R_types c2.out a4.out (by decide)) (fun _ hk => hk.2) (.slice e1 b3.length d0)) (fun _ hk => hk.2) (.slice e0 b2.length c8)) (fun _ h_ => h_.1))))) (below_size (bb HB))); have j8 := Aside0.mk (Kd.R_lower (Kd.R_new' (Kd.R_new' (Kd.R_new' (Kd.R_new' e2 (Kd.R_lt (by (with_reducible repeat (first | apply Kd.R_alloc | apply Kd.R_drewN | apply Kd.R_drew)); exact (Kd.R_mono (Kd.R_far (p := ⟨a3, 1, none⟩) (Kd.R_far (p := ⟨a3, 0, none⟩) (Kd.R_types a6.out a4.out (by decide)) (fun _ hk => hk.2) (.slice e1 b3.length d0)) (fun _ hk => hk.2) (.slice e0 b2.length c8)) (fun _ h_ => h_.1))))) (Kd.R_lt (by (with_reducible repeat (first | apply Kd.R_alloc | apply Kd.R_drewN | apply Kd.R_drew)); exact (Kd.R_mono (Kd.R_far (p := ⟨a3, 1, none⟩) (Kd.R_far (p := ⟨a3, 0, none⟩) (Kd.R_types a5.out a4.out (by decide)) (fun _ hk => hk.2) (.slice e1 b3.length d0)) (fun _ hk => hk.2) (.slice e0 b2.length c8)) (fun _ h_ => h_.1))))) (Kd.R_lt (by (with_reducible repeat (first | apply Kd.R_alloc | apply Kd.R_drewN | apply Kd.R_drew)); exact (Kd.R_mono (Kd.R_far (p := ⟨a3, 1, none⟩) (Kd.R_far (p := ⟨a3, 0, none⟩) (Kd.R_types c3.out a4.out (by decide)) (fun _ hk => hk.2) (.slice e1 b3.length d0)) (fun _ hk => hk.2) (.slice e0 b2.length c8)) (fun _ h_ => h_.1))))) (Kd.R_lt (by (with_reducible repeat (first | apply Kd.R_alloc | apply Kd.R_drewN | apply Kd.R_drew)); exact (Kd.R_mono (Kd.R_far (p := ⟨a3, 1, none⟩) (Kd.R_far (p := ⟨a3, 0, none⟩) (Kd.R_types c2.out a4.out (by decide)) (fun _ hk => hk.2) (.slice e1 b3.length d0)) (fun _ hk => hk.2) (.slice e0 b2.length c8)) (fun _ h_ => h_.1))))) (below_size (bb HB))); replace a6 := Aside0.mk (Kd.R_mono (Kd.R_told (Kd.R_told (Kd.R_old (by (with_reducible repeat (first | apply Kd.R_alloc | apply Kd.R_drewN | apply Kd.R_drew)); exact (Kd.R_mono (Kd.R_far (p := ⟨a3, 1, none⟩) (Kd.R_far (p := ⟨a3, 0, none⟩) (Kd.R_types a6.out a4.out (by decide)) (fun _ hk => hk.2) (.slice e1 b3.length d0)) (fun _ hk => hk.2) (.slice e0 b2.length c8)) (fun _ h_ => h_.1))) hb) (Kd.R_base e3)) (Kd.R_base e2)) (fun _ h_ => h_.1)); replace a5 := Aside0.mk (Kd.R_mono (Kd.R_told (Kd.R_told (Kd.R_old (by (with_reducible repeat (first | apply Kd.R_alloc | apply Kd.R_drewN | apply Kd.R_drew)); exact (Kd.R_mono (Kd.R_far (p := ⟨a3, 1, none⟩) (Kd.R_far (p := ⟨a3, 0, none⟩) (Kd.R_types a5.out a4.out (by decide)) (fun _ hk => hk.2) (.slice e1 b3.length d0)) (fun _ hk => hk.2) (.slice e0 b2.length c8)) (fun _ h_ => h_.1))) hb) (Kd.R_base e3)) (Kd.R_base e2)) (fun _ h_ => h_.1)); replace c3 := Aside0.mk (Kd.R_mono (Kd.R_told (Kd.R_told (Kd.R_old (by (with_reducible repeat (first | apply Kd.R_alloc | apply Kd.R_drewN | apply Kd.R_drew)); exact (Kd.R_mono (Kd.R_far (p := ⟨a3, 1, none⟩) (Kd.R_far (p := ⟨a3, 0, none⟩) (Kd.R_types c3.out a4.out (by decide)) (fun _ hk => hk.2) (.slice e1 b3.length d0)) (fun _ hk => hk.2) (.slice e0 b2.length c8)) (fun _ h_ => h_.1))) hb) (Kd.R_base e3)) (Kd.R_base e2)) (fun _ h_ => h_.1)); replace c2 := Aside0.mk (Kd.R_mono (Kd.R_told (Kd.R_told (Kd.R_old (by (with_reducible repeat (first | apply Kd.R_alloc | apply Kd.R_drewN | apply Kd.R_drew)); exact (Kd.R_mono (Kd.R_far (p := ⟨a3, 1, none⟩) (Kd.R_far (p := ⟨a3, 0, none⟩) (Kd.R_types c2.out a4.out (by decide)) (fun _ hk => hk.2) (.slice e1 b3.length d0)) (fun _ hk => hk.2) (.slice e0 b2.length c8)) (fun _ h_ => h_.1))) hb) (Kd.R_base e3)) (Kd.R_base e2)) (fun _ h_ => h_.1)); replace a1 := Aside0.mk (blk_below (g := d7) (o := .cells #[.slice g3 c1.length g1, .slice g2 c0.length g0] 31 (0, 0)) (bkF a1) hb); replace a2 := Aside0.mk (blk_below (g := d6) (o := .cells #[.slice h2 c5.length h0, .slice h1 c4.length g9] 46 (0, 0)) (bkF a2) hb); replace a0 := Aside0.mk (blk_below (g := b6) (o := .cells #[.int .i64 d4, .int .i64 d3, .int .i64 d2, .int .i64 d1] 65 (0, 0)) (bkF a0) hb); replace a4 := Aside0.mk (blk_below (g := a3) (o := .cells #[.slice e1 b3.length d0, .slice e0 b2.length c8] 46 (0, 0)) (bkP a4) hb); replace HB := bstep HB hb) | ((with_reducible refine gate_dst (N := 9) rfl ?_); refine be 9 #[.slice none 0 0, .slice none 0 0] 46 ?_; intro a9 hg Z5 hbox hb; replace a6 := kRb a6 hb; replace a5 := kRb a5 hb; replace c3 := kRb c3 hb; replace c2 := kRb c2 hb; replace j9 := kRb j9 hb; replace j8 := kRb j8 hb; have a8 := Aside0.mk (hbox); have P4 := bsz HB hg; replace HB := bstep HB hb; have n1 := blt a1 hg; have m7 := bgt a1 hg; replace a1 := bkb a1 hb; have n0 := blt a2 hg; have m6 := bgt a2 hg; replace a2 := bkb a2 hb; have m9 := blt a0 hg; have m5 := bgt a0 hg; replace a0 := bkb a0 hb; have m8 := blt a4 hg; have m4 := bgt a4 hg; replace a4 := bkb a4 hb; clear hb hbox hg; obtain ⟨d9, c7, eo56⟩ := Kd.R_slice j9.out; subst eo56; have X4 := m7.out; have U7 := n1.out; have X3 := m6.out; have U6 := n0.out; have X2 := m5.out; have U5 := m9.out; have X1 := m4.out; have U4 := m8.out; obtain ⟨x5, x4, w2, w0⟩ := cz2 a8; obtain ⟨d8, c6, eo62⟩ := Kd.R_slice j8.out; subst eo62))
   (try simp only [Act.put, List.setIfInBounds_toArray, List.set_cons_zero, List.set_cons_succ])
   go_cut [67] (fun M0 wc => ∃ (kq : Nat) (p4 : Bool), M0 = .bool p4 ∧ Aside0 (scarfjointlaw18_StatisticEdge.j1 kq o8 t0 p4 c1 c0 c5 c4 d4 d3 d2 d1 b3 b2 b5 b4 = some r) ∧ Aside0 (kq ≤ M2) ∧ Aside0 (Kd.R k75 75 wc w.heap.size (fun k_ => some k_ ≠ ((.slice e0 b2.length c8) : Value).ownBlock ∧ some k_ ≠ ((.slice d9 b5.length c7) : Value).ownBlock ∧ some k_ ≠ ((.slice d8 b4.length c6) : Value).ownBlock) (.slice e1 b3.length d0) b3) ∧ Aside0 (Kd.R k75 75 wc w.heap.size (fun k_ => some k_ ≠ ((.slice e1 b3.length d0) : Value).ownBlock ∧ some k_ ≠ ((.slice d9 b5.length c7) : Value).ownBlock ∧ some k_ ≠ ((.slice d8 b4.length c6) : Value).ownBlock) (.slice e0 b2.length c8) b2) ∧ Aside0 (Kd.R k75 75 wc w.heap.size (fun k_ => some k_ ≠ ((.slice e1 b3.length d0) : Value).ownBlock ∧ some k_ ≠ ((.slice e0 b2.length c8) : Value).ownBlock ∧ some k_ ≠ ((.slice d8 b4.length c6) : Value).ownBlock) (.slice d9 b5.length c7) b5) ∧ Aside0 (Kd.R k75 75 wc w.heap.size (fun k_ => some k_ ≠ ((.slice e1 b3.length d0) : Value).ownBlock ∧ some k_ ≠ ((.slice e0 b2.length c8) : Value).ownBlock ∧ some k_ ≠ ((.slice d9 b5.length c7) : Value).ownBlock) (.slice d8 b4.length c6) b4) ∧ Aside0 (wc.heap[d7]? = some (.cells #[(.slice g3 c1.length g1), (.slice g2 c0.length g0)] 31 (0, 0))) ∧ Aside0 (wc.heap[d6]? = some (.cells #[(.slice h2 c5.length h0), (.slice h1 c4.length g9)] 46 (0, 0))) ∧ Aside0 (wc.heap[b6]? = some (.cells #[.int .i64 d4, .int .i64 d3, .int .i64 d2, .int .i64 d1] 65 (0, 0))) ∧ Aside0 (wc.heap[a3]? = some (.cells #[(.slice e1 b3.length d0), (.slice e0 b2.length c8)] 46 (0, 0))) ∧ Aside0 (wc.heap[a9]? = some (.cells #[(.slice d9 b5.length c7), (.slice d8 b4.length c6)] 46 (0, 0))) ∧ Aside0 (Below w.heap.size w wc))
   case first =>
    have H := t4.out
    clear t4
    by_cases q8 : o8 = t0
    rotate_left
    ·rw [if_neg q8] at H
     have p7 := beq_eq_false_iff_ne.mpr q8
     have D0 := bne_iff_ne.mpr q8
     (first | rw [p7] | (simp only [i64_w, i32_w]; rw [p7]) | skip)
     have H' := Aside0.mk H
     clear H
     go_wp2
     go_meet
     case rel => exact ⟨_, (true), eqs, H', ⟨by have := E2.out; first | omega | exact Nat.le_refl _⟩, ⟨by (with_reducible repeat (first | apply Kd.R_alloc | apply Kd.R_drewN | apply Kd.R_drew)); exact Kd.R_mono (Kd.R_far (p := ⟨a9, 1, none⟩) (Kd.R_far (p := ⟨a9, 0, none⟩) (Kd.R_types c3.out a8.out (by decide)) (fun _ hk => hk.2) (.slice d9 b5.length c7)) (fun _ hk => hk.2) (.slice d8 b4.length c6)) (fun _ hk => ⟨hk.1.1.1.2.2, ⟨hk.1.1.2, hk.1.2⟩⟩)⟩, ⟨by (with_reducible repeat (first | apply Kd.R_alloc | apply Kd.R_drewN | apply Kd.R_drew)); exact Kd.R_mono (Kd.R_far (p := ⟨a9, 1, none⟩) (Kd.R_far (p := ⟨a9, 0, none⟩) (Kd.R_types c2.out a8.out (by decide)) (fun _ hk => hk.2) (.slice d9 b5.length c7)) (fun _ hk => hk.2) (.slice d8 b4.length c6)) (fun _ hk => ⟨hk.1.1.1.2.2, ⟨hk.1.1.2, hk.1.2⟩⟩)⟩, ⟨by (with_reducible repeat (first | apply Kd.R_alloc | apply Kd.R_drewN | apply Kd.R_drew)); exact Kd.R_mono (Kd.R_far (p := ⟨a9, 1, none⟩) (Kd.R_far (p := ⟨a9, 0, none⟩) (Kd.R_types j9.out a8.out (by decide)) (fun _ hk => hk.2) (.slice d9 b5.length c7)) (fun _ hk => hk.2) (.slice d8 b4.length c6)) (fun _ hk => ⟨hk.1.1.2, ⟨hk.1.2, hk.1.1.1.1.1⟩⟩)⟩, ⟨by (with_reducible repeat (first | apply Kd.R_alloc | apply Kd.R_drewN | apply Kd.R_drew)); exact Kd.R_mono (Kd.R_far (p := ⟨a9, 1, none⟩) (Kd.R_far (p := ⟨a9, 0, none⟩) (Kd.R_types j8.out a8.out (by decide)) (fun _ hk => hk.2) (.slice d9 b5.length c7)) (fun _ hk => hk.2) (.slice d8 b4.length c6)) (fun _ hk => ⟨hk.1.1.2, ⟨hk.1.2, hk.1.1.1.1.1⟩⟩)⟩, ⟨bkF a1⟩, ⟨bkF a2⟩, ⟨bkF a0⟩, ⟨bkF a4⟩, ⟨bkP a8⟩, ⟨bb HB⟩⟩
    rw [if_pos q8] at H
    have p7 := beq_iff_eq.mpr q8
    have D0 := bne_eq_false_iff_eq.mpr q8
    clear q8
    (first | rw [p7] | (simp only [i64_w, i32_w]; rw [p7]) | skip)
    obtain ⟨s9, Q1, H⟩ := obA H
    by_cases v7 : s9 = true
    subst v7
    replace H := ift H
    have H' := Aside0.mk H
    clear H
    rotate_left
    replace v7 := Bool.eq_false_iff.mpr v7
    subst v7
    replace H := iff_ H
    have H' := Aside0.mk H
    clear H
    all_goals
     have X0 := b9.out
     have U3 := b1.out
     have W9 := b8.out
     have U2 := b0.out
     have W8 := b7.out
     have U1 := a7.out
     have W7 := m8.out
     have U0 := m4.out
     obtain ⟨L0, J9, I8, I7⟩ := cz2 a4
     have W6 := m7.out
     have R9 := n1.out
     have W5 := m6.out
     have R8 := n0.out
     have W4 := m5.out
     have R7 := m9.out
     obtain ⟨J8, J7, I6, I5⟩ := cz2 a8
     go_wp2_with (first | (go_at_call 15; (with_reducible refine (scarfjointref18_Same.calls _ _ _ _ _ _ _ _ _ _ _ _ _ _ _ ?e8 ?e7 ?e6 ?e5 ?g8 ?g7 ?g6 ?g5 Q1.out).mono ?_); (case e8 => refine (Kd.R_reads' (e := 75) (base := w.heap.size) (ok := fun k_ => (((some k_ ≠ (m3 : Value).ownBlock ∧ (some k_ ≠ (m2 : Value).ownBlock ∧ some k_ ≠ (.slice e0 b2.length c8 : Value).ownBlock)) ∧ some k_ ≠ (.slice d9 b5.length c7 : Value).ownBlock) ∧ some k_ ≠ (.slice d8 b4.length c6 : Value).ownBlock)) (n := b3.length) (c := d0) ?_).2.2; exact (by (with_reducible repeat (first | apply Kd.R_alloc | apply Kd.R_drewN | apply Kd.R_drew)); exact (Kd.R_mono (Kd.R_far (p := ⟨a9, 1, none⟩) (Kd.R_far (p := ⟨a9, 0, none⟩) (Kd.R_types c3.out a8.out (by decide)) (fun _ hk => hk.2) (.slice d9 b5.length c7)) (fun _ hk => hk.2) (.slice d8 b4.length c6)) (fun _ h_ => h_.1)))); (case e7 => exact (Kd.R_reads' c3.out).2.1); (case e6 => refine (Kd.R_reads' (e := 75) (base := w.heap.size) (ok := fun k_ => (((some k_ ≠ (m3 : Value).ownBlock ∧ (some k_ ≠ (m2 : Value).ownBlock ∧ some k_ ≠ (.slice e1 b3.length d0 : Value).ownBlock)) ∧ some k_ ≠ (.slice d9 b5.length c7 : Value).ownBlock) ∧ some k_ ≠ (.slice d8 b4.length c6 : Value).ownBlock)) (n := b2.length) (c := c8) ?_).2.2; exact (by (with_reducible repeat (first | apply Kd.R_alloc | apply Kd.R_drewN | apply Kd.R_drew)); exact (Kd.R_mono (Kd.R_far (p := ⟨a9, 1, none⟩) (Kd.R_far (p := ⟨a9, 0, none⟩) (Kd.R_types c2.out a8.out (by decide)) (fun _ hk => hk.2) (.slice d9 b5.length c7)) (fun _ hk => hk.2) (.slice d8 b4.length c6)) (fun _ h_ => h_.1)))); (case e5 => exact (Kd.R_reads' c2.out).2.1); (case g8 => refine (Kd.R_reads' (e := 75) (base := w.heap.size) (ok := fun k_ => ((((some k_ ≠ (.slice d8 b4.length c6 : Value).ownBlock ∧ some k_ ≠ (m3 : Value).ownBlock) ∧ some k_ ≠ (m2 : Value).ownBlock) ∧ some k_ ≠ (.slice e1 b3.length d0 : Value).ownBlock) ∧ some k_ ≠ (.slice e0 b2.length c8 : Value).ownBlock)) (n := b5.length) (c := c7) ?_).2.2; exact (by (with_reducible repeat (first | apply Kd.R_alloc | apply Kd.R_drewN | apply Kd.R_drew)); exact (Kd.R_mono (Kd.R_far (p := ⟨a9, 1, none⟩) (Kd.R_far (p := ⟨a9, 0, none⟩) (Kd.R_types j9.out a8.out (by decide)) (fun _ hk => hk.2) (.slice d9 b5.length c7)) (fun _ hk => hk.2) (.slice d8 b4.length c6)) (fun _ h_ => h_.1)))); (case g7 => exact (Kd.R_reads' j9.out).2.1); (case g6 => refine (Kd.R_reads' (e := 75) (base := w.heap.size) (ok := fun k_ => ((((some k_ ≠ (.slice d9 b5.length c7 : Value).ownBlock ∧ some k_ ≠ (m3 : Value).ownBlock) ∧ some k_ ≠ (m2 : Value).ownBlock) ∧ some k_ ≠ (.slice e1 b3.length d0 : Value).ownBlock) ∧ some k_ ≠ (.slice e0 b2.length c8 : Value).ownBlock)) (n := b4.length) (c := c6) ?_).2.2; exact (by (with_reducible repeat (first | apply Kd.R_alloc | apply Kd.R_drewN | apply Kd.R_drew)); exact (Kd.R_mono (Kd.R_far (p := ⟨a9, 1, none⟩) (Kd.R_far (p := ⟨a9, 0, none⟩) (Kd.R_types j8.out a8.out (by decide)) (fun _ hk => hk.2) (.slice d9 b5.length c7)) (fun _ hk => hk.2) (.slice d8 b4.length c6)) (fun _ h_ => h_.1)))); (case g5 => exact (Kd.R_reads' j8.out).2.1); rintro e Z4 ⟨rfl, hb⟩; replace a6 := Aside0.mk (Kd.R_below (by (with_reducible repeat (first | apply Kd.R_alloc | apply Kd.R_drewN | apply Kd.R_drew)); exact (Kd.R_mono (Kd.R_far (p := ⟨a9, 1, none⟩) (Kd.R_far (p := ⟨a9, 0, none⟩) (Kd.R_types a6.out a8.out (by decide)) (fun _ hk => hk.2) (.slice d9 b5.length c7)) (fun _ hk => hk.2) (.slice d8 b4.length c6)) (fun _ h_ => h_.1))) hb); replace a5 := Aside0.mk (Kd.R_below (by (with_reducible repeat (first | apply Kd.R_alloc | apply Kd.R_drewN | apply Kd.R_drew)); exact (Kd.R_mono (Kd.R_far (p := ⟨a9, 1, none⟩) (Kd.R_far (p := ⟨a9, 0, none⟩) (Kd.R_types a5.out a8.out (by decide)) (fun _ hk => hk.2) (.slice d9 b5.length c7)) (fun _ hk => hk.2) (.slice d8 b4.length c6)) (fun _ h_ => h_.1))) hb); replace c3 := Aside0.mk (Kd.R_below (by (with_reducible repeat (first | apply Kd.R_alloc | apply Kd.R_drewN | apply Kd.R_drew)); exact (Kd.R_mono (Kd.R_far (p := ⟨a9, 1, none⟩) (Kd.R_far (p := ⟨a9, 0, none⟩) (Kd.R_types c3.out a8.out (by decide)) (fun _ hk => hk.2) (.slice d9 b5.length c7)) (fun _ hk => hk.2) (.slice d8 b4.length c6)) (fun _ h_ => h_.1))) hb); replace c2 := Aside0.mk (Kd.R_below (by (with_reducible repeat (first | apply Kd.R_alloc | apply Kd.R_drewN | apply Kd.R_drew)); exact (Kd.R_mono (Kd.R_far (p := ⟨a9, 1, none⟩) (Kd.R_far (p := ⟨a9, 0, none⟩) (Kd.R_types c2.out a8.out (by decide)) (fun _ hk => hk.2) (.slice d9 b5.length c7)) (fun _ hk => hk.2) (.slice d8 b4.length c6)) (fun _ h_ => h_.1))) hb); replace j9 := Aside0.mk (Kd.R_below (by (with_reducible repeat (first | apply Kd.R_alloc | apply Kd.R_drewN | apply Kd.R_drew)); exact (Kd.R_mono (Kd.R_far (p := ⟨a9, 1, none⟩) (Kd.R_far (p := ⟨a9, 0, none⟩) (Kd.R_types j9.out a8.out (by decide)) (fun _ hk => hk.2) (.slice d9 b5.length c7)) (fun _ hk => hk.2) (.slice d8 b4.length c6)) (fun _ h_ => h_.1))) hb); replace j8 := Aside0.mk (Kd.R_below (by (with_reducible repeat (first | apply Kd.R_alloc | apply Kd.R_drewN | apply Kd.R_drew)); exact (Kd.R_mono (Kd.R_far (p := ⟨a9, 1, none⟩) (Kd.R_far (p := ⟨a9, 0, none⟩) (Kd.R_types j8.out a8.out (by decide)) (fun _ hk => hk.2) (.slice d9 b5.length c7)) (fun _ hk => hk.2) (.slice d8 b4.length c6)) (fun _ h_ => h_.1))) hb); replace a1 := Aside0.mk (blk_below (g := d7) (o := .cells #[.slice g3 c1.length g1, .slice g2 c0.length g0] 31 (0, 0)) (bkF a1) hb); replace a2 := Aside0.mk (blk_below (g := d6) (o := .cells #[.slice h2 c5.length h0, .slice h1 c4.length g9] 46 (0, 0)) (bkF a2) hb); replace a0 := Aside0.mk (blk_below (g := b6) (o := .cells #[.int .i64 d4, .int .i64 d3, .int .i64 d2, .int .i64 d1] 65 (0, 0)) (bkF a0) hb); replace a4 := Aside0.mk (blk_below (g := a3) (o := .cells #[.slice e1 b3.length d0, .slice e0 b2.length c8] 46 (0, 0)) (bkF a4) hb); replace a8 := Aside0.mk (blk_below (g := a9) (o := .cells #[.slice d9 b5.length c7, .slice d8 b4.length c6] 46 (0, 0)) (bkP a8) hb); replace HB := bstep HB hb))
     go_meet
     case rel => exact ⟨_, _, eqs, H', ⟨by have := E2.out; first | omega | exact Nat.le_refl _⟩, ⟨by (with_reducible repeat (first | apply Kd.R_alloc | apply Kd.R_drewN | apply Kd.R_drew)); exact Kd.R_mono c3.out (fun _ hk => ⟨hk.1.1.2.2, ⟨hk.1.2, hk.2⟩⟩)⟩, ⟨by (with_reducible repeat (first | apply Kd.R_alloc | apply Kd.R_drewN | apply Kd.R_drew)); exact Kd.R_mono c2.out (fun _ hk => ⟨hk.1.1.2.2, ⟨hk.1.2, hk.2⟩⟩)⟩, ⟨by (with_reducible repeat (first | apply Kd.R_alloc | apply Kd.R_drewN | apply Kd.R_drew)); exact Kd.R_mono j9.out (fun _ hk => ⟨hk.1.2, ⟨hk.2, hk.1.1.1.1⟩⟩)⟩, ⟨by (with_reducible repeat (first | apply Kd.R_alloc | apply Kd.R_drewN | apply Kd.R_drew)); exact Kd.R_mono j8.out (fun _ hk => ⟨hk.1.2, ⟨hk.2, hk.1.1.1.1⟩⟩)⟩, ⟨bk a1⟩, ⟨bk a2⟩, ⟨bk a0⟩, ⟨bk a4⟩, ⟨bk a8⟩, ⟨bb HB⟩⟩
   case rest =>
    clear t4
    try clear y4 y3 y2 y1 y0 x9 x7 x6 x5 x4 x3 x2 x1 x0 w9 w8 w4 w3 w2 w0
    obtain ⟨kq, p4, rfl, HA, Z2, HO_1048000, HO_1048001, HO_1056000, HO_1056001, a1, a2, a0, a4, a8, HB⟩ := hcut
    cases kq with
    | zero => exact absurd HA.out (by simp [scarfjointlaw18_StatisticEdge.j1])
    | succ Y9 =>
     have H := HA.out
     clear HA
     simp only [scarfjointlaw18_StatisticEdge.j1] at H
     by_cases v6 : p4 = true
     ·subst v6
      replace H := ift H
      by_cases q7 : o8 = t0
      rotate_left
      ·rw [if_neg q7] at H
       have C9 := beq_eq_false_iff_ne.mpr q7
       have C8 := bne_iff_ne.mpr q7
       obtain rfl := Option.some.inj H
       go_wp2
       go_ret
       exact ⟨erf, bb HB⟩
      rw [if_pos q7] at H
      have C9 := beq_iff_eq.mpr q7
      have C8 := bne_eq_false_iff_eq.mpr q7
      clear q7
      obtain ⟨t6, Q0, H⟩ := obA H
      obtain rfl := Option.some.inj H
      have W3 := b9.out
      have R6 := b1.out
      have W2 := b8.out
      have R5 := b0.out
      have W1 := b7.out
      have R4 := a7.out
      have W0 := m8.out
      have R3 := m4.out
      obtain ⟨J6, J5, I4, I3⟩ := cz2 a4
      have V9 := m7.out
      have R2 := n1.out
      have V8 := m6.out
      have R1 := n0.out
      have V7 := m5.out
      have R0 := m9.out
      obtain ⟨J4, J3, I2, I1⟩ := cz2 a8
      go_wp2_with (first | (go_at_call 15; (with_reducible refine (scarfjointref18_Same.calls _ _ _ _ _ _ _ _ _ _ _ _ _ _ _ ?e8 ?e7 ?e6 ?e5 ?g8 ?g7 ?g6 ?g5 Q0.out).mono ?_); (case e8 => repeat (first | exact (Kd.R_reads' HO_1048000.out).2.2 | (with_reducible refine Kd.C_alloc ?_ _) | (with_reducible refine Kd.C_drewN ?_ _) | (with_reducible refine Kd.C_drew ?_))); (case e7 => exact (Kd.R_reads' HO_1048000.out).2.1); (case e6 => repeat (first | exact (Kd.R_reads' HO_1048001.out).2.2 | (with_reducible refine Kd.C_alloc ?_ _) | (with_reducible refine Kd.C_drewN ?_ _) | (with_reducible refine Kd.C_drew ?_))); (case e5 => exact (Kd.R_reads' HO_1048001.out).2.1); (case g8 => repeat (first | exact (Kd.R_reads' HO_1056000.out).2.2 | (with_reducible refine Kd.C_alloc ?_ _) | (with_reducible refine Kd.C_drewN ?_ _) | (with_reducible refine Kd.C_drew ?_))); (case g7 => exact (Kd.R_reads' HO_1056000.out).2.1); (case g6 => repeat (first | exact (Kd.R_reads' HO_1056001.out).2.2 | (with_reducible refine Kd.C_alloc ?_ _) | (with_reducible refine Kd.C_drewN ?_ _) | (with_reducible refine Kd.C_drew ?_))); (case g5 => exact (Kd.R_reads' HO_1056001.out).2.1); rintro e Z3 ⟨rfl, hb⟩; replace HO_1048000 := kRb HO_1048000 hb; replace HO_1048001 := kRb HO_1048001 hb; replace HO_1056000 := kRb HO_1056000 hb; replace HO_1056001 := kRb HO_1056001 hb; replace a1 := bkb a1 hb; replace a2 := bkb a2 hb; replace a0 := bkb a0 hb; replace a4 := bkb a4 hb; replace a8 := bkb a8 hb; replace HB := bstep HB hb; clear hb))
      go_ret
      exact ⟨erf, bb HB⟩
     replace v6 := Bool.eq_false_iff.mpr v6
     subst v6
     replace H := iff_ H
     obtain ⟨⟨j5, j4, C7⟩, P9, H⟩ := obA H
     try dsimp only at H
     by_cases p3 : C7 = 0
     rw [if_pos p3] at H
     have C3 := beq_iff_eq.mpr p3
     have C2 := bne_eq_false_iff_eq.mpr p3
     clear p3
     obtain ⟨t5, G8, H⟩ := obA H
     obtain rfl := Option.some.inj H
     rotate_left
     rw [if_neg p3] at H
     have C3 := beq_eq_false_iff_ne.mpr p3
     have C2 := bne_iff_ne.mpr p3
     obtain rfl := Option.some.inj H
     all_goals
      have P2 := o3.out
      have N7 := o1.out
      have P1 := o2.out
      have N6 := n9.out
      have P0 := b1.out
      have N5 := b9.out
      have O9 := n1.out
      have N4 := m7.out
      obtain ⟨G7, G6, F5, F4⟩ := cz2 a1
      have O8 := b8.out
      have N3 := b0.out
      have O7 := b7.out
      have N2 := a7.out
      have O6 := m8.out
      have N1 := m4.out
      obtain ⟨G5, G4, F3, F2⟩ := cz2 a4
      have O5 := n8.out
      have N0 := o0.out
      have O4 := m9.out
      have M9 := m5.out
      obtain ⟨G3, G2, G1, G0, F1, F0, E9, E8⟩ := cz4 a0
      go_wp2_with (first | ((with_reducible refine gate_callee (f := 19) rfl ?_); refine gl 88 Tryz.func19 #[.agg #[.slice g3 c1.length g1, .slice g2 c0.length g0], .agg #[.slice e1 b3.length d0, .slice e0 b2.length c8], .int .i64 d4, .int .i64 d3, .int .i64 d2, .int .i64 (wrap64 (-d1))] (h := ?_); (with_reducible refine (statistic_Edge.calls _ _ _ _ _ _ _ _ _ _ _ _ _ _ _ _ _ _ _ _ _ (cb p0 HB) p2.out (cb o9 HB) p1.out ?g8 ?g7 ?g6 ?g5 P9.out).mono ?_); (case g8 => repeat (first | exact (Kd.R_reads' HO_1048000.out).2.2 | (with_reducible refine Kd.C_alloc ?_ _) | (with_reducible refine Kd.C_drewN ?_ _) | (with_reducible refine Kd.C_drew ?_))); (case g7 => exact (Kd.R_reads' HO_1048000.out).2.1); (case g6 => repeat (first | exact (Kd.R_reads' HO_1048001.out).2.2 | (with_reducible refine Kd.C_alloc ?_ _) | (with_reducible refine Kd.C_drewN ?_ _) | (with_reducible refine Kd.C_drew ?_))); (case g5 => exact (Kd.R_reads' HO_1048001.out).2.1); rintro e Y8 ⟨Q7, Q6, rfl, e3, e2, hb⟩; refine ⟨_, rfl, ?_⟩; have n5 := Aside0.mk (Kd.R_lower (Kd.R_new' (Kd.R_new' (Kd.R_new' (Kd.R_new' e3 (Kd.R_lt (kR HO_1048000))) (Kd.R_lt (kR HO_1048001))) (Kd.R_lt (kR HO_1056000))) (Kd.R_lt (kR HO_1056001))) (below_size (bb HB))); have n4 := Aside0.mk (Kd.R_lower (Kd.R_new' (Kd.R_new' (Kd.R_new' (Kd.R_new' e2 (Kd.R_lt (kR HO_1048000))) (Kd.R_lt (kR HO_1048001))) (Kd.R_lt (kR HO_1056000))) (Kd.R_lt (kR HO_1056001))) (below_size (bb HB))); replace HO_1048000 := Aside0.mk (Kd.R_mono (Kd.R_told (Kd.R_told (Kd.R_old (kR HO_1048000) hb) (Kd.R_base e3)) (Kd.R_base e2)) (fun _ h_ => h_.1)); replace HO_1048001 := Aside0.mk (Kd.R_mono (Kd.R_told (Kd.R_told (Kd.R_old (kR HO_1048001) hb) (Kd.R_base e3)) (Kd.R_base e2)) (fun _ h_ => h_.1)); replace HO_1056000 := Aside0.mk (Kd.R_mono (Kd.R_told (Kd.R_told (Kd.R_old (kR HO_1056000) hb) (Kd.R_base e3)) (Kd.R_base e2)) (fun _ h_ => h_.1)); replace HO_1056001 := Aside0.mk (Kd.R_mono (Kd.R_told (Kd.R_told (Kd.R_old (kR HO_1056001) hb) (Kd.R_base e3)) (Kd.R_base e2)) (fun _ h_ => h_.1)); replace a1 := bkb a1 hb; replace a2 := bkb a2 hb; replace a0 := bkb a0 hb; replace a4 := bkb a4 hb; replace a8 := bkb a8 hb; replace HB := bstep HB hb; clear hb e3 e2) | ((with_reducible refine gate_dst (N := 11) rfl ?_); refine be 11 #[.slice none 0 0, .slice none 0 0] 46 ?_; intro d5 hg Y7 hbox hb; have E1 := kRb HO_1048000 hb; have E0 := kRb HO_1048001 hb; have D9 := kRb HO_1056000 hb; have D8 := kRb HO_1056001 hb; have D7 := kRb n5 hb; have D6 := kRb n4 hb; have D5 := bkb a1 hb; have D4 := bkb a2 hb; have D3 := bkb a0 hb; have D2 := bkb a4 hb; have C0 := bkb a8 hb; have A9 := bstep HB hb; have A7 := Aside0.mk (hbox); have A6 := bsz HB hg; have A5 := bsz HB hg; have A4 := blt a1 hg; have A3 := bgt a1 hg; have A2 := blt a2 hg; have A1 := bgt a2 hg; have A0 := blt a0 hg; have y9 := bgt a0 hg; have y8 := blt a4 hg; have y7 := bgt a4 hg; have y6 := blt a8 hg; have y5 := bgt a8 hg; clear HO_1048000 HO_1048001; clear HO_1056000 HO_1056001; clear n5 n4; clear a1 a2; clear a0 a4; clear a8 HB; have HO_1048000 := E1; have HO_1048001 := E0; have HO_1056000 := D9; have HO_1056001 := D8; have n5 := D7; have n4 := D6; have a1 := D5; have a2 := D4; have a0 := D3; have a4 := D2; have a8 := C0; have HB := A9; have g4 := A7; have P3 := A6; have P8 := A5; have s8 := A4; have r5 := A3; have r9 := A2; have r4 := A1; have r8 := A0; have r3 := y9; have r7 := y8; have r2 := y7; have r6 := y6; have r1 := y5; clear E1 E0 D9 D8 D7 D6 D5 D4 D3 D2 C0 A9 A7 A6 A5 A4 A3 A2 A1 A0 y9 y8 y7 y6 y5; clear hb hbox hg; obtain ⟨n3, j7, eo116⟩ := Kd.R_slice n5.out; subst eo116; have O3 := r5.out; have M8 := s8.out; have O2 := r4.out; have M7 := r9.out; have O1 := r3.out; have M6 := r8.out; have O0 := r2.out; have M5 := r7.out; have N9 := r1.out; have M4 := r6.out; obtain ⟨F9, F8, E7, E6⟩ := cz2 g4; obtain ⟨n2, j6, eo123⟩ := Kd.R_slice n4.out; subst eo123; have N8 := n0.out; have M3 := m6.out; obtain ⟨F7, F6, E5, E4⟩ := cz2 a2) | (go_at_call 15; (with_reducible refine (scarfjointref18_Same.calls _ _ _ _ _ _ _ _ _ _ _ _ _ _ _ ?e8 ?e7 ?e6 ?e5 ?g8 ?g7 ?g6 ?g5 G8.out).mono ?_); (case e8 => refine (Kd.R_reads' (e := 75) (base := w.heap.size) (ok := fun k_ => ((((some k_ ≠ (.slice n2 j4.length j6 : Value).ownBlock ∧ some k_ ≠ (.slice e1 b3.length d0 : Value).ownBlock) ∧ some k_ ≠ (.slice e0 b2.length c8 : Value).ownBlock) ∧ some k_ ≠ (.slice d9 b5.length c7 : Value).ownBlock) ∧ some k_ ≠ (.slice d8 b4.length c6 : Value).ownBlock)) (n := j5.length) (c := j7) ?_).2.2; exact (by (with_reducible repeat (first | apply Kd.R_alloc | apply Kd.R_drewN | apply Kd.R_drew)); exact (Kd.R_mono (Kd.R_far (p := ⟨d5, 1, none⟩) (Kd.R_far (p := ⟨d5, 0, none⟩) (Kd.R_types n5.out g4.out (by decide)) (fun _ hk => hk.2) (.slice n3 j5.length j7)) (fun _ hk => hk.2) (.slice n2 j4.length j6)) (fun _ h_ => h_.1)))); (case e7 => exact (Kd.R_reads' n5.out).2.1); (case e6 => refine (Kd.R_reads' (e := 75) (base := w.heap.size) (ok := fun k_ => ((((some k_ ≠ (.slice n3 j5.length j7 : Value).ownBlock ∧ some k_ ≠ (.slice e1 b3.length d0 : Value).ownBlock) ∧ some k_ ≠ (.slice e0 b2.length c8 : Value).ownBlock) ∧ some k_ ≠ (.slice d9 b5.length c7 : Value).ownBlock) ∧ some k_ ≠ (.slice d8 b4.length c6 : Value).ownBlock)) (n := j4.length) (c := j6) ?_).2.2; exact (by (with_reducible repeat (first | apply Kd.R_alloc | apply Kd.R_drewN | apply Kd.R_drew)); exact (Kd.R_mono (Kd.R_far (p := ⟨d5, 1, none⟩) (Kd.R_far (p := ⟨d5, 0, none⟩) (Kd.R_types n4.out g4.out (by decide)) (fun _ hk => hk.2) (.slice n3 j5.length j7)) (fun _ hk => hk.2) (.slice n2 j4.length j6)) (fun _ h_ => h_.1)))); (case e5 => exact (Kd.R_reads' n4.out).2.1); (case g8 => exact Kd.C_below p9.out (bb HB)); (case g7 => exact q1.out); (case g6 => exact Kd.C_below p8.out (bb HB)); (case g5 => exact q0.out); rintro e Y6 ⟨rfl, hb⟩; replace HO_1048000 := Aside0.mk (Kd.R_below (by (with_reducible repeat (first | apply Kd.R_alloc | apply Kd.R_drewN | apply Kd.R_drew)); exact (Kd.R_mono (Kd.R_far (p := ⟨d5, 1, none⟩) (Kd.R_far (p := ⟨d5, 0, none⟩) (Kd.R_types HO_1048000.out g4.out (by decide)) (fun _ hk => hk.2) (.slice n3 j5.length j7)) (fun _ hk => hk.2) (.slice n2 j4.length j6)) (fun _ h_ => h_.1))) hb); replace HO_1048001 := Aside0.mk (Kd.R_below (by (with_reducible repeat (first | apply Kd.R_alloc | apply Kd.R_drewN | apply Kd.R_drew)); exact (Kd.R_mono (Kd.R_far (p := ⟨d5, 1, none⟩) (Kd.R_far (p := ⟨d5, 0, none⟩) (Kd.R_types HO_1048001.out g4.out (by decide)) (fun _ hk => hk.2) (.slice n3 j5.length j7)) (fun _ hk => hk.2) (.slice n2 j4.length j6)) (fun _ h_ => h_.1))) hb); replace HO_1056000 := Aside0.mk (Kd.R_below (by (with_reducible repeat (first | apply Kd.R_alloc | apply Kd.R_drewN | apply Kd.R_drew)); exact (Kd.R_mono (Kd.R_far (p := ⟨d5, 1, none⟩) (Kd.R_far (p := ⟨d5, 0, none⟩) (Kd.R_types HO_1056000.out g4.out (by decide)) (fun _ hk => hk.2) (.slice n3 j5.length j7)) (fun _ hk => hk.2) (.slice n2 j4.length j6)) (fun _ h_ => h_.1))) hb); replace HO_1056001 := Aside0.mk (Kd.R_below (by (with_reducible repeat (first | apply Kd.R_alloc | apply Kd.R_drewN | apply Kd.R_drew)); exact (Kd.R_mono (Kd.R_far (p := ⟨d5, 1, none⟩) (Kd.R_far (p := ⟨d5, 0, none⟩) (Kd.R_types HO_1056001.out g4.out (by decide)) (fun _ hk => hk.2) (.slice n3 j5.length j7)) (fun _ hk => hk.2) (.slice n2 j4.length j6)) (fun _ h_ => h_.1))) hb); replace n5 := Aside0.mk (Kd.R_below (by (with_reducible repeat (first | apply Kd.R_alloc | apply Kd.R_drewN | apply Kd.R_drew)); exact (Kd.R_mono (Kd.R_far (p := ⟨d5, 1, none⟩) (Kd.R_far (p := ⟨d5, 0, none⟩) (Kd.R_types n5.out g4.out (by decide)) (fun _ hk => hk.2) (.slice n3 j5.length j7)) (fun _ hk => hk.2) (.slice n2 j4.length j6)) (fun _ h_ => h_.1))) hb); replace n4 := Aside0.mk (Kd.R_below (by (with_reducible repeat (first | apply Kd.R_alloc | apply Kd.R_drewN | apply Kd.R_drew)); exact (Kd.R_mono (Kd.R_far (p := ⟨d5, 1, none⟩) (Kd.R_far (p := ⟨d5, 0, none⟩) (Kd.R_types n4.out g4.out (by decide)) (fun _ hk => hk.2) (.slice n3 j5.length j7)) (fun _ hk => hk.2) (.slice n2 j4.length j6)) (fun _ h_ => h_.1))) hb); replace a1 := Aside0.mk (blk_below (g := d7) (o := .cells #[.slice g3 c1.length g1, .slice g2 c0.length g0] 31 (0, 0)) (bkF a1) hb); replace a2 := Aside0.mk (blk_below (g := d6) (o := .cells #[.slice h2 c5.length h0, .slice h1 c4.length g9] 46 (0, 0)) (bkF a2) hb); replace a0 := Aside0.mk (blk_below (g := b6) (o := .cells #[.int .i64 d4, .int .i64 d3, .int .i64 d2, .int .i64 d1] 65 (0, 0)) (bkF a0) hb); replace a4 := Aside0.mk (blk_below (g := a3) (o := .cells #[.slice e1 b3.length d0, .slice e0 b2.length c8] 46 (0, 0)) (bkF a4) hb); replace a8 := Aside0.mk (blk_below (g := a9) (o := .cells #[.slice d9 b5.length c7, .slice d8 b4.length c6] 46 (0, 0)) (bkF a8) hb); replace g4 := Aside0.mk (blk_below (g := d5) (o := .cells #[.slice n3 j5.length j7, .slice n2 j4.length j6] 46 (0, 0)) (bkP g4) hb); replace HB := bstep HB hb))
      go_ret
      exact ⟨erf, bb HB⟩
end Go.Proofs.YtfpianecohobjaaGreat.P
