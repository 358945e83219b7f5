/- StatisticOf: a part of its proof. No condition. -/
import Derived.Test.YtfpianecohobjaaGreatYPx0
import Derived.Test.YtfpianecohobjaaGreatYMb
import Derived.Test.YtfpianecohobjaaGreatYPx26
import Derived.Test.YtfpianecohobjaaGreatYPx27
namespace Go.Proofs.YtfpianecohobjaaGreat.P
open Go.RowKit Go.Proofs.YtfpianecohobjaaGreatW.PrintWords Go.Proofs.YtfpianecohobjaaGreatW.PrintLast Go.Proofs.YtfpianecohobjaaGreatW.PrintMore
set_option linter.unusedVariables false
set_option linter.unusedSimpArgs false
mutual
def q4_Valid.j0 : Nat → Bool → List (S96) → List (S101) → Option (ByteArray × Int)
 | 0, _, _, _ => none
 | k + 1, t4, b5, b4 => if t4 = true then (some ((⟨#[]⟩ : ByteArray), 3)) else (q4_Valid.l0 k 0 b5 b4)
def q4_Valid.l0 : Nat → Int → List (S96) → List (S101) → Option (ByteArray × Int)
 | 0, _, _, _ => none
 | k + 1, x4, b5, b4 => if x4 < (b5.length : Int) then ((q4_node.f k b5 b4 x4).bind fun d6 => (if d6 = 0 then (q4_Valid.l0 k (wrap64 (x4 + 1)) b5 b4) else (if 0 ≤ x4 then (some ((rd_T96 b5 x4).f0, d6)) else (none)))) else (q4_Valid.l1 k 0 b5 b4)
def q4_Valid.l1 : Nat → Int → List (S96) → List (S101) → Option (ByteArray × Int)
 | 0, _, _, _ => none
 | k + 1, x6, b5, b4 => if x6 < (b4.length : Int) then ((q4_edge.f k b5 b4 x6).bind fun d5 => (if d5 = 0 then (q4_Valid.l1 k (wrap64 (x6 + 1)) b5 b4) else (if 0 ≤ x6 then (some ((rd_T101 b4 x6).f0, d5)) else (none)))) else (some ((⟨#[]⟩ : ByteArray), 0))
end
def q4_Valid.f (k : Nat) (a0 : List (S96)) (a3 : List (S101)) : Option (ByteArray × Int) := if (a0.length : Int) = 0 then (some ((⟨#[]⟩ : ByteArray), 7)) else (if (a0.length : Int) > 12 then (q4_Valid.j0 k true a0 a3) else (q4_Valid.j0 k (decide ((a3.length : Int) > 20)) a0 a3))
set_option maxHeartbeats 8000000 in
set_option maxRecDepth 100000 in
theorem q4_Valid.calls (k : Nat) (a9 : Option Addr) (a7 : Nat) (a0 : List (S96)) (a8 : Option Addr) (a6 : Nat) (a3 : List (S101)) (r1 : ByteArray) (r2 : Int) (w : World) (d1 : Kd.C k96 w a9 a0.length a0) (d3 : a0.length ≤ a7) (d0 : Kd.C k101 w a8 a3.length a3) (d2 : a3.length ≤ a6) (h : q4_Valid.f k a0 a3 = some (r1, r2)) :
  Calls Tryz.prog 62 #[.agg #[.slice a9 a0.length a7, .slice a8 a3.length a6]] w fun e w' => e = .returned (.tuple #[.string r1, .int .i64 r2]) ∧ Below w.heap.size w w' := by
 have hu31 := Tryz.underlying31
 have b7 := Aside0.mk d1
 have c1 := Aside0.mk d3
 clear d1 d3
 have b6 := Aside0.mk d0
 have c0 := Aside0.mk d2
 clear d0 d2
 have HB := Aside0.mk (Below.refl w.heap.size w)
 have H : (if (a0.length : Int) = 0 then (some ((⟨#[]⟩ : ByteArray), 7)) else (if (a0.length : Int) > 12 then (q4_Valid.j0 k true a0 a3) else (q4_Valid.j0 k (decide ((a3.length : Int) > 20)) a0 a3))) = some (r1, r2) := h
 clear h
 by_cases c2 : (a0.length : Int) = 0
 ·rw [if_pos c2] at H
  have m2 := beq_iff_eq.mpr c2
  have m1 := bne_eq_false_iff_eq.mpr c2
  clear c2
  simp only [Option.some.injEq, Prod.mk.injEq] at H
  obtain ⟨rfl, rfl⟩ := H
  go_enter Tryz.func62, Tryz.ntmps62
  go_wp2_with ((with_reducible refine gate_dst (N := 1) rfl ?_); (try (refine gate_guard (by rfl) ?_; dsimp only)); refine be 1 #[.slice a9 a0.length a7, .slice a8 a3.length a6] 31 ?_; intro d8 hg w3 hbox hb; have a4 := Aside0.mk (hbox); have m9 := bsz HB hg; replace HB := bstep HB hb; clear hb hbox hg; obtain ⟨v5, v3, v0, t9⟩ := cz2 a4)
  go_ret2
  exact ⟨erf, bb HB⟩
 rw [if_neg c2] at H
 have m2 := beq_eq_false_iff_ne.mpr c2
 have m1 := bne_iff_ne.mpr c2
 have o1 : ¬ (a0 = []) := fun h_ => c2 (by rw [h_]; rfl)
 have m3 := Aside0.mk H
 clear H
 go_enter Tryz.func62, Tryz.ntmps62
 go_upto_region 3 with ((with_reducible refine gate_dst (N := 1) rfl ?_); (try (refine gate_guard (by rfl) ?_; dsimp only)); refine be 1 #[.slice a9 a0.length a7, .slice a8 a3.length a6] 31 ?_; intro d8 hg w6 hbox hb; have a4 := Aside0.mk (hbox); have m9 := bsz HB hg; replace HB := bstep HB hb; clear hb hbox hg; obtain ⟨m0, j9, j8, j7⟩ := cz2 a4)
 (try simp only [Act.put, List.setIfInBounds_toArray, List.set_cons_zero, List.set_cons_succ])
 go_cut [21] (fun t6 wc => ∃ (kq : Nat) (d7 : Bool), t6 = .bool d7 ∧ Aside0 (q4_Valid.j0 kq d7 a0 a3 = some (r1, r2)) ∧ Aside0 (kq ≤ k) ∧ Aside0 (wc.heap[d8]? = some (.cells #[(.slice a9 a0.length a7), (.slice a8 a3.length a6)] 31 (0, 0))) ∧ Aside0 (Below w.heap.size w wc))
 case first =>
  have H := m3.out
  clear m3
  by_cases c8 : (a0.length : Int) > 12
  rotate_left
  ·rw [if_neg c8] at H
   have d9 : decide (12 < (a0.length : Int)) = false := decide_eq_false c8
   have n8 : decide (12 < a0.length) = false := decide_eq_false (by omega)
   clear c8
   (first | rw [d9] | (simp only [i64_w, i32_w]; rw [d9]) | skip)
   have H' := Aside0.mk H
   clear H
   obtain ⟨t1, t0, q5, q4⟩ := cz2 a4
   go_wp2
   go_meet
   case rel => exact ⟨_, (decide ((a3.length : Int) > 20)), eqs, H', ⟨by first | omega | exact Nat.le_refl _⟩, ⟨bk a4⟩, ⟨bb HB⟩⟩
  rw [if_pos c8] at H
  have d9 : decide (12 < (a0.length : Int)) = true := decide_eq_true c8
  have n8 : decide (12 < a0.length) = true := decide_eq_true (by omega)
  clear c8
  (first | rw [d9] | (simp only [i64_w, i32_w]; rw [d9]) | skip)
  have H' := Aside0.mk H
  clear H
  obtain ⟨v2, v1, t8, t7⟩ := cz2 a4
  go_wp2
  go_meet
  case rel => exact ⟨_, (true), eqs, H', ⟨by first | omega | exact Nat.le_refl _⟩, ⟨bk a4⟩, ⟨bb HB⟩⟩
 case rest =>
  clear m3
  clear c2
  clear m2
  clear m1
  clear o1
  clear m0
  clear j9
  clear j8
  clear j7
  obtain ⟨kq, d7, rfl, HA, j2, a4, HB⟩ := hcut
  cases kq with
  | zero => exact absurd HA.out (by simp [q4_Valid.j0])
  | succ n0 =>
   have H := HA.out
   clear HA
   simp only [q4_Valid.j0] at H
   by_cases h9 : d7 = true
   ·subst h9
    replace H := ift H
    simp only [Option.some.injEq, Prod.mk.injEq] at H
    obtain ⟨rfl, rfl⟩ := H
    go_wp2
    go_ret2
    exact ⟨erf, bb HB⟩
   replace h9 := Bool.eq_false_iff.mpr h9
   subst h9
   replace H := iff_ H
   have H' := Aside0.mk H
   clear H
   go_wp2
   go_loopg [4] n0 (fun kq v4 w' => ∃ (b9 : Int), v4 = .int .i64 b9 ∧ Aside0 (q4_Valid.l0 kq b9 a0 a3 = some (r1, r2)) ∧ Aside0 (kq ≤ n0) ∧ Aside0 (w'.heap[d8]? = some (.cells #[(.slice a9 a0.length a7), (.slice a8 a3.length a6)] 31 (0, 0))) ∧ Aside0 (Below w.heap.size w w'))
   case atStart => exact ⟨(0), eqs, H', ⟨Nat.le_refl _⟩, ⟨bk a4⟩, ⟨bb HB⟩⟩
   case round =>
    clear H'
    obtain ⟨b9, rfl, HA, j1, a4, HB⟩ := hrel
    cases gk with
    | zero => exact absurd HA.out (by simp [q4_Valid.l0])
    | succ k2 =>
     have H := HA.out
     clear HA
     simp only [q4_Valid.l0] at H
     by_cases h0 : b9 < (a0.length : Int)
     ·rw [if_pos h0] at H
      have h8 := decide_eq_true h0
      clear h0
      obtain ⟨d6, n5, H⟩ := obA H
      by_cases e1 : d6 = 0
      ·rw [if_pos e1] at H
       have m8 := beq_iff_eq.mpr e1
       have m7 := bne_eq_false_iff_eq.mpr e1
       clear e1
       have H' := Aside0.mk H
       clear H
       obtain ⟨j6, j5, j4, j3⟩ := cz2 a4
       go_wp2_with ((with_reducible refine gate_callee (f := 88) rfl ?_); refine gl 31 Tryz.func88 #[.agg #[.slice a9 a0.length a7, .slice a8 a3.length a6], .int .i64 b9] (h := ?_); (with_reducible refine (q4_node.calls k2 _ _ a0 _ _ a3 b9 d6 _ ?b3 ?b2 ?b1 ?b0 n5.out).mono ?_); (case b3 => exact cb b7 HB); (case b2 => exact c1.out); (case b1 => exact cb b6 HB); (case b0 => exact c0.out); rintro e t5 ⟨rfl, hb⟩; refine ⟨_, rfl, ?_⟩; replace a4 := bkb a4 hb; replace HB := bstep HB hb; (try clear hb); (try clear hb2); (try clear hk); (try clear hi))
       go_roundg k2
       case measure => have := j2.out; have := j1.out; omega
       case rel => exact ⟨(wrap64 (b9 + 1)), eqs, H', ⟨by have := j2.out; have := j1.out; omega⟩, ⟨bk a4⟩, ⟨bb HB⟩⟩
      rw [if_neg e1] at H
      have m8 := beq_eq_false_iff_ne.mpr e1
      have m7 := bne_iff_ne.mpr e1
      obtain ⟨n2, H⟩ := itn H
      have w0 := decide_eq_true n2
      clear n2
      simp only [Option.some.injEq, Prod.mk.injEq] at H
      obtain ⟨rfl, rfl⟩ := H
      obtain ⟨s3, s2, p7, p6⟩ := cz2 a4
      go_wp2_with ((with_reducible refine gate_callee (f := 88) rfl ?_); refine gl 31 Tryz.func88 #[.agg #[.slice a9 a0.length a7, .slice a8 a3.length a6], .int .i64 b9] (h := ?_); (with_reducible refine (q4_node.calls k2 _ _ a0 _ _ a3 b9 d6 _ ?b3 ?b2 ?b1 ?b0 n5.out).mono ?_); (case b3 => exact cb b7 HB); (case b2 => exact c1.out); (case b1 => exact cb b6 HB); (case b0 => exact c0.out); rintro e x0 ⟨rfl, hb⟩; refine ⟨_, rfl, ?_⟩; replace a4 := bkb a4 hb; replace HB := bstep HB hb; (try clear hb); (try clear hb2); (try clear hk); (try clear hi); obtain ⟨r9, r8, p3, p2⟩ := cz2 a4; have h7 : 0 ≤ b9 := odt; have h5 : b9 < (a0.length : Int) := odt; obtain ⟨w2, v8, v7, n7, g2, g1, g0, e9, g3, g4⟩ := at_T96 b7.out b9 h7 h5; cases n7; replace g2 := hxc HB g2; replace g1 := hxc HB g1; replace g0 := hxc HB g0; replace e9 := hxc HB e9; have t2 := Aside0.mk g4; have t3 := Aside0.mk g3; clear g4 g3; replace h7 := eq_true h7; replace h5 := eq_true h5)
      go_ret2
      exact ⟨erf, bb HB⟩
     rw [if_neg h0] at H
     have h8 := decide_eq_false h0
     clear h0
     have H' := Aside0.mk H
     clear H
     obtain ⟨g8, g7, g6, g5⟩ := cz2 a4
     go_wp2
     go_loopg [6] k2 (fun kq v6 w' => ∃ (b8 : Int), v6 = .int .i64 b8 ∧ Aside0 (q4_Valid.l1 kq b8 a0 a3 = some (r1, r2)) ∧ Aside0 (kq ≤ k2) ∧ Aside0 (w'.heap[d8]? = some (.cells #[(.slice a9 a0.length a7), (.slice a8 a3.length a6)] 31 (0, 0))) ∧ Aside0 (Below w.heap.size w w'))
     case atStart => exact ⟨(0), eqs, H', ⟨Nat.le_refl _⟩, ⟨bk a4⟩, ⟨bb HB⟩⟩
     case round =>
      clear H'
      clear h8
      clear g8
      clear g7
      clear g6
      clear g5
      obtain ⟨b8, rfl, HA, n3, a4, HB⟩ := hrel
      cases gk with
      | zero => exact absurd HA.out (by simp [q4_Valid.l1])
      | succ k3 =>
       have H := HA.out
       clear HA
       simp only [q4_Valid.l1] at H
       by_cases g9 : b8 < (a3.length : Int)
       rotate_left
       ·rw [if_neg g9] at H
        have m6 := decide_eq_false g9
        clear g9
        simp only [Option.some.injEq, Prod.mk.injEq] at H
        obtain ⟨rfl, rfl⟩ := H
        obtain ⟨q7, q6, o3, o2⟩ := cz2 a4
        go_wp2
        go_ret2
        exact ⟨erf, bb HB⟩
       rw [if_pos g9] at H
       have m6 := decide_eq_true g9
       clear g9
       obtain ⟨d5, n4, H⟩ := obA H
       by_cases e0 : d5 = 0
       ·rw [if_pos e0] at H
        have m5 := beq_iff_eq.mpr e0
        have m4 := bne_eq_false_iff_eq.mpr e0
        clear e0
        have H' := Aside0.mk H
        clear H
        obtain ⟨r5, r4, o9, o8⟩ := cz2 a4
        go_wp2_with ((with_reducible refine gate_callee (f := 89) rfl ?_); refine gl 50 Tryz.func89 #[.agg #[.slice a9 a0.length a7, .slice a8 a3.length a6], .int .i64 b8] (h := ?_); (with_reducible refine (q4_edge.calls k3 _ _ a0 _ _ a3 b8 d5 _ ?b3 ?b2 ?b1 ?b0 n4.out).mono ?_); (case b3 => exact cb b7 HB); (case b2 => exact c1.out); (case b1 => exact cb b6 HB); (case b0 => exact c0.out); rintro e w5 ⟨rfl, hb⟩; refine ⟨_, rfl, ?_⟩; replace a4 := bkb a4 hb; replace HB := bstep HB hb; (try clear hb); (try clear hb2); (try clear hk); (try clear hi))
        go_roundg k3
        case measure => have := j2.out; have := j1.out; have := n3.out; omega
        case rel => exact ⟨(wrap64 (b8 + 1)), eqs, H', ⟨by have := j2.out; have := j1.out; have := n3.out; omega⟩, ⟨bk a4⟩, ⟨bb HB⟩⟩
       rw [if_neg e0] at H
       have m5 := beq_eq_false_iff_ne.mpr e0
       have m4 := bne_iff_ne.mpr e0
       obtain ⟨n1, H⟩ := itn H
       have v9 := decide_eq_true n1
       clear n1
       simp only [Option.some.injEq, Prod.mk.injEq] at H
       obtain ⟨rfl, rfl⟩ := H
       obtain ⟨r3, r0, o7, o6⟩ := cz2 a4
       go_wp2_with ((with_reducible refine gate_callee (f := 89) rfl ?_); refine gl 50 Tryz.func89 #[.agg #[.slice a9 a0.length a7, .slice a8 a3.length a6], .int .i64 b8] (h := ?_); (with_reducible refine (q4_edge.calls k3 _ _ a0 _ _ a3 b8 d5 _ ?b3 ?b2 ?b1 ?b0 n4.out).mono ?_); (case b3 => exact cb b7 HB); (case b2 => exact c1.out); (case b1 => exact cb b6 HB); (case b0 => exact c0.out); rintro e w4 ⟨rfl, hb⟩; refine ⟨_, rfl, ?_⟩; replace a4 := bkb a4 hb; replace HB := bstep HB hb; (try clear hb); (try clear hb2); (try clear hk); (try clear hi); obtain ⟨q9, q8, o5, o4⟩ := cz2 a4; have h6 : 0 ≤ b8 := odt; have h4 : b8 < (a3.length : Int) := odt; obtain ⟨w1, n6, e8, e7, e6, e5, e4, e3, e2⟩ := at_T101 b6.out b8 h6 h4; cases n6; replace e8 := hxc HB e8; replace e7 := hxc HB e7; replace e6 := hxc HB e6; replace e5 := hxc HB e5; replace e4 := hxc HB e4; replace e3 := hxc HB e3; replace e2 := hxc HB e2; replace h6 := eq_true h6; replace h4 := eq_true h4)
       go_ret2
       exact ⟨erf, bb HB⟩
def q4_given.f (k : Nat) (a0 : List (S96)) (a3 : List (S101)) (a1 : Int) (a2 : Int) : Option (Int) := (q4_Valid.f k a0 a3).bind fun d4 => (if d4.2 = 0 then ((q4_in.f a1 0 (wrap64 ((a0.length : Int) - 1))).bind fun c4 => (if c4 = true then ((q4_in.f a2 0 (wrap64 ((a0.length : Int) - 1))).bind fun c3 => (if c3 = true then (some 0) else (some 6))) else (some 6))) else (some d4.2))
set_option maxHeartbeats 8000000 in
set_option maxRecDepth 100000 in
theorem q4_given.calls (k : Nat) (a9 : Option Addr) (a7 : Nat) (a0 : List (S96)) (a8 : Option Addr) (a6 : Nat) (a3 : List (S101)) (a1 : Int) (a2 : Int) (r : Int) (w : World) (d1 : Kd.C k96 w a9 a0.length a0) (d3 : a0.length ≤ a7) (d0 : Kd.C k101 w a8 a3.length a3) (d2 : a3.length ≤ a6) (h : q4_given.f k a0 a3 a1 a2 = some r) :
  Calls Tryz.prog 86 #[.agg #[.slice a9 a0.length a7, .slice a8 a3.length a6], .int .i64 a1, .int .i64 a2] w fun e w' => e = .returned (.int .i64 r) ∧ Below w.heap.size w w' := by
 have hu31 := Tryz.underlying31
 have b7 := Aside0.mk d1
 have c1 := Aside0.mk d3
 clear d1 d3
 have b6 := Aside0.mk d0
 have c0 := Aside0.mk d2
 clear d0 d2
 have HB := Aside0.mk (Below.refl w.heap.size w)
 have H : ((q4_Valid.f k a0 a3).bind fun d4 => (if d4.2 = 0 then ((q4_in.f a1 0 (wrap64 ((a0.length : Int) - 1))).bind fun c4 => (if c4 = true then ((q4_in.f a2 0 (wrap64 ((a0.length : Int) - 1))).bind fun c3 => (if c3 = true then (some 0) else (some 6))) else (some 6))) else (some d4.2))) = some r := h
 clear h
 obtain ⟨⟨h1, c6⟩, A4, H⟩ := obA H
 replace H : (if c6 = 0 then ((q4_in.f a1 0 (wrap64 ((a0.length : Int) - 1))).bind fun c4 => (if c4 = true then ((q4_in.f a2 0 (wrap64 ((a0.length : Int) - 1))).bind fun c3 => (if c3 = true then (some 0) else (some 6))) else (some 6))) else (some c6)) = some r := H
 by_cases c5 : c6 = 0
 rotate_left
 ·rw [if_neg c5] at H
  have o0 := beq_eq_false_iff_ne.mpr c5
  have n9 := bne_iff_ne.mpr c5
  obtain rfl := Option.some.inj H
  go_enter Tryz.func86, Tryz.ntmps86
  go_wp2_with (first | ((with_reducible refine gate_dst (N := 3) rfl ?_); (try (refine gate_guard (by rfl) ?_; dsimp only)); refine be 3 #[.slice a9 a0.length a7, .slice a8 a3.length a6] 31 ?_; intro h2 hg w8 hbox hb; have a5 := Aside0.mk (hbox); have h3 := bsz HB hg; replace HB := bstep HB hb; clear hb hbox hg; obtain ⟨r7, r6, p1, p0⟩ := cz2 a5) | ((with_reducible refine gate_callee (f := 62) rfl ?_); refine gl 11 Tryz.func62 #[.agg #[.slice a9 a0.length a7, .slice a8 a3.length a6]] (h := ?_); (with_reducible refine (q4_Valid.calls k _ _ a0 _ _ a3 h1 c6 _ ?b3 ?b2 ?b1 ?b0 A4.out).mono ?_); (case b3 => exact cb b7 HB); (case b2 => exact c1.out); (case b1 => exact cb b6 HB); (case b0 => exact c0.out); rintro e w7 ⟨rfl, hb⟩; refine ⟨_, rfl, ?_⟩; replace a5 := bkb a5 hb; replace HB := bstep HB hb; (try clear hb); (try clear hb2); (try clear hk); (try clear hi)))
  go_ret
  exact ⟨erf, bb HB⟩
 rw [if_pos c5] at H
 have o0 := beq_iff_eq.mpr c5
 have n9 := bne_eq_false_iff_eq.mpr c5
 clear c5
 obtain ⟨c4, A6, H⟩ := obA H
 by_cases c7 : c4 = true
 rotate_left
 ·replace c7 := Bool.eq_false_iff.mpr c7
  subst c7
  replace H := iff_ H
  obtain rfl := Option.some.inj H
  go_enter Tryz.func86, Tryz.ntmps86
  go_wp2_with (first | ((with_reducible refine gate_dst (N := 3) rfl ?_); (try (refine gate_guard (by rfl) ?_; dsimp only)); refine be 3 #[.slice a9 a0.length a7, .slice a8 a3.length a6] 31 ?_; intro h2 hg x1 hbox hb; have a5 := Aside0.mk (hbox); have h3 := bsz HB hg; replace HB := bstep HB hb; clear hb hbox hg; obtain ⟨s1, s0, p5, p4⟩ := cz2 a5) | ((with_reducible refine gate_callee (f := 62) rfl ?_); refine gl 11 Tryz.func62 #[.agg #[.slice a9 a0.length a7, .slice a8 a3.length a6]] (h := ?_); (with_reducible refine (q4_Valid.calls k _ _ a0 _ _ a3 h1 c6 _ ?b3 ?b2 ?b1 ?b0 A4.out).mono ?_); (case b3 => exact cb b7 HB); (case b2 => exact c1.out); (case b1 => exact cb b6 HB); (case b0 => exact c0.out); rintro e w9 ⟨rfl, hb⟩; refine ⟨_, rfl, ?_⟩; replace a5 := bkb a5 hb; replace HB := bstep HB hb; (try clear hb); (try clear hb2); (try clear hk); (try clear hi); obtain ⟨g8, g7, g6, g5⟩ := cz2 a5) | ((with_reducible refine gate_callee (f := 90) rfl ?_); refine gl 22 Tryz.func90 #[.int .i64 a1, .int .i64 0, .int .i64 (wrap64 ((a0.length : Int) - 1))] (h := ?_); (with_reducible refine (q4_in.calls a1 0 (wrap64 ((a0.length : Int) - 1)) false _ A6.out).mono ?_); rintro e w' ⟨rfl, ⟨nd, rfl⟩⟩; refine ⟨_, rfl, ?_⟩))
  go_ret
  exact ⟨erf, bb HB⟩
 subst c7
 replace H := ift H
 obtain ⟨c3, A8, H⟩ := obA H
 by_cases c9 : c3 = true
 ·subst c9
  replace H := ift H
  obtain rfl := Option.some.inj H
  go_enter Tryz.func86, Tryz.ntmps86
  go_wp2_with (first | ((with_reducible refine gate_dst (N := 3) rfl ?_); (try (refine gate_guard (by rfl) ?_; dsimp only)); refine be 3 #[.slice a9 a0.length a7, .slice a8 a3.length a6] 31 ?_; intro h2 hg x5 hbox hb; have a5 := Aside0.mk (hbox); have h3 := bsz HB hg; replace HB := bstep HB hb; clear hb hbox hg; obtain ⟨s9, s8, q3, q2⟩ := cz2 a5) | ((with_reducible refine gate_callee (f := 62) rfl ?_); refine gl 11 Tryz.func62 #[.agg #[.slice a9 a0.length a7, .slice a8 a3.length a6]] (h := ?_); (with_reducible refine (q4_Valid.calls k _ _ a0 _ _ a3 h1 c6 _ ?b3 ?b2 ?b1 ?b0 A4.out).mono ?_); (case b3 => exact cb b7 HB); (case b2 => exact c1.out); (case b1 => exact cb b6 HB); (case b0 => exact c0.out); rintro e x3 ⟨rfl, hb⟩; refine ⟨_, rfl, ?_⟩; replace a5 := bkb a5 hb; replace HB := bstep HB hb; (try clear hb); (try clear hb2); (try clear hk); (try clear hi); obtain ⟨s7, s6, q1, q0⟩ := cz2 a5) | ((with_reducible refine gate_callee (f := 90) rfl ?_); refine gl 22 Tryz.func90 #[.int .i64 a1, .int .i64 0, .int .i64 (wrap64 ((a0.length : Int) - 1))] (h := ?_); (with_reducible refine (q4_in.calls a1 0 (wrap64 ((a0.length : Int) - 1)) true _ A6.out).mono ?_); rintro e w' ⟨rfl, ⟨nd, rfl⟩⟩; refine ⟨_, rfl, ?_⟩) | (go_at_call 90; (with_reducible refine (q4_in.calls a2 0 (wrap64 ((a0.length : Int) - 1)) true _ A8.out).mono ?_); rintro e w' ⟨rfl, ⟨nd, rfl⟩⟩))
  go_ret
  exact ⟨erf, bb HB⟩
 ·replace c9 := Bool.eq_false_iff.mpr c9
  subst c9
  replace H := iff_ H
  obtain rfl := Option.some.inj H
  go_enter Tryz.func86, Tryz.ntmps86
  go_wp2_with (first | ((with_reducible refine gate_dst (N := 3) rfl ?_); (try (refine gate_guard (by rfl) ?_; dsimp only)); refine be 3 #[.slice a9 a0.length a7, .slice a8 a3.length a6] 31 ?_; intro h2 hg x2 hbox hb; have a5 := Aside0.mk (hbox); have h3 := bsz HB hg; replace HB := bstep HB hb; clear hb hbox hg; obtain ⟨j6, j5, j4, j3⟩ := cz2 a5) | ((with_reducible refine gate_callee (f := 62) rfl ?_); refine gl 11 Tryz.func62 #[.agg #[.slice a9 a0.length a7, .slice a8 a3.length a6]] (h := ?_); (with_reducible refine (q4_Valid.calls k _ _ a0 _ _ a3 h1 c6 _ ?b3 ?b2 ?b1 ?b0 A4.out).mono ?_); (case b3 => exact cb b7 HB); (case b2 => exact c1.out); (case b1 => exact cb b6 HB); (case b0 => exact c0.out); rintro e t5 ⟨rfl, hb⟩; refine ⟨_, rfl, ?_⟩; replace a5 := bkb a5 hb; replace HB := bstep HB hb; (try clear hb); (try clear hb2); (try clear hk); (try clear hi); obtain ⟨s5, s4, p9, p8⟩ := cz2 a5) | ((with_reducible refine gate_callee (f := 90) rfl ?_); refine gl 22 Tryz.func90 #[.int .i64 a1, .int .i64 0, .int .i64 (wrap64 ((a0.length : Int) - 1))] (h := ?_); (with_reducible refine (q4_in.calls a1 0 (wrap64 ((a0.length : Int) - 1)) true _ A6.out).mono ?_); rintro e w' ⟨rfl, ⟨nd, rfl⟩⟩; refine ⟨_, rfl, ?_⟩) | (go_at_call 90; (with_reducible refine (q4_in.calls a2 0 (wrap64 ((a0.length : Int) - 1)) false _ A8.out).mono ?_); rintro e w' ⟨rfl, ⟨nd, rfl⟩⟩))
  go_ret
  exact ⟨erf, bb HB⟩
end Go.Proofs.YtfpianecohobjaaGreat.P
