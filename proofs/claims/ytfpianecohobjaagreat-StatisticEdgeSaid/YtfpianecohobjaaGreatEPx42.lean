/- StatisticOf: a part of its proof. No condition. -/
import Derived.Test.YtfpianecohobjaaGreatEPx0
namespace Go.Proofs.YtfpianecohobjaaGreat.P
open Go.RowKit Go.Proofs.YtfpianecohobjaaGreatW.PrintWords Go.Proofs.YtfpianecohobjaaGreatW.PrintLast Go.Proofs.YtfpianecohobjaaGreatW.PrintMore
set_option maxHeartbeats 8000000
set_option maxRecDepth 100000
set_option linter.unusedVariables false
set_option linter.unusedSimpArgs false
mutual
def q4_Few.j0 : Nat → Bool → List (S96) → List (S101) → Option (Bool)
 | 0, _, _, _ => none
 | k + 1, D7, a1, a5 => if D7 = true then (some false) else (q4_Few.l0 k 0 0 a1 a5)
def q4_Few.l0 : Nat → Int → Int → List (S96) → List (S101) → Option (Bool)
 | 0, _, _, _, _ => none
 | k + 1, x3, x4, a1, a5 => if x4 < (a1.length : Int) then (if 0 ≤ x4 then (if (wrap64 (x3 + (((rd_T96 a1 x4).f3).length : Int))) > 30 then (q4_Few.j2 k (wrap64 (x3 + (((rd_T96 a1 x4).f3).length : Int))) x4 true a1 a5) else (q4_Few.j2 k (wrap64 (x3 + (((rd_T96 a1 x4).f3).length : Int))) x4 (decide ((((rd_T96 a1 x4).f0).size : Int) > 40)) a1 a5)) else (none)) else (q4_Few.l3 k 0 a1 a5)
def q4_Few.j2 : Nat → Int → Int → Bool → List (S96) → List (S101) → Option (Bool)
 | 0, _, _, _, _, _ => none
 | k + 1, x3, x4, D6, a1, a5 => if D6 = true then (some false) else (q4_Few.l1 k x3 x4 0 a1 a5)
def q4_Few.l1 : Nat → Int → Int → Int → List (S96) → List (S101) → Option (Bool)
 | 0, _, _, _, _, _ => none
 | k + 1, x3, x4, x5, a1, a5 => if 0 ≤ x4 then (if x4 < (a1.length : Int) then (if x5 < (((rd_T96 a1 x4).f3).length : Int) then (if 0 ≤ x5 then (if (((rd_T99 ((rd_T96 a1 x4).f3) x5).f0).size : Int) > 40 then (q4_Few.j4 k x3 x4 x5 true a1 a5 ((rd_T99 ((rd_T96 a1 x4).f3) x5).f0) ((rd_T99 ((rd_T96 a1 x4).f3) x5).f1) ((rd_T99 ((rd_T96 a1 x4).f3) x5).f2) ((rd_T99 ((rd_T96 a1 x4).f3) x5).f3)) else (q4_Few.j4 k x3 x4 x5 (decide ((((rd_T99 ((rd_T96 a1 x4).f3) x5).f3).length : Int) > 25)) a1 a5 ((rd_T99 ((rd_T96 a1 x4).f3) x5).f0) ((rd_T99 ((rd_T96 a1 x4).f3) x5).f1) ((rd_T99 ((rd_T96 a1 x4).f3) x5).f2) ((rd_T99 ((rd_T96 a1 x4).f3) x5).f3))) else (none)) else (q4_Few.l0 k x3 (wrap64 (x4 + 1)) a1 a5)) else (none)) else (none)
def q4_Few.j4 : Nat → Int → Int → Int → Bool → List (S96) → List (S101) → ByteArray → Int → Int → List ByteArray → Option (Bool)
 | 0, _, _, _, _, _, _, _, _, _, _ => none
 | k + 1, x3, x4, x5, D5, a1, a5, d2, d1, d0, b6 => if D5 = true then (some false) else (q4_Few.l2 k x3 x4 x5 0 a1 a5 d2 d1 d0 b6)
def q4_Few.l2 : Nat → Int → Int → Int → Int → List (S96) → List (S101) → ByteArray → Int → Int → List ByteArray → Option (Bool)
 | 0, _, _, _, _, _, _, _, _, _, _ => none
 | k + 1, x3, x4, x5, x7, a1, a5, d2, d1, d0, b6 => if x7 < (b6.length : Int) then (if 0 ≤ x7 then (if ((rdOf ByteArray.empty b6 x7).size : Int) > 40 then (some false) else (q4_Few.l2 k x3 x4 x5 (wrap64 (x7 + 1)) a1 a5 d2 d1 d0 b6)) else (none)) else (q4_Few.l1 k x3 x4 (wrap64 (x5 + 1)) a1 a5)
def q4_Few.l3 : Nat → Int → List (S96) → List (S101) → Option (Bool)
 | 0, _, _, _ => none
 | k + 1, x8, a1, a5 => if x8 < (a5.length : Int) then (if 0 ≤ x8 then (if (((rd_T101 a5 x8).f0).size : Int) > 40 then (some false) else (q4_Few.l3 k (wrap64 (x8 + 1)) a1 a5)) else (none)) else (some true)
end
def q4_Few.f (k : Nat) (a0 : List (S96)) (a6 : List (S101)) : Option (Bool) := if (a0.length : Int) > 20 then (q4_Few.j0 k true a0 a6) else (q4_Few.j0 k (decide ((a6.length : Int) > 30)) a0 a6)
theorem q4_Few.calls (k : Nat) (e7 : Option Addr) (b4 : Nat) (a0 : List (S96)) (b5 : Option Addr) (b3 : Nat) (a6 : List (S101)) (r : Bool) (w : World) (o7 : Kd.C k96 w e7 a0.length a0) (o9 : a0.length ≤ b4) (o6 : Kd.C k101 w b5 a6.length a6) (o8 : a6.length ≤ b3) (h : q4_Few.f k a0 a6 = some r) :
  Calls Tryz.prog 20 #[.agg #[.slice e7 a0.length b4, .slice b5 a6.length b3]] w fun e w' => e = .returned (.bool r) ∧ Below w.heap.size w w' := by
 have hu31 := Tryz.underlying31
 have hu99 := Tryz.underlying99
 have g0 := Aside0.mk o7
 have G7 := Aside0.mk o9
 clear o7 o9
 have t2 := Aside0.mk o6
 have G6 := Aside0.mk o8
 clear o6 o8
 have HB := Aside0.mk (Below.refl w.heap.size w)
 have H : (if (a0.length : Int) > 20 then (q4_Few.j0 k true a0 a6) else (q4_Few.j0 k (decide ((a6.length : Int) > 30)) a0 a6)) = some r := h
 clear h
 have r8 := Aside0.mk H
 clear H
 go_enter Tryz.func20, Tryz.ntmps20
 go_upto_region 1 with ((with_reducible refine gate_dst (N := 1) rfl ?_); (try (refine gate_guard (by rfl) ?_; dsimp only)); refine be 1 #[.slice e7 a0.length b4, .slice b5 a6.length b3] 31 ?_; intro b7 hg w3 hbox hb; have a4 := Aside0.mk (hbox); have G9 := bsz HB hg; replace HB := bstep HB hb; clear hb hbox hg)
 (try simp only [Act.put, List.setIfInBounds_toArray, List.set_cons_zero, List.set_cons_succ])
 go_cut [18] (fun E0 wc => ∃ (kq : Nat) (e9 : Bool), E0 = .bool e9 ∧ Aside0 (q4_Few.j0 kq e9 a0 a6 = some r) ∧ Aside0 (kq ≤ k) ∧ Aside0 (wc.heap[b7]? = some (.cells #[(.slice e7 a0.length b4), (.slice b5 a6.length b3)] 31 (0, 0))) ∧ Aside0 (Below w.heap.size w wc))
 case first =>
  have H := r8.out
  clear r8
  by_cases c4 : (a0.length : Int) > 20
  rw [if_pos c4] at H
  have g1 : decide (20 < (a0.length : Int)) = true := decide_eq_true c4
  have w5 : decide (20 < a0.length) = true := decide_eq_true (by omega)
  clear c4
  (first | rw [g1] | (simp only [i64_w, i32_w]; rw [g1]) | skip)
  have H' := Aside0.mk H
  clear H
  rotate_left
  rw [if_neg c4] at H
  have g1 : decide (20 < (a0.length : Int)) = false := decide_eq_false c4
  have w5 : decide (20 < a0.length) = false := decide_eq_false (by omega)
  clear c4
  (first | rw [g1] | (simp only [i64_w, i32_w]; rw [g1]) | skip)
  have H' := Aside0.mk H
  clear H
  all_goals
   obtain ⟨E4, E3, E2, E1⟩ := cz2 a4
   go_wp2
   go_meet
   case rel => exact ⟨_, _, eqs, H', ⟨by first | omega | exact Nat.le_refl _⟩, ⟨bk a4⟩, ⟨bb HB⟩⟩
 case rest =>
  clear r8
  obtain ⟨kq, e9, rfl, HA, c0, a4, HB⟩ := hcut
  cases kq with
  | zero => exact absurd HA.out (by simp [q4_Few.j0])
  | succ t4 =>
   have H := HA.out
   clear HA
   simp only [q4_Few.j0] at H
   by_cases c7 : e9 = true
   ·subst c7
    replace H := ift H
    obtain rfl := Option.some.inj H
    go_wp2
    go_ret
    exact ⟨erf, bb HB⟩
   replace c7 := Bool.eq_false_iff.mpr c7
   subst c7
   replace H := iff_ H
   have H' := Aside0.mk H
   clear H
   go_wp2
   go_loopg [3, 4] t4 (fun kq v3 v4 w' => ∃ (b0 : Int) (a2 : Int), v3 = .int .i64 b0 ∧ v4 = .int .i64 a2 ∧ Aside0 (q4_Few.l0 kq b0 a2 a0 a6 = some r) ∧ Aside0 (kq ≤ t4) ∧ Aside0 (w'.heap[b7]? = some (.cells #[(.slice e7 a0.length b4), (.slice b5 a6.length b3)] 31 (0, 0))) ∧ Aside0 (Below w.heap.size w w'))
   case atStart => exact ⟨(0), (0), eqs, eqs, H', ⟨Nat.le_refl _⟩, ⟨bk a4⟩, ⟨bb HB⟩⟩
   case round =>
    clear H'
    obtain ⟨b0, a2, rfl, rfl, HA, b9, a4, HB⟩ := hrel
    cases gk with
    | zero => exact absurd HA.out (by simp [q4_Few.l0])
    | succ k2 =>
     have H := HA.out
     clear HA
     simp only [q4_Few.l0] at H
     by_cases c8 : a2 < (a0.length : Int)
     rotate_left
     ·rw [if_neg c8] at H
      have o3 := decide_eq_false c8
      clear c8
      have H' := Aside0.mk H
      clear H
      obtain ⟨q6, q5, p6, p5⟩ := cz2 a4
      go_wp2
      go_loopg [8] k2 (fun kq v8 w' => ∃ (a7 : Int), v8 = .int .i64 a7 ∧ Aside0 (q4_Few.l3 kq a7 a0 a6 = some r) ∧ Aside0 (kq ≤ k2) ∧ Aside0 (w'.heap[b7]? = some (.cells #[(.slice e7 a0.length b4), (.slice b5 a6.length b3)] 31 (0, 0))) ∧ Aside0 (Below w.heap.size w w'))
      case atStart => exact ⟨(0), eqs, H', ⟨Nat.le_refl _⟩, ⟨bk a4⟩, ⟨bb HB⟩⟩
      case round =>
       clear H' o3 q6 q5 p6 p5
       obtain ⟨a7, rfl, HA, v0, a4, HB⟩ := hrel
       cases gk with
       | zero => exact absurd HA.out (by simp [q4_Few.l3])
       | succ k3 =>
        have H := HA.out
        clear HA
        simp only [q4_Few.l3] at H
        by_cases m0 : a7 < (a6.length : Int)
        rotate_left
        ·rw [if_neg m0] at H
         have s1 := decide_eq_false m0
         clear m0
         obtain rfl := Option.some.inj H
         obtain ⟨A0, y9, w7, w6⟩ := cz2 a4
         go_wp2
         go_ret
         exact ⟨erf, bb HB⟩
        rw [if_pos m0] at H
        have s1 := decide_eq_true m0
        clear m0
        obtain ⟨t5, H⟩ := itn H
        have G1 := decide_eq_true t5
        clear t5
        by_cases j9 : (((rd_T101 a6 a7).f0).size : Int) > 40
        rw [if_pos j9] at H
        have s0 : decide (40 < (((rd_T101 a6 a7).f0).size : Int)) = true := decide_eq_true j9
        have r9 : decide (40 < ((rd_T101 a6 a7).f0).size) = true := decide_eq_true (by omega)
        clear j9
        obtain rfl := Option.some.inj H
        rotate_left
        rw [if_neg j9] at H
        have s0 : decide (40 < (((rd_T101 a6 a7).f0).size : Int)) = false := decide_eq_false j9
        have r9 : decide (40 < ((rd_T101 a6 a7).f0).size) = false := decide_eq_false (by omega)
        clear j9
        have H' := Aside0.mk H
        clear H
        all_goals
         obtain ⟨A2, A1, w9, w8⟩ := cz2 a4
         have o0 : 0 ≤ a7 := odt
         have n7 : a7 < (a6.length : Int) := odt
         obtain ⟨G3, v1, h0, g9, g8, g7, g6, g5, g4⟩ := at_T101 t2.out a7 o0 n7
         cases v1
         replace h0 := hxc HB h0
         replace g9 := hxc HB g9
         replace g8 := hxc HB g8
         replace g7 := hxc HB g7
         replace g6 := hxc HB g6
         replace g5 := hxc HB g5
         replace g4 := hxc HB g4
         replace o0 := eq_true o0
         replace n7 := eq_true n7
         go_wp2
        ·go_roundg k3
         case measure => have := c0.out; have := b9.out; have := v0.out; omega
         case rel => exact ⟨(wrap64 (a7 + 1)), eqs, H', ⟨by have := c0.out; have := b9.out; have := v0.out; omega⟩, ⟨bk a4⟩, ⟨bb HB⟩⟩
        ·go_ret
         exact ⟨erf, bb HB⟩
     rw [if_pos c8] at H
     have o3 := decide_eq_true c8
     clear c8
     obtain ⟨c9, H⟩ := itn H
     have w4 := decide_eq_true c9
     clear c9
     have o5 := Aside0.mk H
     clear H
     obtain ⟨r4, r3, q4, q3⟩ := cz2 a4
     have n3 : 0 ≤ a2 := odt
     have m9 : a2 < (a0.length : Int) := odt
     obtain ⟨b8, F2, E8, w2, e6, e5, e4, e3, j1, j8⟩ := at_T96 g0.out a2 n3 m9
     cases w2
     replace e6 := hxc HB e6
     replace e5 := hxc HB e5
     replace e4 := hxc HB e4
     replace e3 := hxc HB e3
     have C9 := Aside0.mk j8
     have D4 := Aside0.mk j1
     clear j8 j1
     replace n3 := eq_true n3
     replace m9 := eq_true m9
     go_upto_region 8 with (fail)
     go_cut [46] (fun D9 wc => ∃ (kq : Nat) (e8 : Bool), D9 = .bool e8 ∧ Aside0 (q4_Few.j2 kq (wrap64 (b0 + (((rd_T96 a0 a2).f3).length : Int))) a2 e8 a0 a6 = some r) ∧ Aside0 (kq ≤ k2) ∧ Aside0 (wc.heap[b7]? = some (.cells #[(.slice (some b8) a0.length b4), (.slice b5 a6.length b3)] 31 (0, 0))) ∧ Aside0 (Below w.heap.size w wc))
     case first =>
      have H := o5.out
      clear o5
      by_cases m5 : (wrap64 (b0 + (((rd_T96 a0 a2).f3).length : Int))) > 30
      ·rw [if_pos m5] at H
       have c6 : decide (30 < (wrap64 (b0 + (((rd_T96 a0 a2).f3).length : Int)))) = true := decide_eq_true m5
       clear m5
       (first | rw [c6] | (simp only [i64_w, i32_w]; rw [c6]) | skip)
       have H' := Aside0.mk H
       clear H
       go_wp2
       go_meet
       case rel => exact ⟨_, (true), eqs, H', ⟨by have := c0.out; have := b9.out; first | omega | exact Nat.le_refl _⟩, ⟨bk a4⟩, ⟨bb HB⟩⟩
      rw [if_neg m5] at H
      have c6 : decide (30 < (wrap64 (b0 + (((rd_T96 a0 a2).f3).length : Int)))) = false := decide_eq_false m5
      clear m5
      (first | rw [c6] | (simp only [i64_w, i32_w]; rw [c6]) | skip)
      have H' := Aside0.mk H
      clear H
      obtain ⟨C6, C5, y8, y7⟩ := cz2 a4
      have o2 : 0 ≤ a2 := odt
      have n9 : a2 < (a0.length : Int) := odt
      obtain ⟨t1, F1, E7, w1, h5, h4, h3, h2, h9, j7⟩ := at_T96 g0.out a2 o2 n9
      obtain rfl : b8 = t1 := (by injection w1)
      replace h5 := hxc HB h5
      replace h4 := hxc HB h4
      replace h3 := hxc HB h3
      replace h2 := hxc HB h2
      have C8 := Aside0.mk j7
      have D3 := Aside0.mk h9
      clear j7 h9
      replace o2 := eq_true o2
      replace n9 := eq_true n9
      go_wp2
      go_meet
      case rel => exact ⟨_, (decide ((((rd_T96 a0 a2).f0).size : Int) > 40)), eqs, H', ⟨by have := c0.out; have := b9.out; first | omega | exact Nat.le_refl _⟩, ⟨bk a4⟩, ⟨bb HB⟩⟩
     case rest =>
      clear o5 o3 w4 r4 r3 q4 q3 e6 e5 e4 e3 n3 m9
      obtain ⟨kq, e8, rfl, HA, g3, a4, HB⟩ := hcut
      cases kq with
      | zero => exact absurd HA.out (by simp [q4_Few.j2])
      | succ t3 =>
       have H := HA.out
       clear HA
       simp only [q4_Few.j2] at H
       by_cases p3 : e8 = true
       ·subst p3
        replace H := ift H
        obtain rfl := Option.some.inj H
        go_wp2
        go_ret
        exact ⟨erf, bb HB⟩
       replace p3 := Bool.eq_false_iff.mpr p3
       subst p3
       replace H := iff_ H
       have H' := Aside0.mk H
       clear H
       go_wp2
       go_loopg [5] t3 (fun kq v5 w' => ∃ (a3 : Int), v5 = .int .i64 a3 ∧ Aside0 (q4_Few.l1 kq (wrap64 (b0 + (((rd_T96 a0 a2).f3).length : Int))) a2 a3 a0 a6 = some r) ∧ Aside0 (kq ≤ t3) ∧ Aside0 (w'.heap[b7]? = some (.cells #[(.slice (some b8) a0.length b4), (.slice b5 a6.length b3)] 31 (0, 0))) ∧ Aside0 (Below w.heap.size w w'))
       case atStart => exact ⟨(0), eqs, H', ⟨Nat.le_refl _⟩, ⟨bk a4⟩, ⟨bb HB⟩⟩
       case round =>
        clear H'
        obtain ⟨a3, rfl, HA, g2, a4, HB⟩ := hrel
        cases gk with
        | zero => exact absurd HA.out (by simp [q4_Few.l1])
        | succ k4 =>
         have H := HA.out
         clear HA
         simp only [q4_Few.l1] at H
         obtain ⟨t9, H⟩ := itn H
         have s8 := decide_eq_true t9
         clear t9
         obtain ⟨t8, H⟩ := itn H
         have s7 := decide_eq_true t8
         clear t8
         by_cases m4 : a3 < (((rd_T96 a0 a2).f3).length : Int)
         rw [if_pos m4] at H
         have p2 := decide_eq_true m4
         clear m4
         obtain ⟨t7, H⟩ := itn H
         have s6 := decide_eq_true t7
         clear t7
         have o4 := Aside0.mk H
         clear H
         rotate_left
         rw [if_neg m4] at H
         have p2 := decide_eq_false m4
         clear m4
         have H' := Aside0.mk H
         clear H
         all_goals
          obtain ⟨r2, r1, q2, q1⟩ := cz2 a4
          have n2 : 0 ≤ a2 := odt
          have m8 : a2 < (a0.length : Int) := odt
          obtain ⟨t0, F0, E6, w0, e2, e1, e0, c2, h8, j6⟩ := at_T96 g0.out a2 n2 m8
          obtain rfl : b8 = t0 := (by injection w0)
          replace e2 := hxc HB e2
          replace e1 := hxc HB e1
          replace e0 := hxc HB e0
          replace c2 := hxc HB c2
          have C7 := Aside0.mk j6
          have D2 := Aside0.mk h8
          clear j6 h8
          replace n2 := eq_true n2
          replace m8 := eq_true m8
         ·go_wp2
          go_roundg k4
          case measure => have := c0.out; have := b9.out; have := g3.out; have := g2.out; omega
          case rel => exact ⟨((wrap64 (b0 + (((rd_T96 a0 a2).f3).length : Int)))), (wrap64 (a2 + 1)), eqs, eqs, H', ⟨by have := c0.out; have := b9.out; have := g3.out; have := g2.out; omega⟩, ⟨bk a4⟩, ⟨bb HB⟩⟩
         ·have n1 : 0 ≤ a2 := odt
          have m7 : a2 < (a0.length : Int) := odt
          obtain ⟨s9, E9, E5, v9, d9, d8, d7, c1, h7, j5⟩ := at_T96 g0.out a2 n1 m7
          obtain rfl : b8 = s9 := (by injection v9)
          replace d9 := hxc HB d9
          replace d8 := hxc HB d8
          replace d7 := hxc HB d7
          replace c1 := hxc HB c1
          have r6 := Aside0.mk j5
          have D1 := Aside0.mk h7
          clear j5 h7
          replace n1 := eq_true n1
          replace m7 := eq_true m7
          have ea_ := Option.some.inj (c2.symm.trans c1)
          injection ea_ with ea_ en_ ec_
          subst ea_
          subst ec_
          clear en_
          have n0 : 0 ≤ a3 := odt
          have m6 : a3 < (((rd_T96 a0 a2).f3).length : Int) := odt
          obtain ⟨G5, n6, n5, v6, d6, d5, d4, d3, h6, j3⟩ := at_T99 r6.out a3 n0 m6
          cases v6
          replace d6 := hxc HB d6
          replace d5 := hxc HB d5
          replace d4 := hxc HB d4
          replace d3 := hxc HB d3
          have r5 := Aside0.mk j3
          have D0 := Aside0.mk h6
          clear j3 h6
          replace n0 := eq_true n0
          replace m6 := eq_true m6
          go_upto_region 14 with ((with_reducible refine gate_dst (N := 6) rfl ?_); (try (refine gate_guard (by rfl) ?_; dsimp only)); refine be 6 #[.string (⟨#[]⟩ : ByteArray), .int .i64 0, .int .i64 0, .slice none 0 0] 99 ?_; intro p0 hg H0 hbox hb; have a9 := Aside0.mk (hbox); have G8 := bsz HB hg; replace HB := bstep HB hb; have b2 := blt a4 hg; have b1 := bgt a4 hg; replace a4 := bkb a4 hb; clear hb hbox hg; have G0 := b1.out; have F6 := b2.out; obtain ⟨r0, q9, q8, q7, q0, p9, p8, p7⟩ := cz4 a9)
          (try simp only [Act.put, List.setIfInBounds_toArray, List.set_cons_zero, List.set_cons_succ])
          go_cut [76] (fun D8 wc => ∃ (kq : Nat) (c3 : Bool), D8 = .bool c3 ∧ Aside0 (q4_Few.j4 kq (wrap64 (b0 + (((rd_T96 a0 a2).f3).length : Int))) a2 a3 c3 a0 a6 ((rd_T99 ((rd_T96 a0 a2).f3) a3).f0) ((rd_T99 ((rd_T96 a0 a2).f3) a3).f1) ((rd_T99 ((rd_T96 a0 a2).f3) a3).f2) ((rd_T99 ((rd_T96 a0 a2).f3) a3).f3) = some r) ∧ Aside0 (kq ≤ k4) ∧ Aside0 (wc.heap[b7]? = some (.cells #[(.slice (some b8) a0.length b4), (.slice b5 a6.length b3)] 31 (0, 0))) ∧ Aside0 (wc.heap[p0]? = some (.cells #[.string ((rd_T99 ((rd_T96 a0 a2).f3) a3).f0), .int .i64 ((rd_T99 ((rd_T96 a0 a2).f3) a3).f1), .int .i64 ((rd_T99 ((rd_T96 a0 a2).f3) a3).f2), (.slice n6 ((rd_T99 ((rd_T96 a0 a2).f3) a3).f3).length n5)] 99 (0, 0))) ∧ Aside0 (Below w.heap.size w wc))
          case first =>
           have H := o4.out
           clear o4
           by_cases m3 : (((rd_T99 ((rd_T96 a0 a2).f3) a3).f0).size : Int) > 40
           rw [if_pos m3] at H
           have c5 : decide (40 < (((rd_T99 ((rd_T96 a0 a2).f3) a3).f0).size : Int)) = true := decide_eq_true m3
           have s5 : decide (40 < ((rd_T99 ((rd_T96 a0 a2).f3) a3).f0).size) = true := decide_eq_true (by omega)
           clear m3
           (first | rw [c5] | (simp only [i64_w, i32_w]; rw [c5]) | skip)
           have H' := Aside0.mk H
           clear H
           rotate_left
           rw [if_neg m3] at H
           have c5 : decide (40 < (((rd_T99 ((rd_T96 a0 a2).f3) a3).f0).size : Int)) = false := decide_eq_false m3
           have s5 : decide (40 < ((rd_T99 ((rd_T96 a0 a2).f3) a3).f0).size) = false := decide_eq_false (by omega)
           clear m3
           (first | rw [c5] | (simp only [i64_w, i32_w]; rw [c5]) | skip)
           have H' := Aside0.mk H
           clear H
           all_goals
            have F9 := b1.out
            have F5 := b2.out
            obtain ⟨C4, C3, C2, C1, y6, y5, y4, y3⟩ := cz4 a9
            go_wp2
            go_meet
            case rel => exact ⟨_, _, eqs, H', ⟨by have := c0.out; have := b9.out; have := g3.out; have := g2.out; first | omega | exact Nat.le_refl _⟩, ⟨bkF a4⟩, ⟨bkP a9⟩, ⟨bb HB⟩⟩
          case rest =>
           clear o4 s8 s7 p2 s6 r2 r1 r0 q9 q8 q7 q2 q1 q0 p9 p8 p7 e2 e1 e0 c2 d9 d8 d7 c1 d6 d5 d4 d3 n2 n1 n0 m8 m7 m6
           obtain ⟨kq, c3, rfl, HA, n4, a4, a9, HB⟩ := hcut
           cases kq with
           | zero => exact absurd HA.out (by simp [q4_Few.j4])
           | succ r7 =>
            have H := HA.out
            clear HA
            simp only [q4_Few.j4] at H
            by_cases p1 : c3 = true
            ·subst p1
             replace H := ift H
             obtain rfl := Option.some.inj H
             go_wp2
             go_ret
             exact ⟨erf, bb HB⟩
            replace p1 := Bool.eq_false_iff.mpr p1
            subst p1
            replace H := iff_ H
            have H' := Aside0.mk H
            clear H
            go_wp2
            go_loopg [7] r7 (fun kq v7 w' => ∃ (a8 : Int), v7 = .int .i64 a8 ∧ Aside0 (q4_Few.l2 kq (wrap64 (b0 + (((rd_T96 a0 a2).f3).length : Int))) a2 a3 a8 a0 a6 ((rd_T99 ((rd_T96 a0 a2).f3) a3).f0) ((rd_T99 ((rd_T96 a0 a2).f3) a3).f1) ((rd_T99 ((rd_T96 a0 a2).f3) a3).f2) ((rd_T99 ((rd_T96 a0 a2).f3) a3).f3) = some r) ∧ Aside0 (kq ≤ r7) ∧ Aside0 (w'.heap[b7]? = some (.cells #[(.slice (some b8) a0.length b4), (.slice b5 a6.length b3)] 31 (0, 0))) ∧ Aside0 (w'.heap[p0]? = some (.cells #[.string ((rd_T99 ((rd_T96 a0 a2).f3) a3).f0), .int .i64 ((rd_T99 ((rd_T96 a0 a2).f3) a3).f1), .int .i64 ((rd_T99 ((rd_T96 a0 a2).f3) a3).f2), (.slice n6 ((rd_T99 ((rd_T96 a0 a2).f3) a3).f3).length n5)] 99 (0, 0))) ∧ Aside0 (Below w.heap.size w w'))
            case atStart => exact ⟨(0), eqs, H', ⟨Nat.le_refl _⟩, ⟨bk a4⟩, ⟨bk a9⟩, ⟨bb HB⟩⟩
            case round =>
             clear H'
             obtain ⟨a8, rfl, HA, p4, a4, a9, HB⟩ := hrel
             cases gk with
             | zero => exact absurd HA.out (by simp [q4_Few.l2])
             | succ k6 =>
              have H := HA.out
              clear HA
              simp only [q4_Few.l2] at H
              by_cases m2 : a8 < (((rd_T99 ((rd_T96 a0 a2).f3) a3).f3).length : Int)
              rotate_left
              ·rw [if_neg m2] at H
               have s4 := decide_eq_false m2
               clear m2
               have H' := Aside0.mk H
               clear H
               have F7 := b1.out
               have F3 := b2.out
               obtain ⟨A6, A5, A4, A3, x6, x2, x1, x0⟩ := cz4 a9
               go_wp2
               go_roundg k6
               case measure => have := c0.out; have := b9.out; have := g3.out; have := g2.out; have := n4.out; have := p4.out; omega
               case rel => exact ⟨(wrap64 (a3 + 1)), eqs, H', ⟨by have := c0.out; have := b9.out; have := g3.out; have := g2.out; have := n4.out; have := p4.out; omega⟩, ⟨bk a4⟩, ⟨bb HB⟩⟩
              rw [if_pos m2] at H
              have s4 := decide_eq_true m2
              clear m2
              obtain ⟨t6, H⟩ := itn H
              have G2 := decide_eq_true t6
              clear t6
              by_cases m1 : ((rdOf ByteArray.empty ((rd_T99 ((rd_T96 a0 a2).f3) a3).f3) a8).size : Int) > 40
              rw [if_pos m1] at H
              have s3 : decide (40 < ((rdOf ByteArray.empty ((rd_T99 ((rd_T96 a0 a2).f3) a3).f3) a8).size : Int)) = true := decide_eq_true m1
              have s2 : decide (40 < (rdOf ByteArray.empty ((rd_T99 ((rd_T96 a0 a2).f3) a3).f3) a8).size) = true := decide_eq_true (by omega)
              clear m1
              obtain rfl := Option.some.inj H
              rotate_left
              rw [if_neg m1] at H
              have s3 : decide (40 < ((rdOf ByteArray.empty ((rd_T99 ((rd_T96 a0 a2).f3) a3).f3) a8).size : Int)) = false := decide_eq_false m1
              have s2 : decide (40 < (rdOf ByteArray.empty ((rd_T99 ((rd_T96 a0 a2).f3) a3).f3) a8).size) = false := decide_eq_false (by omega)
              clear m1
              have H' := Aside0.mk H
              clear H
              all_goals
               have F8 := b1.out
               have F4 := b2.out
               obtain ⟨C0, A9, A8, A7, y2, y1, y0, x9⟩ := cz4 a9
               have o1 : 0 ≤ a8 := odt
               have n8 : a8 < (((rd_T99 ((rd_T96 a0 a2).f3) a3).f3).length : Int) := odt
               obtain ⟨G4, v2, h1⟩ := Kd.at_string r5.out a8 o1 n8
               cases v2
               replace h1 := hxc HB h1
               replace o1 := eq_true o1
               replace n8 := eq_true n8
               go_wp2
              ·go_roundg k6
               case measure => have := c0.out; have := b9.out; have := g3.out; have := g2.out; have := n4.out; have := p4.out; omega
               case rel => exact ⟨(wrap64 (a8 + 1)), eqs, H', ⟨by have := c0.out; have := b9.out; have := g3.out; have := g2.out; have := n4.out; have := p4.out; omega⟩, ⟨bk a4⟩, ⟨bk a9⟩, ⟨bb HB⟩⟩
              ·go_ret
               exact ⟨erf, bb HB⟩
end Go.Proofs.YtfpianecohobjaaGreat.P
