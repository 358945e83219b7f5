/- StatisticOf: a part of its proof. No condition. -/
import Derived.Test.YtfpianecohobjaaGreatXPx0
namespace Go.Proofs.YtfpianecohobjaaGreat.P
open Go.RowKit Go.Proofs.YtfpianecohobjaaGreatW.PrintWords Go.Proofs.YtfpianecohobjaaGreatW.PrintLast Go.Proofs.YtfpianecohobjaaGreatW.PrintMore
set_option maxHeartbeats 8000000
set_option maxRecDepth 100000
set_option linter.unusedVariables false
set_option linter.unusedSimpArgs false
mutual
def q4_Few.j0 : Nat → Bool → List (S96) → List (S101) → Option (Bool)
 | 0, _, _, _ => none
 | k + 1, G5, a2, a6 => if G5 = true then (some false) else (q4_Few.l0 k 0 0 a2 a6)
def q4_Few.l0 : Nat → Int → Int → List (S96) → List (S101) → Option (Bool)
 | 0, _, _, _, _ => none
 | k + 1, x3, x4, a2, a6 => if x4 < (a2.length : Int) then (if 0 ≤ x4 then (if (wrap64 (x3 + (((rd_T96 a2 x4).f3).length : Int))) > 30 then (q4_Few.j2 k (wrap64 (x3 + (((rd_T96 a2 x4).f3).length : Int))) x4 true a2 a6) else (q4_Few.j2 k (wrap64 (x3 + (((rd_T96 a2 x4).f3).length : Int))) x4 (decide ((((rd_T96 a2 x4).f0).size : Int) > 40)) a2 a6)) else (none)) else (q4_Few.l3 k 0 a2 a6)
def q4_Few.j2 : Nat → Int → Int → Bool → List (S96) → List (S101) → Option (Bool)
 | 0, _, _, _, _, _ => none
 | k + 1, x3, x4, G4, a2, a6 => if G4 = true then (some false) else (q4_Few.l1 k x3 x4 0 a2 a6)
def q4_Few.l1 : Nat → Int → Int → Int → List (S96) → List (S101) → Option (Bool)
 | 0, _, _, _, _, _ => none
 | k + 1, x3, x4, x5, a2, a6 => if 0 ≤ x4 then (if x4 < (a2.length : Int) then (if x5 < (((rd_T96 a2 x4).f3).length : Int) then (if 0 ≤ x5 then (if (((rd_T99 ((rd_T96 a2 x4).f3) x5).f0).size : Int) > 40 then (q4_Few.j4 k x3 x4 x5 true a2 a6 ((rd_T99 ((rd_T96 a2 x4).f3) x5).f0) ((rd_T99 ((rd_T96 a2 x4).f3) x5).f1) ((rd_T99 ((rd_T96 a2 x4).f3) x5).f2) ((rd_T99 ((rd_T96 a2 x4).f3) x5).f3)) else (q4_Few.j4 k x3 x4 x5 (decide ((((rd_T99 ((rd_T96 a2 x4).f3) x5).f3).length : Int) > 25)) a2 a6 ((rd_T99 ((rd_T96 a2 x4).f3) x5).f0) ((rd_T99 ((rd_T96 a2 x4).f3) x5).f1) ((rd_T99 ((rd_T96 a2 x4).f3) x5).f2) ((rd_T99 ((rd_T96 a2 x4).f3) x5).f3))) else (none)) else (q4_Few.l0 k x3 (wrap64 (x4 + 1)) a2 a6)) else (none)) else (none)
def q4_Few.j4 : Nat → Int → Int → Int → Bool → List (S96) → List (S101) → ByteArray → Int → Int → List ByteArray → Option (Bool)
 | 0, _, _, _, _, _, _, _, _, _, _ => none
 | k + 1, x3, x4, x5, G3, a2, a6, g2, g1, g0, c1 => if G3 = true then (some false) else (q4_Few.l2 k x3 x4 x5 0 a2 a6 g2 g1 g0 c1)
def q4_Few.l2 : Nat → Int → Int → Int → Int → List (S96) → List (S101) → ByteArray → Int → Int → List ByteArray → Option (Bool)
 | 0, _, _, _, _, _, _, _, _, _, _ => none
 | k + 1, x3, x4, x5, x7, a2, a6, g2, g1, g0, c1 => if x7 < (c1.length : Int) then (if 0 ≤ x7 then (if ((rdOf ByteArray.empty c1 x7).size : Int) > 40 then (some false) else (q4_Few.l2 k x3 x4 x5 (wrap64 (x7 + 1)) a2 a6 g2 g1 g0 c1)) else (none)) else (q4_Few.l1 k x3 x4 (wrap64 (x5 + 1)) a2 a6)
def q4_Few.l3 : Nat → Int → List (S96) → List (S101) → Option (Bool)
 | 0, _, _, _ => none
 | k + 1, x8, a2, a6 => if x8 < (a6.length : Int) then (if 0 ≤ x8 then (if (((rd_T101 a6 x8).f0).size : Int) > 40 then (some false) else (q4_Few.l3 k (wrap64 (x8 + 1)) a2 a6)) else (none)) else (some true)
end
def q4_Few.f (k : Nat) (a0 : List (S96)) (a5 : List (S101)) : Option (Bool) := if (a0.length : Int) > 20 then (q4_Few.j0 k true a0 a5) else (q4_Few.j0 k (decide ((a5.length : Int) > 30)) a0 a5)
theorem q4_Few.calls (k : Nat) (h4 : Option Addr) (b9 : Nat) (a0 : List (S96)) (c0 : Option Addr) (b8 : Nat) (a5 : List (S101)) (r : Bool) (w : World) (p2 : Kd.C k96 w h4 a0.length a0) (p4 : a0.length ≤ b9) (p1 : Kd.C k101 w c0 a5.length a5) (p3 : a5.length ≤ b8) (h : q4_Few.f k a0 a5 = some r) :
  Calls Tryz.prog 20 #[.agg #[.slice h4 a0.length b9, .slice c0 a5.length b8]] w fun e w' => e = .returned (.bool r) ∧ Below w.heap.size w w' := by
 have hu31 := Tryz.underlying31
 have hu99 := Tryz.underlying99
 have e9 := am p2
 have J9 := am p4
 clear p2 p4
 have p9 := am p1
 have J8 := am p3
 clear p1 p3
 have HB := am (Below.refl w.heap.size w)
 have H : (if (a0.length : Int) > 20 then (q4_Few.j0 k true a0 a5) else (q4_Few.j0 k (decide ((a5.length : Int) > 30)) a0 a5)) = some r := h
 clear h
 have s6 := am H
 clear H
 go_enter Tryz.func20, Tryz.ntmps20
 go_upto_region 1 with ((with_reducible refine gate_dst (N := 1) rfl ?_); (try (refine gate_guard (by rfl) ?_; dsimp only)); refine be 1 #[.slice h4 a0.length b9, .slice c0 a5.length b8] 31 ?_; intro d6 hg w3 hbox hb; have a4 := am (hbox); have L1 := bsz HB hg; replace HB := bstep HB hb; clear hb hbox hg)
 (try simp only [Act.put, List.setIfInBounds_toArray, List.set_cons_zero, List.set_cons_succ])
 go_cut [18] (fun G8 wc => ∃ (kq : Nat) (h8 : Bool), G8 = .bool h8 ∧ Aside0 (q4_Few.j0 kq h8 a0 a5 = some r) ∧ Aside0 (kq ≤ k) ∧ Aside0 (wc.heap[d6]? = some (.cells #[(.slice h4 a0.length b9), (.slice c0 a5.length b8)] 31 (0, 0))) ∧ Aside0 (Below w.heap.size w wc))
 case first =>
  have H := s6.out
  clear s6
  by_cases c4 : (a0.length : Int) > 20
  rotate_left
  ·rw [if_neg c4] at H
   have h9 : decide (20 < (a0.length : Int)) = false := decide_eq_false c4
   have x1 : decide (20 < a0.length) = false := decide_eq_false (by omega)
   clear c4
   (first | rw [h9] | (simp only [i64_w, i32_w]; rw [h9]) | skip)
   have H' := am H
   clear H
   obtain ⟨H4, H3, H0, G9⟩ := cz2 a4
   go_wp2
   go_meet
   case rel => exact ⟨_, (decide ((a5.length : Int) > 30)), eqs, H', ⟨by first | omega | exact Nat.le_refl _⟩, ⟨bk a4⟩, ⟨bb HB⟩⟩
  rw [if_pos c4] at H
  have h9 : decide (20 < (a0.length : Int)) = true := decide_eq_true c4
  have x1 : decide (20 < a0.length) = true := decide_eq_true (by omega)
  clear c4
  (first | rw [h9] | (simp only [i64_w, i32_w]; rw [h9]) | skip)
  have H' := am H
  clear H
  obtain ⟨H6, H5, H2, H1⟩ := cz2 a4
  go_wp2
  go_meet
  case rel => exact ⟨_, (true), eqs, H', ⟨by first | omega | exact Nat.le_refl _⟩, ⟨bk a4⟩, ⟨bb HB⟩⟩
 case rest =>
  clear s6
  obtain ⟨kq, h8, rfl, HA, d8, a4, HB⟩ := hcut
  cases kq with
  | zero => exact absurd HA.out (by simp [q4_Few.j0])
  | succ v6 =>
   have H := HA.out
   clear HA
   simp only [q4_Few.j0] at H
   by_cases c7 : h8 = true
   ·subst c7
    replace H := ift H
    obtain rfl := Option.some.inj H
    go_wp2
    go_ret
    exact ⟨erf, bb HB⟩
   replace c7 := Bool.eq_false_iff.mpr c7
   subst c7
   replace H := iff_ H
   have H' := am H
   clear H
   go_wp2
   go_loopg [3, 4] v6 (fun kq v3 v4 w' => ∃ (b6 : Int) (a1 : Int), v3 = .int .i64 b6 ∧ v4 = .int .i64 a1 ∧ Aside0 (q4_Few.l0 kq b6 a1 a0 a5 = some r) ∧ Aside0 (kq ≤ v6) ∧ Aside0 (w'.heap[d6]? = some (.cells #[(.slice h4 a0.length b9), (.slice c0 a5.length b8)] 31 (0, 0))) ∧ Aside0 (Below w.heap.size w w'))
   case atStart => exact ⟨(0), (0), eqs, eqs, H', ⟨Nat.le_refl _⟩, ⟨bk a4⟩, ⟨bb HB⟩⟩
   case round =>
    clear H'
    obtain ⟨b6, a1, rfl, rfl, HA, d7, a4, HB⟩ := hrel
    cases gk with
    | zero => exact absurd HA.out (by simp [q4_Few.l0])
    | succ k2 =>
     have H := HA.out
     clear HA
     simp only [q4_Few.l0] at H
     by_cases c8 : a1 < (a0.length : Int)
     rotate_left
     ·rw [if_neg c8] at H
      have o8 := decide_eq_false c8
      clear c8
      have H' := am H
      clear H
      obtain ⟨r2, r1, q2, q1⟩ := cz2 a4
      go_wp2
      go_loopg [8] k2 (fun kq v8 w' => ∃ (a7 : Int), v8 = .int .i64 a7 ∧ Aside0 (q4_Few.l3 kq a7 a0 a5 = some r) ∧ Aside0 (kq ≤ k2) ∧ Aside0 (w'.heap[d6]? = some (.cells #[(.slice h4 a0.length b9), (.slice c0 a5.length b8)] 31 (0, 0))) ∧ Aside0 (Below w.heap.size w w'))
      case atStart => exact ⟨(0), eqs, H', ⟨Nat.le_refl _⟩, ⟨bk a4⟩, ⟨bb HB⟩⟩
      case round =>
       clear H'
       clear o8
       clear r2
       clear r1
       clear q2
       clear q1
       obtain ⟨a7, rfl, HA, w5, a4, HB⟩ := hrel
       cases gk with
       | zero => exact absurd HA.out (by simp [q4_Few.l3])
       | succ k3 =>
        have H := HA.out
        clear HA
        simp only [q4_Few.l3] at H
        by_cases m6 : a7 < (a5.length : Int)
        rotate_left
        ·rw [if_neg m6] at H
         have t0 := decide_eq_false m6
         clear m6
         obtain rfl := Option.some.inj H
         obtain ⟨C8, C7, x6, x2⟩ := cz2 a4
         go_wp2
         go_ret
         exact ⟨erf, bb HB⟩
        rw [if_pos m6] at H
        have t0 := decide_eq_true m6
        clear m6
        obtain ⟨v9, H⟩ := itn H
        have J5 := decide_eq_true v9
        clear v9
        by_cases m5 : (((rd_T101 a5 a7).f0).size : Int) > 40
        ·rw [if_pos m5] at H
         have s9 : decide (40 < (((rd_T101 a5 a7).f0).size : Int)) = true := decide_eq_true m5
         have s8 : decide (40 < ((rd_T101 a5 a7).f0).size) = true := decide_eq_true (by omega)
         clear m5
         obtain rfl := Option.some.inj H
         obtain ⟨D2, D1, y2, y1⟩ := cz2 a4
         have e4 : 0 ≤ a7 := odt
         have e2 : a7 < (a5.length : Int) := odt
         obtain ⟨t8, o5, d2, d1, d0, c6, c5, c3, c2⟩ := at_T101 p9.out a7 e4 e2
         cases o5
         replace d2 := hxc HB d2
         replace d1 := hxc HB d1
         replace d0 := hxc HB d0
         replace c6 := hxc HB c6
         replace c5 := hxc HB c5
         replace c3 := hxc HB c3
         replace c2 := hxc HB c2
         replace e4 := eq_true e4
         replace e2 := eq_true e2
         go_wp2
         go_ret
         exact ⟨erf, bb HB⟩
        rw [if_neg m5] at H
        have s9 : decide (40 < (((rd_T101 a5 a7).f0).size : Int)) = false := decide_eq_false m5
        have s8 : decide (40 < ((rd_T101 a5 a7).f0).size) = false := decide_eq_false (by omega)
        clear m5
        have H' := am H
        clear H
        obtain ⟨D0, C9, y0, x9⟩ := cz2 a4
        have e4 : 0 ≤ a7 := odt
        have e2 : a7 < (a5.length : Int) := odt
        obtain ⟨t8, o5, d2, d1, d0, c6, c5, c3, c2⟩ := at_T101 p9.out a7 e4 e2
        cases o5
        replace d2 := hxc HB d2
        replace d1 := hxc HB d1
        replace d0 := hxc HB d0
        replace c6 := hxc HB c6
        replace c5 := hxc HB c5
        replace c3 := hxc HB c3
        replace c2 := hxc HB c2
        replace e4 := eq_true e4
        replace e2 := eq_true e2
        go_wp2
        go_roundg k3
        case measure => have := d8.out; have := d7.out; have := w5.out; omega
        case rel => exact ⟨(wrap64 (a7 + 1)), eqs, H', ⟨by have := d8.out; have := d7.out; have := w5.out; omega⟩, ⟨bk a4⟩, ⟨bb HB⟩⟩
     rw [if_pos c8] at H
     have o8 := decide_eq_true c8
     clear c8
     obtain ⟨c9, H⟩ := itn H
     have x0 := decide_eq_true c9
     clear c9
     have p0 := am H
     clear H
     obtain ⟨s0, r9, r0, q9⟩ := cz2 a4
     have n8 : 0 ≤ a1 := odt
     have n5 : a1 < (a0.length : Int) := odt
     obtain ⟨b7, I2, H9, w9, h3, h2, h1, h0, m0, m4⟩ := at_T96 e9.out a1 n8 n5
     cases w9
     replace h3 := hxc HB h3
     replace h2 := hxc HB h2
     replace h1 := hxc HB h1
     replace h0 := hxc HB h0
     have F8 := am m4
     have G2 := am m0
     clear m4 m0
     replace n8 := eq_true n8
     replace n5 := eq_true n5
     go_upto_region 8 with (fail)
     go_cut [46] (fun G7 wc => ∃ (kq : Nat) (h7 : Bool), G7 = .bool h7 ∧ Aside0 (q4_Few.j2 kq (wrap64 (b6 + (((rd_T96 a0 a1).f3).length : Int))) a1 h7 a0 a5 = some r) ∧ Aside0 (kq ≤ k2) ∧ Aside0 (wc.heap[d6]? = some (.cells #[(.slice (some b7) a0.length b9), (.slice c0 a5.length b8)] 31 (0, 0))) ∧ Aside0 (Below w.heap.size w wc))
     case first =>
      have H := p0.out
      clear p0
      by_cases n1 : (wrap64 (b6 + (((rd_T96 a0 a1).f3).length : Int))) > 30
      ·rw [if_pos n1] at H
       have e8 : decide (30 < (wrap64 (b6 + (((rd_T96 a0 a1).f3).length : Int)))) = true := decide_eq_true n1
       clear n1
       (first | rw [e8] | (simp only [i64_w, i32_w]; rw [e8]) | skip)
       have H' := am H
       clear H
       go_wp2
       go_meet
       case rel => exact ⟨_, (true), eqs, H', ⟨by have := d8.out; have := d7.out; first | omega | exact Nat.le_refl _⟩, ⟨bk a4⟩, ⟨bb HB⟩⟩
      rw [if_neg n1] at H
      have e8 : decide (30 < (wrap64 (b6 + (((rd_T96 a0 a1).f3).length : Int)))) = false := decide_eq_false n1
      clear n1
      (first | rw [e8] | (simp only [i64_w, i32_w]; rw [e8]) | skip)
      have H' := am H
      clear H
      obtain ⟨F6, F5, C6, C5⟩ := cz2 a4
      have o4 : 0 ≤ a1 := odt
      have o3 : a1 < (a0.length : Int) := odt
      obtain ⟨v1, I1, H8, w8, j6, j5, j3, j1, j9, m3⟩ := at_T96 e9.out a1 o4 o3
      obtain rfl : b7 = v1 := (by injection w8)
      replace j6 := hxc HB j6
      replace j5 := hxc HB j5
      replace j3 := hxc HB j3
      replace j1 := hxc HB j1
      have F7 := am m3
      have G1 := am j9
      clear m3 j9
      replace o4 := eq_true o4
      replace o3 := eq_true o3
      go_wp2
      go_meet
      case rel => exact ⟨_, (decide ((((rd_T96 a0 a1).f0).size : Int) > 40)), eqs, H', ⟨by have := d8.out; have := d7.out; first | omega | exact Nat.le_refl _⟩, ⟨bk a4⟩, ⟨bb HB⟩⟩
     case rest =>
      clear p0
      clear o8
      clear x0
      clear s0
      clear r9
      clear r0
      clear q9
      clear h3
      clear h2
      clear h1
      clear h0
      clear n8
      clear n5
      obtain ⟨kq, h7, rfl, HA, h6, a4, HB⟩ := hcut
      cases kq with
      | zero => exact absurd HA.out (by simp [q4_Few.j2])
      | succ v2 =>
       have H := HA.out
       clear HA
       simp only [q4_Few.j2] at H
       by_cases p8 : h7 = true
       ·subst p8
        replace H := ift H
        obtain rfl := Option.some.inj H
        go_wp2
        go_ret
        exact ⟨erf, bb HB⟩
       replace p8 := Bool.eq_false_iff.mpr p8
       subst p8
       replace H := iff_ H
       have H' := am H
       clear H
       go_wp2
       go_loopg [5] v2 (fun kq v5 w' => ∃ (a3 : Int), v5 = .int .i64 a3 ∧ Aside0 (q4_Few.l1 kq (wrap64 (b6 + (((rd_T96 a0 a1).f3).length : Int))) a1 a3 a0 a5 = some r) ∧ Aside0 (kq ≤ v2) ∧ Aside0 (w'.heap[d6]? = some (.cells #[(.slice (some b7) a0.length b9), (.slice c0 a5.length b8)] 31 (0, 0))) ∧ Aside0 (Below w.heap.size w w'))
       case atStart => exact ⟨(0), eqs, H', ⟨Nat.le_refl _⟩, ⟨bk a4⟩, ⟨bb HB⟩⟩
       case round =>
        clear H'
        obtain ⟨a3, rfl, HA, h5, a4, HB⟩ := hrel
        cases gk with
        | zero => exact absurd HA.out (by simp [q4_Few.l1])
        | succ k4 =>
         have H := HA.out
         clear HA
         simp only [q4_Few.l1] at H
         obtain ⟨w4, H⟩ := itn H
         have t7 := decide_eq_true w4
         clear w4
         obtain ⟨w2, H⟩ := itn H
         have t6 := decide_eq_true w2
         clear w2
         by_cases n0 : a3 < (((rd_T96 a0 a1).f3).length : Int)
         rotate_left
         ·rw [if_neg n0] at H
          have p7 := decide_eq_false n0
          clear n0
          have H' := am H
          clear H
          obtain ⟨D4, D3, y4, y3⟩ := cz2 a4
          have e0 : 0 ≤ a1 := odt
          have d9 : a1 < (a0.length : Int) := odt
          obtain ⟨n9, s7, s5, o7, b5, b4, b3, b2, d4, d5⟩ := at_T96 e9.out a1 e0 d9
          obtain rfl : b7 = n9 := (by injection o7)
          replace b5 := hxc HB b5
          replace b4 := hxc HB b4
          replace b3 := hxc HB b3
          replace b2 := hxc HB b2
          have s2 := am d5
          have s3 := am d4
          clear d5 d4
          replace e0 := eq_true e0
          replace d9 := eq_true d9
          go_wp2
          go_roundg k4
          case measure => have := d8.out; have := d7.out; have := h6.out; have := h5.out; omega
          case rel => exact ⟨((wrap64 (b6 + (((rd_T96 a0 a1).f3).length : Int)))), (wrap64 (a1 + 1)), eqs, eqs, H', ⟨by have := d8.out; have := d7.out; have := h6.out; have := h5.out; omega⟩, ⟨bk a4⟩, ⟨bb HB⟩⟩
         rw [if_pos n0] at H
         have p7 := decide_eq_true n0
         clear n0
         obtain ⟨w1, H⟩ := itn H
         have t5 := decide_eq_true w1
         clear w1
         have o9 := am H
         clear H
         obtain ⟨r8, r7, q8, q7⟩ := cz2 a4
         have e0 : 0 ≤ a1 := odt
         have d9 : a1 < (a0.length : Int) := odt
         obtain ⟨n9, s7, s5, o7, b5, b4, b3, b2, d4, d5⟩ := at_T96 e9.out a1 e0 d9
         obtain rfl : b7 = n9 := (by injection o7)
         replace b5 := hxc HB b5
         replace b4 := hxc HB b4
         replace b3 := hxc HB b3
         replace b2 := hxc HB b2
         have s2 := am d5
         have s3 := am d4
         clear d5 d4
         replace e0 := eq_true e0
         replace d9 := eq_true d9
         have n7 : 0 ≤ a1 := odt
         have n4 : a1 < (a0.length : Int) := odt
         obtain ⟨v0, I0, H7, w7, g9, g8, g7, e1, j8, m2⟩ := at_T96 e9.out a1 n7 n4
         obtain rfl : b7 = v0 := (by injection w7)
         replace g9 := hxc HB g9
         replace g8 := hxc HB g8
         replace g7 := hxc HB g7
         replace e1 := hxc HB e1
         have s1 := am m2
         have G0 := am j8
         clear m2 j8
         replace n7 := eq_true n7
         replace n4 := eq_true n4
         have ea_ := Option.some.inj (b2.symm.trans e1)
         injection ea_ with ea_ en_ ec_
         subst ea_
         subst ec_
         clear en_
         have n6 : 0 ≤ a3 := odt
         have n3 : a3 < (((rd_T96 a0 a1).f3).length : Int) := odt
         obtain ⟨J7, o2, o1, w6, g6, g5, g4, g3, j7, m1⟩ := at_T99 s1.out a3 n6 n3
         cases w6
         replace g6 := hxc HB g6
         replace g5 := hxc HB g5
         replace g4 := hxc HB g4
         replace g3 := hxc HB g3
         have n2 := am m1
         have F9 := am j7
         clear m1 j7
         replace n6 := eq_true n6
         replace n3 := eq_true n3
         go_upto_region 14 with ((with_reducible refine gate_dst (N := 6) rfl ?_); (try (refine gate_guard (by rfl) ?_; dsimp only)); refine be 6 #[.string (⟨#[]⟩ : ByteArray), .int .i64 0, .int .i64 0, .slice none 0 0] 99 ?_; intro p5 hg L2 hbox hb; have a9 := am (hbox); have L0 := bsz HB hg; replace HB := bstep HB hb; have b1 := blt a4 hg; have b0 := bgt a4 hg; replace a4 := bkb a4 hb; clear hb hbox hg; have J4 := b0.out; have I8 := b1.out; obtain ⟨r6, r5, r4, r3, q6, q5, q4, q3⟩ := cz4 a9)
         (try simp only [Act.put, List.setIfInBounds_toArray, List.set_cons_zero, List.set_cons_succ])
         go_cut [76] (fun G6 wc => ∃ (kq : Nat) (e6 : Bool), G6 = .bool e6 ∧ Aside0 (q4_Few.j4 kq (wrap64 (b6 + (((rd_T96 a0 a1).f3).length : Int))) a1 a3 e6 a0 a5 ((rd_T99 ((rd_T96 a0 a1).f3) a3).f0) ((rd_T99 ((rd_T96 a0 a1).f3) a3).f1) ((rd_T99 ((rd_T96 a0 a1).f3) a3).f2) ((rd_T99 ((rd_T96 a0 a1).f3) a3).f3) = some r) ∧ Aside0 (kq ≤ k4) ∧ Aside0 (wc.heap[d6]? = some (.cells #[(.slice (some b7) a0.length b9), (.slice c0 a5.length b8)] 31 (0, 0))) ∧ Aside0 (wc.heap[p5]? = some (.cells #[.string ((rd_T99 ((rd_T96 a0 a1).f3) a3).f0), .int .i64 ((rd_T99 ((rd_T96 a0 a1).f3) a3).f1), .int .i64 ((rd_T99 ((rd_T96 a0 a1).f3) a3).f2), (.slice o2 ((rd_T99 ((rd_T96 a0 a1).f3) a3).f3).length o1)] 99 (0, 0))) ∧ Aside0 (Below w.heap.size w wc))
         case first =>
          have H := o9.out
          clear o9
          by_cases m9 : (((rd_T99 ((rd_T96 a0 a1).f3) a3).f0).size : Int) > 40
          rotate_left
          ·rw [if_neg m9] at H
           have e7 : decide (40 < (((rd_T99 ((rd_T96 a0 a1).f3) a3).f0).size : Int)) = false := decide_eq_false m9
           have t4 : decide (40 < ((rd_T99 ((rd_T96 a0 a1).f3) a3).f0).size) = false := decide_eq_false (by omega)
           clear m9
           (first | rw [e7] | (simp only [i64_w, i32_w]; rw [e7]) | skip)
           have H' := am H
           clear H
           have J2 := b0.out
           have I6 := b1.out
           obtain ⟨F0, E9, E8, E7, C0, A9, A8, A7⟩ := cz4 a9
           go_wp2
           go_meet
           case rel => exact ⟨_, (decide ((((rd_T99 ((rd_T96 a0 a1).f3) a3).f3).length : Int) > 25)), eqs, H', ⟨by have := d8.out; have := d7.out; have := h6.out; have := h5.out; first | omega | exact Nat.le_refl _⟩, ⟨bkF a4⟩, ⟨by (with_reducible repeat (first | refine dN ?_ _ | refine dR ?_ | refine dA ?_ _)); refine blk_put (cs := #[.string ((rd_T99 ((rd_T96 a0 a1).f3) a3).f0), .int .i64 ((rd_T99 ((rd_T96 a0 a1).f3) a3).f1), .int .i64 ((rd_T99 ((rd_T96 a0 a1).f3) a3).f2), .slice none 0 0]) ?_ 3 _ rfl; refine blk_put (cs := #[.string ((rd_T99 ((rd_T96 a0 a1).f3) a3).f0), .int .i64 ((rd_T99 ((rd_T96 a0 a1).f3) a3).f1), .int .i64 0, .slice none 0 0]) ?_ 2 _ rfl; refine blk_put (cs := #[.string ((rd_T99 ((rd_T96 a0 a1).f3) a3).f0), .int .i64 0, .int .i64 0, .slice none 0 0]) ?_ 1 _ rfl; refine blk_put (cs := #[.string (⟨#[]⟩ : ByteArray), .int .i64 0, .int .i64 0, .slice none 0 0]) ?_ 0 _ rfl; (with_reducible repeat (first | refine dN ?_ _ | refine dR ?_ | refine dA ?_ _)); exact a9.out⟩, ⟨bb HB⟩⟩
          rw [if_pos m9] at H
          have e7 : decide (40 < (((rd_T99 ((rd_T96 a0 a1).f3) a3).f0).size : Int)) = true := decide_eq_true m9
          have t4 : decide (40 < ((rd_T99 ((rd_T96 a0 a1).f3) a3).f0).size) = true := decide_eq_true (by omega)
          clear m9
          (first | rw [e7] | (simp only [i64_w, i32_w]; rw [e7]) | skip)
          have H' := am H
          clear H
          have J3 := b0.out
          have I7 := b1.out
          obtain ⟨F4, F3, F2, F1, C4, C3, C2, C1⟩ := cz4 a9
          go_wp2
          go_meet
          case rel => exact ⟨_, (true), eqs, H', ⟨by have := d8.out; have := d7.out; have := h6.out; have := h5.out; first | omega | exact Nat.le_refl _⟩, ⟨bkF a4⟩, ⟨by (with_reducible repeat (first | refine dN ?_ _ | refine dR ?_ | refine dA ?_ _)); refine blk_put (cs := #[.string ((rd_T99 ((rd_T96 a0 a1).f3) a3).f0), .int .i64 ((rd_T99 ((rd_T96 a0 a1).f3) a3).f1), .int .i64 ((rd_T99 ((rd_T96 a0 a1).f3) a3).f2), .slice none 0 0]) ?_ 3 _ rfl; refine blk_put (cs := #[.string ((rd_T99 ((rd_T96 a0 a1).f3) a3).f0), .int .i64 ((rd_T99 ((rd_T96 a0 a1).f3) a3).f1), .int .i64 0, .slice none 0 0]) ?_ 2 _ rfl; refine blk_put (cs := #[.string ((rd_T99 ((rd_T96 a0 a1).f3) a3).f0), .int .i64 0, .int .i64 0, .slice none 0 0]) ?_ 1 _ rfl; refine blk_put (cs := #[.string (⟨#[]⟩ : ByteArray), .int .i64 0, .int .i64 0, .slice none 0 0]) ?_ 0 _ rfl; (with_reducible repeat (first | refine dN ?_ _ | refine dR ?_ | refine dA ?_ _)); exact a9.out⟩, ⟨bb HB⟩⟩
         case rest =>
          clear o9
          clear t7
          clear t6
          clear p7
          clear t5
          clear r8
          clear r7
          clear r6
          clear r5
          clear r4
          clear r3
          clear q8
          clear q7
          clear q6
          clear q5
          clear q4
          clear q3
          clear b5
          clear b4
          clear b3
          clear b2
          clear g9
          clear g8
          clear g7
          clear e1
          clear g6
          clear g5
          clear g4
          clear g3
          clear e0
          clear n7
          clear n6
          clear d9
          clear n4
          clear n3
          obtain ⟨kq, e6, rfl, HA, o0, a4, a9, HB⟩ := hcut
          cases kq with
          | zero => exact absurd HA.out (by simp [q4_Few.j4])
          | succ s4 =>
           have H := HA.out
           clear HA
           simp only [q4_Few.j4] at H
           by_cases p6 : e6 = true
           ·subst p6
            replace H := ift H
            obtain rfl := Option.some.inj H
            go_wp2
            go_ret
            exact ⟨erf, bb HB⟩
           replace p6 := Bool.eq_false_iff.mpr p6
           subst p6
           replace H := iff_ H
           have H' := am H
           clear H
           go_wp2
           go_loopg [7] s4 (fun kq v7 w' => ∃ (a8 : Int), v7 = .int .i64 a8 ∧ Aside0 (q4_Few.l2 kq (wrap64 (b6 + (((rd_T96 a0 a1).f3).length : Int))) a1 a3 a8 a0 a5 ((rd_T99 ((rd_T96 a0 a1).f3) a3).f0) ((rd_T99 ((rd_T96 a0 a1).f3) a3).f1) ((rd_T99 ((rd_T96 a0 a1).f3) a3).f2) ((rd_T99 ((rd_T96 a0 a1).f3) a3).f3) = some r) ∧ Aside0 (kq ≤ s4) ∧ Aside0 (w'.heap[d6]? = some (.cells #[(.slice (some b7) a0.length b9), (.slice c0 a5.length b8)] 31 (0, 0))) ∧ Aside0 (w'.heap[p5]? = some (.cells #[.string ((rd_T99 ((rd_T96 a0 a1).f3) a3).f0), .int .i64 ((rd_T99 ((rd_T96 a0 a1).f3) a3).f1), .int .i64 ((rd_T99 ((rd_T96 a0 a1).f3) a3).f2), (.slice o2 ((rd_T99 ((rd_T96 a0 a1).f3) a3).f3).length o1)] 99 (0, 0))) ∧ Aside0 (Below w.heap.size w w'))
           case atStart => exact ⟨(0), eqs, H', ⟨Nat.le_refl _⟩, ⟨bk a4⟩, ⟨bk a9⟩, ⟨bb HB⟩⟩
           case round =>
            clear H'
            obtain ⟨a8, rfl, HA, q0, a4, a9, HB⟩ := hrel
            cases gk with
            | zero => exact absurd HA.out (by simp [q4_Few.l2])
            | succ k6 =>
             have H := HA.out
             clear HA
             simp only [q4_Few.l2] at H
             by_cases m8 : a8 < (((rd_T99 ((rd_T96 a0 a1).f3) a3).f3).length : Int)
             rotate_left
             ·rw [if_neg m8] at H
              have t3 := decide_eq_false m8
              clear m8
              have H' := am H
              clear H
              have I9 := b0.out
              have I3 := b1.out
              obtain ⟨D8, D7, D6, D5, y8, y7, y6, y5⟩ := cz4 a9
              go_wp2
              go_roundg k6
              case measure => have := d8.out; have := d7.out; have := h6.out; have := h5.out; have := o0.out; have := q0.out; omega
              case rel => exact ⟨(wrap64 (a3 + 1)), eqs, H', ⟨by have := d8.out; have := d7.out; have := h6.out; have := h5.out; have := o0.out; have := q0.out; omega⟩, ⟨bk a4⟩, ⟨bb HB⟩⟩
             rw [if_pos m8] at H
             have t3 := decide_eq_true m8
             clear m8
             obtain ⟨w0, H⟩ := itn H
             have J6 := decide_eq_true w0
             clear w0
             by_cases m7 : ((rdOf ByteArray.empty ((rd_T99 ((rd_T96 a0 a1).f3) a3).f3) a8).size : Int) > 40
             ·rw [if_pos m7] at H
              have t2 : decide (40 < ((rdOf ByteArray.empty ((rd_T99 ((rd_T96 a0 a1).f3) a3).f3) a8).size : Int)) = true := decide_eq_true m7
              have t1 : decide (40 < (rdOf ByteArray.empty ((rd_T99 ((rd_T96 a0 a1).f3) a3).f3) a8).size) = true := decide_eq_true (by omega)
              clear m7
              obtain rfl := Option.some.inj H
              have J1 := b0.out
              have I5 := b1.out
              obtain ⟨E6, E5, E4, E3, A6, A5, A4, A3⟩ := cz4 a9
              have e5 : 0 ≤ a8 := odt
              have e3 : a8 < (((rd_T99 ((rd_T96 a0 a1).f3) a3).f3).length : Int) := odt
              obtain ⟨t9, o6, d3⟩ := Kd.at_string n2.out a8 e5 e3
              cases o6
              replace d3 := hxc HB d3
              replace e5 := eq_true e5
              replace e3 := eq_true e3
              go_wp2
              go_ret
              exact ⟨erf, bb HB⟩
             rw [if_neg m7] at H
             have t2 : decide (40 < ((rdOf ByteArray.empty ((rd_T99 ((rd_T96 a0 a1).f3) a3).f3) a8).size : Int)) = false := decide_eq_false m7
             have t1 : decide (40 < (rdOf ByteArray.empty ((rd_T99 ((rd_T96 a0 a1).f3) a3).f3) a8).size) = false := decide_eq_false (by omega)
             clear m7
             have H' := am H
             clear H
             have J0 := b0.out
             have I4 := b1.out
             obtain ⟨E2, E1, E0, D9, A2, A1, A0, y9⟩ := cz4 a9
             have e5 : 0 ≤ a8 := odt
             have e3 : a8 < (((rd_T99 ((rd_T96 a0 a1).f3) a3).f3).length : Int) := odt
             obtain ⟨t9, o6, d3⟩ := Kd.at_string n2.out a8 e5 e3
             cases o6
             replace d3 := hxc HB d3
             replace e5 := eq_true e5
             replace e3 := eq_true e3
             go_wp2
             go_roundg k6
             case measure => have := d8.out; have := d7.out; have := h6.out; have := h5.out; have := o0.out; have := q0.out; omega
             case rel => exact ⟨(wrap64 (a8 + 1)), eqs, H', ⟨by have := d8.out; have := d7.out; have := h6.out; have := h5.out; have := o0.out; have := q0.out; omega⟩, ⟨bk a4⟩, ⟨bk a9⟩, ⟨bb HB⟩⟩
end Go.Proofs.YtfpianecohobjaaGreat.P
