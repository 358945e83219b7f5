/- StatisticOf: a part of its proof. No condition. -/
import Derived.Test.YtfpianecohobjaaVPx0
import Derived.Test.YtfpianecohobjaaVPx17
import Derived.Test.YtfpianecohobjaaVPx18
namespace Go.Proofs.Ytfpianecohobjaa.P
open Go.RowKit Go.Proofs.YtfpianecohobjaaW.PrintWords Go.Proofs.YtfpianecohobjaaW.PrintLast Go.Proofs.YtfpianecohobjaaW.PrintMore
set_option maxHeartbeats 8000000
set_option maxRecDepth 100000
set_option linter.unusedVariables false
set_option linter.unusedSimpArgs false
mutual
def q4_Valid.j0 : Nat → Bool → List (S68) → List (S71) → Option (ByteArray × Int)
 | 0, _, _, _ => none
 | k + 1, o3, a4, a3 => if o3 = true then (some ((⟨#[]⟩ : ByteArray), 3)) else (q4_Valid.l0 k 0 a4 a3)
def q4_Valid.l0 : Nat → Int → List (S68) → List (S71) → Option (ByteArray × Int)
 | 0, _, _, _ => none
 | k + 1, x4, a4, a3 => if x4 < (a4.length : Int) then ((q4_node.f k a4 a3 x4).bind fun d4 => (if d4 = 0 then (q4_Valid.l0 k (wrap64 (x4 + 1)) a4 a3) else (if 0 ≤ x4 then (some ((rd_T68 a4 x4).f0, d4)) else (none)))) else (q4_Valid.l1 k 0 a4 a3)
def q4_Valid.l1 : Nat → Int → List (S68) → List (S71) → Option (ByteArray × Int)
 | 0, _, _, _ => none
 | k + 1, x6, a4, a3 => if x6 < (a3.length : Int) then ((q4_edge.f k a4 a3 x6).bind fun d3 => (if d3 = 0 then (q4_Valid.l1 k (wrap64 (x6 + 1)) a4 a3) else (if 0 ≤ x6 then (some ((rd_T71 a3 x6).f0, d3)) else (none)))) else (some ((⟨#[]⟩ : ByteArray), 0))
end
def q4_Valid.f (k : Nat) (a0 : List (S68)) (a2 : List (S71)) : Option (ByteArray × Int) := if (a0.length : Int) = 0 then (some ((⟨#[]⟩ : ByteArray), 7)) else (if (a0.length : Int) > 12 then (q4_Valid.j0 k true a0 a2) else (q4_Valid.j0 k (decide ((a2.length : Int) > 20)) a0 a2))
theorem q4_Valid.calls (k : Nat) (b0 : Option Addr) (a8 : Nat) (a0 : List (S68)) (a9 : Option Addr) (a7 : Nat) (a2 : List (S71)) (r1 : ByteArray) (r2 : Int) (w : World) (e3 : Kd.C k68 w b0 a0.length a0) (e5 : a0.length ≤ a8) (e2 : Kd.C k71 w a9 a2.length a2) (e4 : a2.length ≤ a7) (h : q4_Valid.f k a0 a2 = some (r1, r2)) :
  Calls Try.prog 15 #[.agg #[.slice b0 a0.length a8, .slice a9 a2.length a7]] w fun e w' => e = .returned (.tuple #[.string r1, .int .i64 r2]) ∧ Below w.heap.size w w' := by
 have hu25 := Try.underlying25
 have d6 := Aside0.mk e3
 have g0 := Aside0.mk e5
 clear e3 e5
 have d5 := Aside0.mk e2
 have e9 := Aside0.mk e4
 clear e2 e4
 have HB := Aside0.mk (Below.refl w.heap.size w)
 have H : (if (a0.length : Int) = 0 then (some ((⟨#[]⟩ : ByteArray), 7)) else (if (a0.length : Int) > 12 then (q4_Valid.j0 k true a0 a2) else (q4_Valid.j0 k (decide ((a2.length : Int) > 20)) a0 a2))) = some (r1, r2) := h
 clear h
 by_cases c2 : (a0.length : Int) = 0
 ·rw [if_pos c2] at H
  have h0 := beq_iff_eq.mpr c2
  have g9 := bne_eq_false_iff_eq.mpr c2
  clear c2
  simp only [Option.some.injEq, Prod.mk.injEq] at H
  obtain ⟨rfl, rfl⟩ := H
  go_enter Try.func15, Try.ntmps15
  go_wp2_with (first | ((with_reducible refine gate_dst (N := 1) rfl ?_); (try (refine gate_guard (by rfl) ?_; dsimp only)); refine be 1 #[.slice b0 a0.length a8, .slice a9 a2.length a7] 25 ?_; intro b2 hg w3 hbox hb; have a1 := Aside0.mk (hbox); have h7 := bsz HB hg; replace HB := bstep HB hb; clear hb hbox hg; obtain ⟨o8, o7, o6, o5⟩ := cz2 a1))
  go_ret2
  exact ⟨by first | rfl | (simp <;> rfl) | (simp [*] <;> rfl), bb HB⟩
 rw [if_neg c2] at H
 have h0 := beq_eq_false_iff_ne.mpr c2
 have g9 := bne_iff_ne.mpr c2
 have j6 : ¬ (a0 = []) := fun h_ => c2 (by rw [h_]; rfl)
 have h1 := Aside0.mk H
 clear H
 go_enter Try.func15, Try.ntmps15
 go_upto_region 3 with (first | ((with_reducible refine gate_dst (N := 1) rfl ?_); (try (refine gate_guard (by rfl) ?_; dsimp only)); refine be 1 #[.slice b0 a0.length a8, .slice a9 a2.length a7] 25 ?_; intro b2 hg w6 hbox hb; have a1 := Aside0.mk (hbox); have h7 := bsz HB hg; replace HB := bstep HB hb; clear hb hbox hg; obtain ⟨g8, g7, g6, g5⟩ := cz2 a1))
 (try simp only [Act.put, List.setIfInBounds_toArray, List.set_cons_zero, List.set_cons_succ])
 go_cut [21] (fun o4 wc => ∃ (kq : Nat) (b1 : Bool), o4 = .bool b1 ∧ Aside0 (q4_Valid.j0 kq b1 a0 a2 = some (r1, r2)) ∧ Aside0 (kq ≤ k) ∧ Aside0 (wc.heap[b2]? = some (.cells #[(.slice b0 a0.length a8), (.slice a9 a2.length a7)] 25 (0, 0))) ∧ Aside0 (Below w.heap.size w wc))
 case first =>
  have H := h1.out
  clear h1
  by_cases c8 : (a0.length : Int) > 12
  rw [if_pos c8] at H
  have b3 : decide (12 < (a0.length : Int)) = true := decide_eq_true c8
  have j5 : decide (12 < a0.length) = true := decide_eq_true (by omega)
  clear c8
  (first | rw [b3] | (simp only [i64_w, i32_w]; rw [b3]) | skip)
  have H' := Aside0.mk H
  clear H
  rotate_left
  rw [if_neg c8] at H
  have b3 : decide (12 < (a0.length : Int)) = false := decide_eq_false c8
  have j5 : decide (12 < a0.length) = false := decide_eq_false (by omega)
  clear c8
  (first | rw [b3] | (simp only [i64_w, i32_w]; rw [b3]) | skip)
  have H' := Aside0.mk H
  clear H
  all_goals
   obtain ⟨o0, n9, m8, m7⟩ := cz2 a1
   go_wp2
   go_meet
   case rel => exact ⟨_, _, eqs, H', ⟨by first | omega | exact Nat.le_refl _⟩, ⟨bk a1⟩, ⟨bb HB⟩⟩
 case rest =>
  clear h1
  try clear h0 g9 j6 g8 g7 g6 g5
  obtain ⟨kq, b1, rfl, HA, e8, a1, HB⟩ := hcut
  cases kq with
  | zero => exact absurd HA.out (by simp [q4_Valid.j0])
  | succ h8 =>
   have H := HA.out
   clear HA
   simp only [q4_Valid.j0] at H
   by_cases d7 : b1 = true
   ·subst d7
    replace H := ift H
    simp only [Option.some.injEq, Prod.mk.injEq] at H
    obtain ⟨rfl, rfl⟩ := H
    go_wp2
    go_ret2
    exact ⟨by first | rfl | (simp <;> rfl) | (simp [*] <;> rfl), bb HB⟩
   replace d7 := Bool.eq_false_iff.mpr d7
   subst d7
   replace H := iff_ H
   have H' := Aside0.mk H
   clear H
   go_wp2
   go_loopg [4] h8 (fun kq v4 w' => ∃ (a6 : Int), v4 = .int .i64 a6 ∧ Aside0 (q4_Valid.l0 kq a6 a0 a2 = some (r1, r2)) ∧ Aside0 (kq ≤ h8) ∧ Aside0 (w'.heap[b2]? = some (.cells #[(.slice b0 a0.length a8), (.slice a9 a2.length a7)] 25 (0, 0))) ∧ Aside0 (Below w.heap.size w w'))
   case atStart => exact ⟨(0), eqs, H', ⟨Nat.le_refl _⟩, ⟨bk a1⟩, ⟨bb HB⟩⟩
   case round =>
    clear H'
    try clear d7
    obtain ⟨a6, rfl, HA, e7, a1, HB⟩ := hrel
    cases gk with
    | zero => exact absurd HA.out (by simp [q4_Valid.l0])
    | succ k2 =>
     have H := HA.out
     clear HA
     simp only [q4_Valid.l0] at H
     by_cases d2 : a6 < (a0.length : Int)
     ·rw [if_pos d2] at H
      have e6 := decide_eq_true d2
      clear d2
      obtain ⟨d4, p2, H⟩ := obA H
      by_cases b5 : d4 = 0
      rw [if_pos b5] at H
      have h6 := beq_iff_eq.mpr b5
      have h5 := bne_eq_false_iff_eq.mpr b5
      clear b5
      have H' := Aside0.mk H
      clear H
      rotate_left
      rw [if_neg b5] at H
      have h6 := beq_eq_false_iff_ne.mpr b5
      have h5 := bne_iff_ne.mpr b5
      obtain ⟨j1, H⟩ := itn H
      have p4 := decide_eq_true j1
      clear j1
      simp only [Option.some.injEq, Prod.mk.injEq] at H
      obtain ⟨rfl, rfl⟩ := H
      all_goals
       obtain ⟨n8, n7, m6, m5⟩ := cz2 a1
       go_wp2_with ((with_reducible refine gate_callee (f := 41) rfl ?_); refine gl 31 Try.func41 #[.agg #[.slice b0 a0.length a8, .slice a9 a2.length a7], .int .i64 a6] (h := ?_); (with_reducible refine (q4_node.calls _ _ _ _ _ _ _ _ _ _ (cb d6 HB) g0.out (cb d5 HB) e9.out p2.out).mono ?_); rintro e p8 ⟨rfl, hb⟩; refine ⟨_, rfl, ?_⟩; replace a1 := bkb a1 hb; replace HB := bstep HB hb; clear hb; obtain ⟨n6, n5, m4, m3⟩ := cz2 a1; (try (have e1 : 0 ≤ a6 := odt; have d9 : a6 < (a0.length : Int) := odt; obtain ⟨p6, p0, o9, j4, c7, c6, c5, c4, c9, d0⟩ := at_T68 d6.out a6 e1 d9; cases j4; replace c7 := hxc HB c7; replace c6 := hxc HB c6; replace c5 := hxc HB c5; replace c4 := hxc HB c4; have o1 := Aside0.mk d0; have o2 := Aside0.mk c9; clear d0 c9; replace e1 := eq_true e1; replace d9 := eq_true d9)))
      ·go_ret2
       exact ⟨by first | rfl | (simp <;> rfl) | (simp [*] <;> rfl), bb HB⟩
      ·go_roundg k2
       case measure => have := e8.out; have := e7.out; omega
       case rel => exact ⟨(wrap64 (a6 + 1)), eqs, H', ⟨by have := e8.out; have := e7.out; omega⟩, ⟨bk a1⟩, ⟨bb HB⟩⟩
     rw [if_neg d2] at H
     have e6 := decide_eq_false d2
     clear d2
     have H' := Aside0.mk H
     clear H
     obtain ⟨g4, g3, g2, g1⟩ := cz2 a1
     go_wp2
     go_loopg [6] k2 (fun kq v6 w' => ∃ (a5 : Int), v6 = .int .i64 a5 ∧ Aside0 (q4_Valid.l1 kq a5 a0 a2 = some (r1, r2)) ∧ Aside0 (kq ≤ k2) ∧ Aside0 (w'.heap[b2]? = some (.cells #[(.slice b0 a0.length a8), (.slice a9 a2.length a7)] 25 (0, 0))) ∧ Aside0 (Below w.heap.size w w'))
     case atStart => exact ⟨(0), eqs, H', ⟨Nat.le_refl _⟩, ⟨bk a1⟩, ⟨bb HB⟩⟩
     case round =>
      clear H'
      try clear e6 g4 g3 g2 g1
      obtain ⟨a5, rfl, HA, j2, a1, HB⟩ := hrel
      cases gk with
      | zero => exact absurd HA.out (by simp [q4_Valid.l1])
      | succ k3 =>
       have H := HA.out
       clear HA
       simp only [q4_Valid.l1] at H
       by_cases d1 : a5 < (a2.length : Int)
       rotate_left
       ·rw [if_neg d1] at H
        have h4 := decide_eq_false d1
        clear d1
        simp only [Option.some.injEq, Prod.mk.injEq] at H
        obtain ⟨rfl, rfl⟩ := H
        obtain ⟨n0, m9, j8, j7⟩ := cz2 a1
        go_wp2
        go_ret2
        exact ⟨by first | rfl | (simp <;> rfl) | (simp [*] <;> rfl), bb HB⟩
       rw [if_pos d1] at H
       have h4 := decide_eq_true d1
       clear d1
       obtain ⟨d3, p1, H⟩ := obA H
       by_cases b4 : d3 = 0
       rw [if_pos b4] at H
       have h3 := beq_iff_eq.mpr b4
       have h2 := bne_eq_false_iff_eq.mpr b4
       clear b4
       have H' := Aside0.mk H
       clear H
       rotate_left
       rw [if_neg b4] at H
       have h3 := beq_eq_false_iff_ne.mpr b4
       have h2 := bne_iff_ne.mpr b4
       obtain ⟨h9, H⟩ := itn H
       have p3 := decide_eq_true h9
       clear h9
       simp only [Option.some.injEq, Prod.mk.injEq] at H
       obtain ⟨rfl, rfl⟩ := H
       all_goals
        obtain ⟨n4, n3, m2, m1⟩ := cz2 a1
        go_wp2_with ((with_reducible refine gate_callee (f := 42) rfl ?_); refine gl 50 Try.func42 #[.agg #[.slice b0 a0.length a8, .slice a9 a2.length a7], .int .i64 a5] (h := ?_); (with_reducible refine (q4_edge.calls _ _ _ _ _ _ _ _ _ _ (cb d6 HB) g0.out (cb d5 HB) e9.out p1.out).mono ?_); rintro e p7 ⟨rfl, hb⟩; refine ⟨_, rfl, ?_⟩; replace a1 := bkb a1 hb; replace HB := bstep HB hb; clear hb; obtain ⟨n2, n1, m0, j9⟩ := cz2 a1; (try (have e0 : 0 ≤ a5 := odt; have d8 : a5 < (a2.length : Int) := odt; obtain ⟨p5, j3, c3, c1, c0, b9, b8, b7, b6⟩ := at_T71 d5.out a5 e0 d8; cases j3; replace c3 := hxc HB c3; replace c1 := hxc HB c1; replace c0 := hxc HB c0; replace b9 := hxc HB b9; replace b8 := hxc HB b8; replace b7 := hxc HB b7; replace b6 := hxc HB b6; replace e0 := eq_true e0; replace d8 := eq_true d8)))
       ·go_ret2
        exact ⟨by first | rfl | (simp <;> rfl) | (simp [*] <;> rfl), bb HB⟩
       ·go_roundg k3
        case measure => have := e8.out; have := e7.out; have := j2.out; omega
        case rel => exact ⟨(wrap64 (a5 + 1)), eqs, H', ⟨by have := e8.out; have := e7.out; have := j2.out; omega⟩, ⟨bk a1⟩, ⟨bb HB⟩⟩
end Go.Proofs.Ytfpianecohobjaa.P
