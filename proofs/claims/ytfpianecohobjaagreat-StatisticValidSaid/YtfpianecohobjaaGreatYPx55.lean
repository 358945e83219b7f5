/- StatisticOf: a part of its proof. No condition. -/
import Derived.Test.YtfpianecohobjaaGreatYPx0
import Derived.Test.YtfpianecohobjaaGreatYMa
namespace Go.Proofs.YtfpianecohobjaaGreat.P
open Go.RowKit Go.Proofs.YtfpianecohobjaaGreatW.PrintWords Go.Proofs.YtfpianecohobjaaGreatW.PrintLast Go.Proofs.YtfpianecohobjaaGreatW.PrintMore
set_option linter.unusedVariables false
set_option linter.unusedSimpArgs false
attribute [local go_sem high] eqA75
def api_Count_67.l0 : Nat → List (S75) → List (S75) → Int → Int → Option (Bool)
 | 0, _, _, _, _ => none
 | k + 1, x0, x1, j1, a6 => if a6 < j1 then (if 0 ≤ a6 then (if a6 < (x0.length : Int) then (if a6 < (x1.length : Int) then (if (!(((rd_T75 x0 a6).f0) == ((rd_T75 x1 a6).f0)) || (!(((rd_T75 x0 a6).f1) == ((rd_T75 x1 a6).f1)) || (!(((rd_T75 x0 a6).f2) == ((rd_T75 x1 a6).f2)) || (!(((rd_T75 x0 a6).f3) == ((rd_T75 x1 a6).f3)))))) = true then (some false) else (api_Count_67.l0 k x0 x1 j1 (wrap64 (a6 + 1)))) else (none)) else (none)) else (none)) else (some true)
def api_Count_67.f (k : Nat) (l0 : List (S75)) (l1 : List (S75)) : Option (Bool) := if (l0.length : Int) = (l1.length : Int) then (api_Count_67.l0 k l0 l1 (l0.length : Int) 0) else (some false)
set_option maxHeartbeats 8000000 in
set_option maxRecDepth 100000 in
theorem api_Count_67.calls (k : Nat) (A0 : Option Addr) (c0 : Nat) (l0 : List (S75)) (A1 : Option Addr) (c1 : Nat) (l1 : List (S75)) (r : Bool) (w : World) (j3 : Kd.C k75 w A0 l0.length l0) (j5 : l0.length ≤ c0) (j2 : Kd.C k75 w A1 l1.length l1) (j4 : l1.length ≤ c1) (h : api_Count_67.f k l0 l1 = some r) :
  Calls Tryz.prog 67 #[.slice A0 l0.length c0, .slice A1 l1.length c1] w fun e w' => e = .returned (.bool r) ∧ Drawn0 w w' := by
 have hu75 := Tryz.underlying75
 have j7 := Aside0.mk j3
 have o9 := Aside0.mk j5
 clear j3 j5
 have j6 := Aside0.mk j2
 have o8 := Aside0.mk j4
 clear j2 j4
 have H : (if (l0.length : Int) = (l1.length : Int) then (api_Count_67.l0 k l0 l1 (l0.length : Int) 0) else (some false)) = some r := h
 clear h
 by_cases c3 : (l0.length : Int) = (l1.length : Int)
 rotate_left
 ·rw [if_neg c3] at H
  have h0 := beq_eq_false_iff_ne.mpr c3
  have g9 := bne_iff_ne.mpr c3
  have g8 : (l0.length == l1.length) = false := by first | simpa using c3 | (simp at c3 ⊢; omega)
  obtain rfl := Option.some.inj H
  go_enter Tryz.func67, Tryz.ntmps67
  go_wp2
  repeat (go_quiet (fail); try go_wp2)
  go_ret
  exact ⟨by first | rfl | (simp; done) | (simp [*]; done), drw⟩
 rw [if_pos c3] at H
 have h0 := beq_iff_eq.mpr c3
 have g9 := bne_eq_false_iff_eq.mpr c3
 have g8 : (l0.length == l1.length) = true := by first | simpa using c3 | (simp at c3 ⊢; omega)
 clear c3
 have H' := Aside0.mk H
 clear H
 go_enter Tryz.func67, Tryz.ntmps67
 go_wp2
 repeat (go_quiet (fail); try go_wp2)
 go_loopg [13] k (fun kq n4 w' => ∃ (a0 : Int), n4 = .int .i64 a0 ∧ Aside0 (api_Count_67.l0 kq l0 l1 (l0.length : Int) a0 = some r) ∧ Aside0 (kq ≤ k) ∧ Drawn0 w w')
 case atStart => exact ⟨(0), eqs, H', ⟨Nat.le_refl _⟩, drw⟩
 case round =>
  clear H'
  try clear c1
  try clear p2
  try clear c3
  try clear h0
  try clear g9
  try clear g8
  obtain ⟨a0, rfl, HA, j8, ⟨m1, rfl⟩⟩ := hrel
  cases gk with
  | zero => exact absurd HA.out (by simp [api_Count_67.l0])
  | succ k1 =>
   have H := HA.out
   clear HA
   simp only [api_Count_67.l0] at H
   by_cases c4 : a0 < (l0.length : Int)
   rotate_left
   ·rw [if_neg c4] at H
    have m0 := decide_eq_false c4
    clear c4
    obtain rfl := Option.some.inj H
    go_wp2
    repeat (go_quiet (fail); try go_wp2)
    go_ret
    exact ⟨by first | rfl | (simp; done) | (simp [*]; done), drw⟩
   rw [if_pos c4] at H
   have m0 := decide_eq_true c4
   clear c4
   obtain ⟨c5, H⟩ := itn H
   have o5 := decide_eq_true c5
   clear c5
   obtain ⟨c6, H⟩ := itn H
   have o4 := decide_eq_true c6
   clear c6
   obtain ⟨c7, H⟩ := itn H
   have o3 := decide_eq_true c7
   clear c7
   by_cases c8 : (!(((rd_T75 l0 a0).f0) == ((rd_T75 l1 a0).f0)) || (!(((rd_T75 l0 a0).f1) == ((rd_T75 l1 a0).f1)) || (!(((rd_T75 l0 a0).f2) == ((rd_T75 l1 a0).f2)) || (!(((rd_T75 l0 a0).f3) == ((rd_T75 l1 a0).f3)))))) = true
   ·rw [if_pos c8] at H
    have j9 : (!(((rd_T75 l0 a0).f0) == ((rd_T75 l1 a0).f0)) || (!(((rd_T75 l0 a0).f1) == ((rd_T75 l1 a0).f1)) || (!(((rd_T75 l0 a0).f2) == ((rd_T75 l1 a0).f2)) || (!(((rd_T75 l0 a0).f3) == ((rd_T75 l1 a0).f3)))))) = true := c8
    clear c8
    obtain rfl := Option.some.inj H
    have b2 : 0 ≤ a0 := odt
    have b0 : a0 < (l0.length : Int) := odt
    obtain ⟨h4, d7, g7, g6, g5, g4⟩ := at_T75 j7.out a0 b2 b0
    cases d7
    replace b2 := eq_true b2
    replace b0 := eq_true b0
    have b1 : 0 ≤ a0 := odt
    have a9 : a0 < (l1.length : Int) := odt
    obtain ⟨h3, d6, g3, g2, g1, g0⟩ := at_T75 j6.out a0 b1 a9
    cases d6
    replace b1 := eq_true b1
    replace a9 := eq_true a9
    go_wp2
    repeat (go_quiet (fail); try go_wp2)
    go_ret
    exact ⟨by first | rfl | (simp; done) | (simp [*]; done), drw⟩
   rw [if_neg c8] at H
   have j9 : (!(((rd_T75 l0 a0).f0) == ((rd_T75 l1 a0).f0)) || (!(((rd_T75 l0 a0).f1) == ((rd_T75 l1 a0).f1)) || (!(((rd_T75 l0 a0).f2) == ((rd_T75 l1 a0).f2)) || (!(((rd_T75 l0 a0).f3) == ((rd_T75 l1 a0).f3)))))) = false := by simpa using c8
   clear c8
   have H' := Aside0.mk H
   clear H
   have b2 : 0 ≤ a0 := odt
   have b0 : a0 < (l0.length : Int) := odt
   obtain ⟨h4, d7, g7, g6, g5, g4⟩ := at_T75 j7.out a0 b2 b0
   cases d7
   replace b2 := eq_true b2
   replace b0 := eq_true b0
   have b1 : 0 ≤ a0 := odt
   have a9 : a0 < (l1.length : Int) := odt
   obtain ⟨h3, d6, g3, g2, g1, g0⟩ := at_T75 j6.out a0 b1 a9
   cases d6
   replace b1 := eq_true b1
   replace a9 := eq_true a9
   go_wp2
   repeat (go_quiet (fail); try go_wp2)
   go_roundg k1
   case measure => have := j8.out; omega
   case rel => exact ⟨(wrap64 (a0 + 1)), eqs, H', ⟨by have := j8.out; omega⟩, drw⟩
def statistic_Same.f (k : Nat) (a2 : List (S75)) (a5 : List (S75)) (a1 : List (S75)) (a4 : List (S75)) : Option (Bool) := (api_Count_67.f k a2 a1).bind fun d0 => (if d0 = true then ((api_Count_67.f k a5 a4).bind fun c9 => (some c9)) else (some false))
set_option maxHeartbeats 8000000 in
set_option maxRecDepth 100000 in
theorem statistic_Same.calls (k : Nat) (c2 : Option Addr) (b8 : Nat) (a2 : List (S75)) (d5 : Option Addr) (d2 : Nat) (a5 : List (S75)) (b9 : Option Addr) (b7 : Nat) (a1 : List (S75)) (d4 : Option Addr) (d1 : Nat) (a4 : List (S75)) (r : Bool) (w : World) (e1 : Kd.C k75 w c2 a2.length a2) (e5 : a2.length ≤ b8) (e0 : Kd.C k75 w d5 a5.length a5) (e4 : a5.length ≤ d2) (d9 : Kd.C k75 w b9 a1.length a1) (e3 : a1.length ≤ b7) (d8 : Kd.C k75 w d4 a4.length a4) (e2 : a4.length ≤ d1) (h : statistic_Same.f k a2 a5 a1 a4 = some r) :
  Calls Tryz.prog 31 #[.agg #[.slice c2 a2.length b8, .slice d5 a5.length d2], .agg #[.slice b9 a1.length b7, .slice d4 a4.length d1]] w fun e w' => e = .returned (.bool r) ∧ Below w.heap.size w w' := by
 have hu46 := Tryz.underlying46
 have e7 := Aside0.mk e1
 have e9 := Aside0.mk e5
 clear e1 e5
 have h6 := Aside0.mk e0
 have h8 := Aside0.mk e4
 clear e0 e4
 have e6 := Aside0.mk d9
 have e8 := Aside0.mk e3
 clear d9 e3
 have h5 := Aside0.mk d8
 have h7 := Aside0.mk e2
 clear d8 e2
 have HB := Aside0.mk (Below.refl w.heap.size w)
 have H : ((api_Count_67.f k a2 a1).bind fun d0 => (if d0 = true then ((api_Count_67.f k a5 a4).bind fun c9 => (some c9)) else (some false))) = some r := h
 clear h
 obtain ⟨d0, A3, H⟩ := obA H
 by_cases c4 : d0 = true
 rotate_left
 ·replace c4 := Bool.eq_false_iff.mpr c4
  subst c4
  replace H := iff_ H
  obtain rfl := Option.some.inj H
  go_enter Tryz.func31, Tryz.ntmps31
  go_wp2_with (first | ((with_reducible refine gate_dst (N := 2) rfl ?_); refine be 2 #[.slice c2 a2.length b8, .slice d5 a5.length d2] 46 ?_; intro h2 hg o7 hbox hb; have a3 := Aside0.mk (hbox); have j0 := bsz HB hg; replace HB := bstep HB hb; clear hb hbox hg) | ((with_reducible refine gate_dst (N := 3) rfl ?_); refine be 3 #[.slice b9 a1.length b7, .slice d4 a4.length d1] 46 ?_; intro h1 hg o6 hbox hb; have d3 := Aside0.mk (hbox); have h9 := bsz HB hg; replace HB := bstep HB hb; have a8 := blt a3 hg; have a7 := bgt a3 hg; replace a3 := bkb a3 hb; clear hb hbox hg; have o0 := a8.out; have n9 := a7.out; obtain ⟨n1, n0, m5, m4⟩ := cz2 a3; obtain ⟨m9, m8, m3, m2⟩ := cz2 d3) | ((with_reducible refine gate_callee (f := 67) rfl ?_); refine gl 9 Tryz.func67 #[.slice c2 a2.length b8, .slice b9 a1.length b7] (h := ?_); (with_reducible refine (api_Count_67.calls k _ _ a2 _ _ a1 false _ ?b6 ?b5 ?b4 ?b3 A3.out).mono ?_); (case b6 => exact cb e7 HB); (case b5 => exact e9.out); (case b4 => exact cb e6 HB); (case b3 => exact e8.out); rintro e w' ⟨rfl, ⟨nd, rfl⟩⟩; refine ⟨_, rfl, ?_⟩))
  go_ret
  exact ⟨erf, bb HB⟩
 subst c4
 replace H := ift H
 obtain ⟨c9, A5, H⟩ := obA H
 obtain rfl := Option.some.inj H
 go_enter Tryz.func31, Tryz.ntmps31
 go_wp2_with (first | ((with_reducible refine gate_dst (N := 2) rfl ?_); refine be 2 #[.slice c2 a2.length b8, .slice d5 a5.length d2] 46 ?_; intro h2 hg w6 hbox hb; have a3 := Aside0.mk (hbox); have j0 := bsz HB hg; replace HB := bstep HB hb; clear hb hbox hg) | ((with_reducible refine gate_dst (N := 3) rfl ?_); refine be 3 #[.slice b9 a1.length b7, .slice d4 a4.length d1] 46 ?_; intro h1 hg w7 hbox hb; have d3 := Aside0.mk (hbox); have h9 := bsz HB hg; replace HB := bstep HB hb; have a8 := blt a3 hg; have a7 := bgt a3 hg; replace a3 := bkb a3 hb; clear hb hbox hg; have o2 := a8.out; have o1 := a7.out; obtain ⟨n8, n7, n6, n5⟩ := cz2 a3; obtain ⟨n3, n2, m7, m6⟩ := cz2 d3) | ((with_reducible refine gate_callee (f := 67) rfl ?_); refine gl 9 Tryz.func67 #[.slice c2 a2.length b8, .slice b9 a1.length b7] (h := ?_); (with_reducible refine (api_Count_67.calls k _ _ a2 _ _ a1 true _ ?b6 ?b5 ?b4 ?b3 A3.out).mono ?_); (case b6 => exact cb e7 HB); (case b5 => exact e9.out); (case b4 => exact cb e6 HB); (case b3 => exact e8.out); rintro e w' ⟨rfl, ⟨nd, rfl⟩⟩; refine ⟨_, rfl, ?_⟩) | (go_at_call 67; (with_reducible refine (api_Count_67.calls k _ _ a5 _ _ a4 c9 _ ?b6 ?b5 ?b4 ?b3 A5.out).mono ?_); (case b6 => repeat (first | exact (Kd.C_below h6.out (bb HB)) | (with_reducible refine Kd.C_alloc ?_ _) | (with_reducible refine Kd.C_drewN ?_ _) | (with_reducible refine Kd.C_drew ?_))); (case b5 => exact h8.out); (case b4 => repeat (first | exact (Kd.C_below h5.out (bb HB)) | (with_reducible refine Kd.C_alloc ?_ _) | (with_reducible refine Kd.C_drewN ?_ _) | (with_reducible refine Kd.C_drew ?_))); (case b3 => exact h7.out); rintro e w' ⟨rfl, ⟨nd, rfl⟩⟩))
 go_ret
 exact ⟨erf, bb HB⟩
end Go.Proofs.YtfpianecohobjaaGreat.P
