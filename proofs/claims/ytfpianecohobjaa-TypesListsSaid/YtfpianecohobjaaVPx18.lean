/- typesLists_holds: a part of the proof that the law returns true for every input. No condition. -/
import Derived.Test.YtfpianecohobjaaVPx0
import Derived.Test.YtfpianecohobjaaVPx12
import Derived.Test.YtfpianecohobjaaVPx16
namespace Go.Proofs.Ytfpianecohobjaa.P
open Go.RowKit Go.Proofs.YtfpianecohobjaaW.PrintWords Go.Proofs.YtfpianecohobjaaW.PrintLast Go.Proofs.YtfpianecohobjaaW.PrintMore
set_option linter.unusedVariables false
set_option linter.unusedSimpArgs false
def q4_bound.f (a0 : Int) (a1 : Int) : Option (Bool) := (q4_in.f a0 0 40).bind fun t346 => (if t346 = true then (if a1 = (-1) then (some true) else ((q4_in.f a1 a0 40).bind fun t347 => (some t347))) else (some false))
set_option maxHeartbeats 8000000 in
set_option maxRecDepth 100000 in
theorem q4_bound.calls (a0 : Int) (a1 : Int) (r : Bool) (w : World) (h : q4_bound.f a0 a1 = some r) :
  Calls Try.prog 69 #[.int .i64 a0, .int .i64 a1] w fun e w' => e = .returned (.bool r) ∧ Drawn0 w w' := by
 have H : ((q4_in.f a0 0 40).bind fun t346 => (if t346 = true then (if a1 = (-1) then (some true) else ((q4_in.f a1 a0 40).bind fun t347 => (some t347))) else (some false))) = some r := h
 clear h
 replace H := Option.bind_eq_some_iff.mp H
 obtain ⟨t346, A30, H⟩ := H
 replace H : (if t346 = true then (if a1 = (-1) then (some true) else ((q4_in.f a1 a0 40).bind fun t347 => (some t347))) else (some false)) = some r := H
 have A3 := Aside0.mk A30
 clear A30
 by_cases c4 : t346 = true
 ·subst c4
  replace H := ift H
  by_cases c5 : a1 = (-1)
  ·rw [if_pos c5] at H
   have c5b0 : (a1 == (-1)) = true := beq_iff_eq.mpr c5
   have c5b1 : (a1 != (-1)) = false := bne_eq_false_iff_eq.mpr c5
   clear c5
   obtain rfl := Option.some.inj H
   go_enter Try.func69, Try.ntmps69
   go_wp2_with ((with_reducible refine gate_callee (f := 47) rfl ?_); refine gl 6 Try.func47 #[.int .i64 a0, .int .i64 0, .int .i64 40] (h := ?_); (with_reducible refine (q4_in.calls a0 0 40 true _ A3.out).mono ?_); rintro e w' ⟨rfl, ⟨nd, rfl⟩⟩; refine ⟨_, rfl, ?_⟩)
   go_ret
   exact ⟨by first | rfl | (simp; done) | (simp [*]; done), drw⟩
  ·rw [if_neg c5] at H
   have c5b0 : (a1 == (-1)) = false := beq_eq_false_iff_ne.mpr c5
   have c5b1 : (a1 != (-1)) = true := bne_iff_ne.mpr c5
   replace H := Option.bind_eq_some_iff.mp H
   obtain ⟨t347, A60, H⟩ := H
   replace H : (some t347) = some r := H
   have A6 := Aside0.mk A60
   clear A60
   obtain rfl := Option.some.inj H
   go_enter Try.func69, Try.ntmps69
   go_wp2_with (first | ((with_reducible refine gate_callee (f := 47) rfl ?_); refine gl 6 Try.func47 #[.int .i64 a0, .int .i64 0, .int .i64 40] (h := ?_); (with_reducible refine (q4_in.calls a0 0 40 true _ A3.out).mono ?_); rintro e w' ⟨rfl, ⟨nd, rfl⟩⟩; refine ⟨_, rfl, ?_⟩) | (go_at_call 47; (with_reducible refine (q4_in.calls a1 a0 40 t347 _ A6.out).mono ?_); rintro e w' ⟨rfl, ⟨nd, rfl⟩⟩))
   go_ret
   exact ⟨by first | rfl | (simp; done) | (simp [*]; done), drw⟩
 ·replace c4 := Bool.eq_false_iff.mpr c4
  subst c4
  replace H := iff_ H
  obtain rfl := Option.some.inj H
  go_enter Try.func69, Try.ntmps69
  go_wp2_with ((with_reducible refine gate_callee (f := 47) rfl ?_); refine gl 6 Try.func47 #[.int .i64 a0, .int .i64 0, .int .i64 40] (h := ?_); (with_reducible refine (q4_in.calls a0 0 40 false _ A3.out).mono ?_); rintro e w' ⟨rfl, ⟨nd, rfl⟩⟩; refine ⟨_, rfl, ?_⟩)
  go_ret
  exact ⟨by first | rfl | (simp; done) | (simp [*]; done), drw⟩
def q4_edge.l0 : Nat → Int → Int → List (S68) → List (S71) → ByteArray → Int → Int → Int → Int → Int → Int → Option (Int)
 | 0, _, _, _, _, _, _, _, _, _, _, _ => none
 | k + 1, x1, x6, x349000, x349001, x351000, x351001, x351002, x351003, x351004, x351005, x351006 => if x6 < x1 then (if 0 ≤ x6 then (if x6 < (x349001.length : Int) then (if ((rd_T71 x349001 x6).f0).toList = x351000.toList then (some 5) else (q4_edge.l0 k x1 (wrap64 (x6 + 1)) x349000 x349001 x351000 x351001 x351002 x351003 x351004 x351005 x351006)) else (none)) else (none)) else ((q4_in.f x351001 0 (wrap64 ((x349000.length : Int) - 1))).bind fun t353 => (if t353 = true then ((q4_in.f x351002 0 (wrap64 ((x349000.length : Int) - 1))).bind fun t354 => (if t354 = true then ((q4_bound.f x351003 x351004).bind fun t355 => (if t355 = true then ((q4_bound.f x351005 x351006).bind fun t356 => (if t356 = true then (some 0) else (some 6))) else (some 6))) else (some 6))) else (some 6)))
def q4_edge.f (k : Nat) (l0_0 : List (S68)) (l0_1 : List (S71)) (a1 : Int) : Option (Int) := if 0 ≤ a1 then (if a1 < (l0_1.length : Int) then ((q1_IsName.f k ((rd_T71 l0_1 a1).f0)).bind fun t351 => (if t351 = true then (q4_edge.l0 k a1 0 l0_0 l0_1 ((rd_T71 l0_1 a1).f0) ((rd_T71 l0_1 a1).f1) ((rd_T71 l0_1 a1).f2) ((rd_T71 l0_1 a1).f3) ((rd_T71 l0_1 a1).f4) ((rd_T71 l0_1 a1).f5) ((rd_T71 l0_1 a1).f6)) else (some 2))) else (none)) else (none)
set_option maxHeartbeats 8000000 in
set_option maxRecDepth 100000 in
theorem q4_edge.calls (k : Nat) (A0_0 : Option Addr) (c0_0 : Nat) (l0_0 : List (S68)) (A0_1 : Option Addr) (c0_1 : Nat) (l0_1 : List (S71)) (a1 : Int) (r : Int) (w : World) (hr0_0 : Kd.C k68 w A0_0 l0_0.length l0_0) (hc0_0 : l0_0.length ≤ c0_0) (hr0_1 : Kd.C k71 w A0_1 l0_1.length l0_1) (hc0_1 : l0_1.length ≤ c0_1) (h : q4_edge.f k l0_0 l0_1 a1 = some r) :
  Calls Try.prog 42 #[.agg #[.slice A0_0 l0_0.length c0_0, .slice A0_1 l0_1.length c0_1], .int .i64 a1] w fun e w' => e = .returned (.int .i64 r) ∧ Below w.heap.size w w' := by
 have hu25 := Try.underlying25
 have hu71 := Try.underlying71
 have HR0_0 := Aside0.mk hr0_0
 have HC0_0 := Aside0.mk hc0_0
 clear hr0_0 hc0_0
 have HR0_1 := Aside0.mk hr0_1
 have HC0_1 := Aside0.mk hc0_1
 clear hr0_1 hc0_1
 have HB := Aside0.mk (Below.refl w.heap.size w)
 have H : (if 0 ≤ a1 then (if a1 < (l0_1.length : Int) then ((q1_IsName.f k ((rd_T71 l0_1 a1).f0)).bind fun t351 => (if t351 = true then (q4_edge.l0 k a1 0 l0_0 l0_1 ((rd_T71 l0_1 a1).f0) ((rd_T71 l0_1 a1).f1) ((rd_T71 l0_1 a1).f2) ((rd_T71 l0_1 a1).f3) ((rd_T71 l0_1 a1).f4) ((rd_T71 l0_1 a1).f5) ((rd_T71 l0_1 a1).f6)) else (some 2))) else (none)) else (none)) = some r := h
 clear h
 by_cases c3 : 0 ≤ a1
 ·rw [if_pos c3] at H
  have c3b0 : decide (0 ≤ a1) = true := decide_eq_true c3
  clear c3
  by_cases c4 : a1 < (l0_1.length : Int)
  ·rw [if_pos c4] at H
   have c4b0 : decide (a1 < (l0_1.length : Int)) = true := decide_eq_true c4
   clear c4
   replace H := Option.bind_eq_some_iff.mp H
   obtain ⟨t351, A50, H⟩ := H
   replace H : (if t351 = true then (q4_edge.l0 k a1 0 l0_0 l0_1 ((rd_T71 l0_1 a1).f0) ((rd_T71 l0_1 a1).f1) ((rd_T71 l0_1 a1).f2) ((rd_T71 l0_1 a1).f3) ((rd_T71 l0_1 a1).f4) ((rd_T71 l0_1 a1).f5) ((rd_T71 l0_1 a1).f6)) else (some 2)) = some r := H
   have A5 := Aside0.mk A50
   clear A50
   by_cases c6 : t351 = true
   ·subst c6
    replace H := ift H
    have H' := Aside0.mk H
    clear H
    go_enter Try.func42, Try.ntmps42
    go_wp2_with (first | ((with_reducible refine gate_dst (N := 2) rfl ?_); refine box_event ?hg (N := 2) ?hd (cs := #[.slice A0_0 l0_0.length c0_0, .slice A0_1 l0_1.length c0_1]) (t := 25) ?hr ?_; (case hd => rfl); (case hg => rfl); (case hr => first | (go_simp; done) | (go_simp; rfl)); intro gb348 hg w7 hbox hb; have BK348 := Aside0.mk (hbox); have GW348 := bsz HB hg; have GE348 := bsz HB hg; replace HB := bstep HB hb; clear hb hbox hg; obtain ⟨hcz8_0, hcz8_1, hfz8_0, hfz8_1⟩ := cz2 BK348; have p349 : 0 ≤ a1 := odt; have q349 : a1 < (l0_1.length : Int) := odt; obtain ⟨ad349, e349, hx349_0, hx349_1, hx349_2, hx349_3, hx349_4, hx349_5, hx349_6⟩ := at_T71 HR0_1.out a1 p349 q349; cases e349; replace hx349_0 := hxc HB hx349_0; replace hx349_1 := hxc HB hx349_1; replace hx349_2 := hxc HB hx349_2; replace hx349_3 := hxc HB hx349_3; replace hx349_4 := hxc HB hx349_4; replace hx349_5 := hxc HB hx349_5; replace hx349_6 := hxc HB hx349_6; replace p349 := eq_true p349; replace q349 := eq_true q349) | ((with_reducible refine gate_dst (N := 5) rfl ?_); refine box_event ?hg (N := 5) ?hd (cs := #[.string (⟨#[]⟩ : ByteArray), .int .i64 0, .int .i64 0, .int .i64 0, .int .i64 0, .int .i64 0, .int .i64 0]) (t := 71) ?hr ?_; (case hd => rfl); (case hg => rfl); (case hr => first | (go_simp; done) | (go_simp; rfl)); intro gb350 hg w9 hbox hb; have BK350 := Aside0.mk (hbox); have GW350 := bsz HB hg; have GE350 := bsz HB hg; replace HB := bstep HB hb; have NB348_350 := blt BK348 hg; have NB350_348 := bgt BK348 hg; replace BK348 := bkb BK348 hb; clear hb hbox hg; have hnb10 := NB350_348.out; have hnc10 := NB348_350.out; obtain ⟨hcz11_0, hcz11_1, hcz11_2, hcz11_3, hcz11_4, hcz11_5, hcz11_6, hfz11_0, hfz11_1, hfz11_2, hfz11_3, hfz11_4, hfz11_5, hfz11_6⟩ := cz7 BK350) | (go_at_call 67; (with_reducible refine (q1_IsName.calls k ((rd_T71 l0_1 a1).f0) true _ A5.out).mono ?_); rintro e w12 ⟨rfl, hb⟩; replace BK348 := Aside0.mk (blk_below (g := gb348) (o := .cells #[.slice A0_0 l0_0.length c0_0, .slice (some ad349) l0_1.length c0_1] 25 (0, 0)) (by (with_reducible repeat (first | refine blk_drewN ?_ _ | refine blk_drew ?_ | refine blk_alloc ?_ _)); refine blk_far ?_ NB348_350.out _; (with_reducible repeat (first | refine blk_drewN ?_ _ | refine blk_drew ?_ | refine blk_alloc ?_ _)); refine blk_far ?_ NB348_350.out _; (with_reducible repeat (first | refine blk_drewN ?_ _ | refine blk_drew ?_ | refine blk_alloc ?_ _)); refine blk_far ?_ NB348_350.out _; (with_reducible repeat (first | refine blk_drewN ?_ _ | refine blk_drew ?_ | refine blk_alloc ?_ _)); refine blk_far ?_ NB348_350.out _; (with_reducible repeat (first | refine blk_drewN ?_ _ | refine blk_drew ?_ | refine blk_alloc ?_ _)); refine blk_far ?_ NB348_350.out _; (with_reducible repeat (first | refine blk_drewN ?_ _ | refine blk_drew ?_ | refine blk_alloc ?_ _)); refine blk_far ?_ NB348_350.out _; (with_reducible repeat (first | refine blk_drewN ?_ _ | refine blk_drew ?_ | refine blk_alloc ?_ _)); refine blk_far ?_ NB348_350.out _; (with_reducible repeat (first | refine blk_drewN ?_ _ | refine blk_drew ?_ | refine blk_alloc ?_ _)); exact BK348.out) hb); replace BK350 := Aside0.mk (blk_below (g := gb350) (o := .cells #[.string ((rd_T71 l0_1 a1).f0), .int .i64 ((rd_T71 l0_1 a1).f1), .int .i64 ((rd_T71 l0_1 a1).f2), .int .i64 ((rd_T71 l0_1 a1).f3), .int .i64 ((rd_T71 l0_1 a1).f4), .int .i64 ((rd_T71 l0_1 a1).f5), .int .i64 ((rd_T71 l0_1 a1).f6)] 71 (0, 0)) (by (with_reducible repeat (first | refine blk_drewN ?_ _ | refine blk_drew ?_ | refine blk_alloc ?_ _)); refine blk_put (cs := #[.string ((rd_T71 l0_1 a1).f0), .int .i64 ((rd_T71 l0_1 a1).f1), .int .i64 ((rd_T71 l0_1 a1).f2), .int .i64 ((rd_T71 l0_1 a1).f3), .int .i64 ((rd_T71 l0_1 a1).f4), .int .i64 ((rd_T71 l0_1 a1).f5), .int .i64 0]) ?_ 6 _ rfl; (with_reducible repeat (first | refine blk_drewN ?_ _ | refine blk_drew ?_ | refine blk_alloc ?_ _)); refine blk_put (cs := #[.string ((rd_T71 l0_1 a1).f0), .int .i64 ((rd_T71 l0_1 a1).f1), .int .i64 ((rd_T71 l0_1 a1).f2), .int .i64 ((rd_T71 l0_1 a1).f3), .int .i64 ((rd_T71 l0_1 a1).f4), .int .i64 0, .int .i64 0]) ?_ 5 _ rfl; (with_reducible repeat (first | refine blk_drewN ?_ _ | refine blk_drew ?_ | refine blk_alloc ?_ _)); refine blk_put (cs := #[.string ((rd_T71 l0_1 a1).f0), .int .i64 ((rd_T71 l0_1 a1).f1), .int .i64 ((rd_T71 l0_1 a1).f2), .int .i64 ((rd_T71 l0_1 a1).f3), .int .i64 0, .int .i64 0, .int .i64 0]) ?_ 4 _ rfl; (with_reducible repeat (first | refine blk_drewN ?_ _ | refine blk_drew ?_ | refine blk_alloc ?_ _)); refine blk_put (cs := #[.string ((rd_T71 l0_1 a1).f0), .int .i64 ((rd_T71 l0_1 a1).f1), .int .i64 ((rd_T71 l0_1 a1).f2), .int .i64 0, .int .i64 0, .int .i64 0, .int .i64 0]) ?_ 3 _ rfl; (with_reducible repeat (first | refine blk_drewN ?_ _ | refine blk_drew ?_ | refine blk_alloc ?_ _)); refine blk_put (cs := #[.string ((rd_T71 l0_1 a1).f0), .int .i64 ((rd_T71 l0_1 a1).f1), .int .i64 0, .int .i64 0, .int .i64 0, .int .i64 0, .int .i64 0]) ?_ 2 _ rfl; (with_reducible repeat (first | refine blk_drewN ?_ _ | refine blk_drew ?_ | refine blk_alloc ?_ _)); refine blk_put (cs := #[.string ((rd_T71 l0_1 a1).f0), .int .i64 0, .int .i64 0, .int .i64 0, .int .i64 0, .int .i64 0, .int .i64 0]) ?_ 1 _ rfl; (with_reducible repeat (first | refine blk_drewN ?_ _ | refine blk_drew ?_ | refine blk_alloc ?_ _)); refine blk_put (cs := #[.string (⟨#[]⟩ : ByteArray), .int .i64 0, .int .i64 0, .int .i64 0, .int .i64 0, .int .i64 0, .int .i64 0]) ?_ 0 _ rfl; (with_reducible repeat (first | refine blk_drewN ?_ _ | refine blk_drew ?_ | refine blk_alloc ?_ _)); exact BK350.out) hb); replace HB := bstep HB hb; (try clear hb); (try clear hb2); (try clear hk); (try clear hi)))
    repeat (go_quiet (fail); try go_wp2_with (fail))
    go_loopg [6] k (fun kq v6 w' => ∃ (x6_1 : Int), v6 = .int .i64 x6_1 ∧ Aside0 (q4_edge.l0 kq a1 x6_1 l0_0 l0_1 ((rd_T71 l0_1 a1).f0) ((rd_T71 l0_1 a1).f1) ((rd_T71 l0_1 a1).f2) ((rd_T71 l0_1 a1).f3) ((rd_T71 l0_1 a1).f4) ((rd_T71 l0_1 a1).f5) ((rd_T71 l0_1 a1).f6) = some r) ∧ Aside0 (kq ≤ k) ∧ Aside0 (w'.heap[gb348]? = some (.cells #[(.slice A0_0 l0_0.length c0_0), (.slice (some ad349) l0_1.length c0_1)] 25 (0, 0))) ∧ Aside0 (w'.heap[gb350]? = some (.cells #[.string ((rd_T71 l0_1 a1).f0), .int .i64 ((rd_T71 l0_1 a1).f1), .int .i64 ((rd_T71 l0_1 a1).f2), .int .i64 ((rd_T71 l0_1 a1).f3), .int .i64 ((rd_T71 l0_1 a1).f4), .int .i64 ((rd_T71 l0_1 a1).f5), .int .i64 ((rd_T71 l0_1 a1).f6)] 71 (0, 0))) ∧ Aside0 (Below w.heap.size w w'))
    case atStart => exact ⟨(0), eqs, H', ⟨Nat.le_refl _⟩, ⟨bk BK348⟩, ⟨bk BK350⟩, ⟨bb HB⟩⟩
    case round =>
     clear H'
     clear c3b0 c4b0 hcz11_0 hcz11_1 hcz11_2 hcz11_3 hcz11_4 hcz11_5 hcz11_6 hcz8_0 hcz8_1 hfz11_0 hfz11_1 hfz11_2 hfz11_3 hfz11_4 hfz11_5 hfz11_6 hfz8_0 hfz8_1 hx349_0 hx349_1 hx349_2 hx349_3 hx349_4 hx349_5 hx349_6 p349 q349
     obtain ⟨x6_1, rfl, HA, HK1, BK348, BK350, HB⟩ := hrel
     cases gk with
     | zero => exact absurd HA.out (by simp [q4_edge.l0])
     | succ k1 =>
      have H := HA.out
      clear HA
      simp only [q4_edge.l0] at H
      by_cases c13 : x6_1 < a1
      ·rw [if_pos c13] at H
       have c13b0 : decide (x6_1 < a1) = true := decide_eq_true c13
       clear c13
       by_cases c14 : 0 ≤ x6_1
       ·rw [if_pos c14] at H
        have c14b0 : decide (0 ≤ x6_1) = true := decide_eq_true c14
        clear c14
        by_cases c15 : x6_1 < (l0_1.length : Int)
        ·rw [if_pos c15] at H
         have c15b0 : decide (x6_1 < (l0_1.length : Int)) = true := decide_eq_true c15
         clear c15
         by_cases c16 : ((rd_T71 l0_1 x6_1).f0).toList = ((rd_T71 l0_1 a1).f0).toList
         ·rw [if_pos c16] at H
          have c16b0 : (((rd_T71 l0_1 x6_1).f0).toList == ((rd_T71 l0_1 a1).f0).toList) = true := beq_iff_eq.mpr c16
          have c16b1 : (((rd_T71 l0_1 x6_1).f0).toList != ((rd_T71 l0_1 a1).f0).toList) = false := bne_eq_false_iff_eq.mpr c16
          clear c16
          obtain rfl := Option.some.inj H
          have hnb17 := NB348_350.out
          have hnc17 := NB350_348.out
          obtain ⟨hcz18_0, hcz18_1, hfz18_0, hfz18_1⟩ := cz2 BK348
          have p352 : 0 ≤ x6_1 := odt
          have q352 : x6_1 < (l0_1.length : Int) := odt
          obtain ⟨ad352, e352, hx352_0, hx352_1, hx352_2, hx352_3, hx352_4, hx352_5, hx352_6⟩ := at_T71 HR0_1.out x6_1 p352 q352
          obtain rfl : ad349 = ad352 := (by injection e352)
          replace hx352_0 := hxc HB hx352_0
          replace hx352_1 := hxc HB hx352_1
          replace hx352_2 := hxc HB hx352_2
          replace hx352_3 := hxc HB hx352_3
          replace hx352_4 := hxc HB hx352_4
          replace hx352_5 := hxc HB hx352_5
          replace hx352_6 := hxc HB hx352_6
          replace p352 := eq_true p352
          replace q352 := eq_true q352
          obtain ⟨hcz19_0, hcz19_1, hcz19_2, hcz19_3, hcz19_4, hcz19_5, hcz19_6, hfz19_0, hfz19_1, hfz19_2, hfz19_3, hfz19_4, hfz19_5, hfz19_6⟩ := cz7 BK350
          go_wp2
          repeat (go_quiet (fail); try go_wp2)
          go_ret
          exact ⟨erf, bb HB⟩
         ·rw [if_neg c16] at H
          have c16b0 : (((rd_T71 l0_1 x6_1).f0).toList == ((rd_T71 l0_1 a1).f0).toList) = false := beq_eq_false_iff_ne.mpr c16
          have c16b1 : (((rd_T71 l0_1 x6_1).f0).toList != ((rd_T71 l0_1 a1).f0).toList) = true := bne_iff_ne.mpr c16
          have H' := Aside0.mk H
          clear H
          have hnb20 := NB348_350.out
          have hnc20 := NB350_348.out
          obtain ⟨hcz21_0, hcz21_1, hfz21_0, hfz21_1⟩ := cz2 BK348
          have p352 : 0 ≤ x6_1 := odt
          have q352 : x6_1 < (l0_1.length : Int) := odt
          obtain ⟨ad352, e352, hx352_0, hx352_1, hx352_2, hx352_3, hx352_4, hx352_5, hx352_6⟩ := at_T71 HR0_1.out x6_1 p352 q352
          obtain rfl : ad349 = ad352 := (by injection e352)
          replace hx352_0 := hxc HB hx352_0
          replace hx352_1 := hxc HB hx352_1
          replace hx352_2 := hxc HB hx352_2
          replace hx352_3 := hxc HB hx352_3
          replace hx352_4 := hxc HB hx352_4
          replace hx352_5 := hxc HB hx352_5
          replace hx352_6 := hxc HB hx352_6
          replace p352 := eq_true p352
          replace q352 := eq_true q352
          obtain ⟨hcz22_0, hcz22_1, hcz22_2, hcz22_3, hcz22_4, hcz22_5, hcz22_6, hfz22_0, hfz22_1, hfz22_2, hfz22_3, hfz22_4, hfz22_5, hfz22_6⟩ := cz7 BK350
          go_wp2
          repeat (go_quiet (fail); try go_wp2)
          go_roundg k1
          case measure => have := HK1.out; omega
          case rel => exact ⟨(wrap64 (x6_1 + 1)), eqs, H', ⟨by have := HK1.out; omega⟩, ⟨bk BK348⟩, ⟨bk BK350⟩, ⟨bb HB⟩⟩
        ·rw [if_neg c15] at H
         exact absurd H (by simp)
       ·rw [if_neg c14] at H
        exact absurd H (by simp)
      ·rw [if_neg c13] at H
       have c13b0 : decide (x6_1 < a1) = false := decide_eq_false c13
       clear c13
       replace H := Option.bind_eq_some_iff.mp H
       obtain ⟨t353, A230, H⟩ := H
       replace H : (if t353 = true then ((q4_in.f ((rd_T71 l0_1 a1).f2) 0 (wrap64 ((l0_0.length : Int) - 1))).bind fun t354 => (if t354 = true then ((q4_bound.f ((rd_T71 l0_1 a1).f3) ((rd_T71 l0_1 a1).f4)).bind fun t355 => (if t355 = true then ((q4_bound.f ((rd_T71 l0_1 a1).f5) ((rd_T71 l0_1 a1).f6)).bind fun t356 => (if t356 = true then (some 0) else (some 6))) else (some 6))) else (some 6))) else (some 6)) = some r := H
       have A23 := Aside0.mk A230
       clear A230
       by_cases c24 : t353 = true
       ·subst c24
        replace H := ift H
        replace H := Option.bind_eq_some_iff.mp H
        obtain ⟨t354, A250, H⟩ := H
        replace H : (if t354 = true then ((q4_bound.f ((rd_T71 l0_1 a1).f3) ((rd_T71 l0_1 a1).f4)).bind fun t355 => (if t355 = true then ((q4_bound.f ((rd_T71 l0_1 a1).f5) ((rd_T71 l0_1 a1).f6)).bind fun t356 => (if t356 = true then (some 0) else (some 6))) else (some 6))) else (some 6)) = some r := H
        have A25 := Aside0.mk A250
        clear A250
        by_cases c26 : t354 = true
        ·subst c26
         replace H := ift H
         replace H := Option.bind_eq_some_iff.mp H
         obtain ⟨t355, A270, H⟩ := H
         replace H : (if t355 = true then ((q4_bound.f ((rd_T71 l0_1 a1).f5) ((rd_T71 l0_1 a1).f6)).bind fun t356 => (if t356 = true then (some 0) else (some 6))) else (some 6)) = some r := H
         have A27 := Aside0.mk A270
         clear A270
         by_cases c28 : t355 = true
         ·subst c28
          replace H := ift H
          replace H := Option.bind_eq_some_iff.mp H
          obtain ⟨t356, A290, H⟩ := H
          replace H : (if t356 = true then (some 0) else (some 6)) = some r := H
          have A29 := Aside0.mk A290
          clear A290
          by_cases c30 : t356 = true
          ·subst c30
           replace H := ift H
           obtain rfl := Option.some.inj H
           have hnb31 := NB348_350.out
           have hnc31 := NB350_348.out
           obtain ⟨hcz32_0, hcz32_1, hfz32_0, hfz32_1⟩ := cz2 BK348
           obtain ⟨hcz33_0, hcz33_1, hcz33_2, hcz33_3, hcz33_4, hcz33_5, hcz33_6, hfz33_0, hfz33_1, hfz33_2, hfz33_3, hfz33_4, hfz33_5, hfz33_6⟩ := cz7 BK350
           go_wp2_with (first | (go_at_call 47; (with_reducible refine (q4_in.calls ((rd_T71 l0_1 a1).f1) 0 (wrap64 ((l0_0.length : Int) - 1)) true _ A23.out).mono ?_); rintro e w' ⟨rfl, ⟨nd, rfl⟩⟩; (try first | exact ⟨rfl, _, World.drewN_drewN _ _ _⟩ | exact ⟨rfl, _, Eq.trans (World.drewN_drewN _ _ _) (congrArg (World.drewN _) (Nat.add_assoc _ _ _))⟩)) | (go_at_call 47; (with_reducible refine (q4_in.calls ((rd_T71 l0_1 a1).f2) 0 (wrap64 ((l0_0.length : Int) - 1)) true _ A25.out).mono ?_); rintro e w' ⟨rfl, ⟨nd, rfl⟩⟩; (try first | exact ⟨rfl, _, World.drewN_drewN _ _ _⟩ | exact ⟨rfl, _, Eq.trans (World.drewN_drewN _ _ _) (congrArg (World.drewN _) (Nat.add_assoc _ _ _))⟩)) | (go_at_call 69; (with_reducible refine (q4_bound.calls ((rd_T71 l0_1 a1).f3) ((rd_T71 l0_1 a1).f4) true _ A27.out).mono ?_); rintro e w' ⟨rfl, ⟨nd, rfl⟩⟩; (try first | exact ⟨rfl, _, World.drewN_drewN _ _ _⟩ | exact ⟨rfl, _, Eq.trans (World.drewN_drewN _ _ _) (congrArg (World.drewN _) (Nat.add_assoc _ _ _))⟩)) | (go_at_call 69; (with_reducible refine (q4_bound.calls ((rd_T71 l0_1 a1).f5) ((rd_T71 l0_1 a1).f6) true _ A29.out).mono ?_); rintro e w' ⟨rfl, ⟨nd, rfl⟩⟩; (try first | exact ⟨rfl, _, World.drewN_drewN _ _ _⟩ | exact ⟨rfl, _, Eq.trans (World.drewN_drewN _ _ _) (congrArg (World.drewN _) (Nat.add_assoc _ _ _))⟩)))
           repeat (go_quiet (fail); try go_wp2_with (fail))
           go_ret
           exact ⟨erf, bb HB⟩
          ·replace c30 := Bool.eq_false_iff.mpr c30
           subst c30
           replace H := iff_ H
           obtain rfl := Option.some.inj H
           have hnb34 := NB348_350.out
           have hnc34 := NB350_348.out
           obtain ⟨hcz35_0, hcz35_1, hfz35_0, hfz35_1⟩ := cz2 BK348
           obtain ⟨hcz36_0, hcz36_1, hcz36_2, hcz36_3, hcz36_4, hcz36_5, hcz36_6, hfz36_0, hfz36_1, hfz36_2, hfz36_3, hfz36_4, hfz36_5, hfz36_6⟩ := cz7 BK350
           go_wp2_with (first | (go_at_call 47; (with_reducible refine (q4_in.calls ((rd_T71 l0_1 a1).f1) 0 (wrap64 ((l0_0.length : Int) - 1)) true _ A23.out).mono ?_); rintro e w' ⟨rfl, ⟨nd, rfl⟩⟩; (try first | exact ⟨rfl, _, World.drewN_drewN _ _ _⟩ | exact ⟨rfl, _, Eq.trans (World.drewN_drewN _ _ _) (congrArg (World.drewN _) (Nat.add_assoc _ _ _))⟩)) | (go_at_call 47; (with_reducible refine (q4_in.calls ((rd_T71 l0_1 a1).f2) 0 (wrap64 ((l0_0.length : Int) - 1)) true _ A25.out).mono ?_); rintro e w' ⟨rfl, ⟨nd, rfl⟩⟩; (try first | exact ⟨rfl, _, World.drewN_drewN _ _ _⟩ | exact ⟨rfl, _, Eq.trans (World.drewN_drewN _ _ _) (congrArg (World.drewN _) (Nat.add_assoc _ _ _))⟩)) | (go_at_call 69; (with_reducible refine (q4_bound.calls ((rd_T71 l0_1 a1).f3) ((rd_T71 l0_1 a1).f4) true _ A27.out).mono ?_); rintro e w' ⟨rfl, ⟨nd, rfl⟩⟩; (try first | exact ⟨rfl, _, World.drewN_drewN _ _ _⟩ | exact ⟨rfl, _, Eq.trans (World.drewN_drewN _ _ _) (congrArg (World.drewN _) (Nat.add_assoc _ _ _))⟩)) | (go_at_call 69; (with_reducible refine (q4_bound.calls ((rd_T71 l0_1 a1).f5) ((rd_T71 l0_1 a1).f6) false _ A29.out).mono ?_); rintro e w' ⟨rfl, ⟨nd, rfl⟩⟩; (try first | exact ⟨rfl, _, World.drewN_drewN _ _ _⟩ | exact ⟨rfl, _, Eq.trans (World.drewN_drewN _ _ _) (congrArg (World.drewN _) (Nat.add_assoc _ _ _))⟩)))
           repeat (go_quiet (fail); try go_wp2_with (fail))
           go_ret
           exact ⟨erf, bb HB⟩
         ·replace c28 := Bool.eq_false_iff.mpr c28
          subst c28
          replace H := iff_ H
          obtain rfl := Option.some.inj H
          have hnb37 := NB348_350.out
          have hnc37 := NB350_348.out
          obtain ⟨hcz38_0, hcz38_1, hfz38_0, hfz38_1⟩ := cz2 BK348
          obtain ⟨hcz39_0, hcz39_1, hcz39_2, hcz39_3, hcz39_4, hcz39_5, hcz39_6, hfz39_0, hfz39_1, hfz39_2, hfz39_3, hfz39_4, hfz39_5, hfz39_6⟩ := cz7 BK350
          go_wp2_with (first | (go_at_call 47; (with_reducible refine (q4_in.calls ((rd_T71 l0_1 a1).f1) 0 (wrap64 ((l0_0.length : Int) - 1)) true _ A23.out).mono ?_); rintro e w' ⟨rfl, ⟨nd, rfl⟩⟩; (try first | exact ⟨rfl, _, World.drewN_drewN _ _ _⟩ | exact ⟨rfl, _, Eq.trans (World.drewN_drewN _ _ _) (congrArg (World.drewN _) (Nat.add_assoc _ _ _))⟩)) | (go_at_call 47; (with_reducible refine (q4_in.calls ((rd_T71 l0_1 a1).f2) 0 (wrap64 ((l0_0.length : Int) - 1)) true _ A25.out).mono ?_); rintro e w' ⟨rfl, ⟨nd, rfl⟩⟩; (try first | exact ⟨rfl, _, World.drewN_drewN _ _ _⟩ | exact ⟨rfl, _, Eq.trans (World.drewN_drewN _ _ _) (congrArg (World.drewN _) (Nat.add_assoc _ _ _))⟩)) | (go_at_call 69; (with_reducible refine (q4_bound.calls ((rd_T71 l0_1 a1).f3) ((rd_T71 l0_1 a1).f4) false _ A27.out).mono ?_); rintro e w' ⟨rfl, ⟨nd, rfl⟩⟩; (try first | exact ⟨rfl, _, World.drewN_drewN _ _ _⟩ | exact ⟨rfl, _, Eq.trans (World.drewN_drewN _ _ _) (congrArg (World.drewN _) (Nat.add_assoc _ _ _))⟩)))
          repeat (go_quiet (fail); try go_wp2_with (fail))
          go_ret
          exact ⟨erf, bb HB⟩
        ·replace c26 := Bool.eq_false_iff.mpr c26
         subst c26
         replace H := iff_ H
         obtain rfl := Option.some.inj H
         have hnb40 := NB348_350.out
         have hnc40 := NB350_348.out
         obtain ⟨hcz41_0, hcz41_1, hfz41_0, hfz41_1⟩ := cz2 BK348
         obtain ⟨hcz42_0, hcz42_1, hcz42_2, hcz42_3, hcz42_4, hcz42_5, hcz42_6, hfz42_0, hfz42_1, hfz42_2, hfz42_3, hfz42_4, hfz42_5, hfz42_6⟩ := cz7 BK350
         go_wp2_with (first | (go_at_call 47; (with_reducible refine (q4_in.calls ((rd_T71 l0_1 a1).f1) 0 (wrap64 ((l0_0.length : Int) - 1)) true _ A23.out).mono ?_); rintro e w' ⟨rfl, ⟨nd, rfl⟩⟩; (try first | exact ⟨rfl, _, World.drewN_drewN _ _ _⟩ | exact ⟨rfl, _, Eq.trans (World.drewN_drewN _ _ _) (congrArg (World.drewN _) (Nat.add_assoc _ _ _))⟩)) | (go_at_call 47; (with_reducible refine (q4_in.calls ((rd_T71 l0_1 a1).f2) 0 (wrap64 ((l0_0.length : Int) - 1)) false _ A25.out).mono ?_); rintro e w' ⟨rfl, ⟨nd, rfl⟩⟩; (try first | exact ⟨rfl, _, World.drewN_drewN _ _ _⟩ | exact ⟨rfl, _, Eq.trans (World.drewN_drewN _ _ _) (congrArg (World.drewN _) (Nat.add_assoc _ _ _))⟩)))
         repeat (go_quiet (fail); try go_wp2_with (fail))
         go_ret
         exact ⟨erf, bb HB⟩
       ·replace c24 := Bool.eq_false_iff.mpr c24
        subst c24
        replace H := iff_ H
        obtain rfl := Option.some.inj H
        have hnb43 := NB348_350.out
        have hnc43 := NB350_348.out
        obtain ⟨hcz44_0, hcz44_1, hfz44_0, hfz44_1⟩ := cz2 BK348
        obtain ⟨hcz45_0, hcz45_1, hcz45_2, hcz45_3, hcz45_4, hcz45_5, hcz45_6, hfz45_0, hfz45_1, hfz45_2, hfz45_3, hfz45_4, hfz45_5, hfz45_6⟩ := cz7 BK350
        go_wp2_with (go_at_call 47; (with_reducible refine (q4_in.calls ((rd_T71 l0_1 a1).f1) 0 (wrap64 ((l0_0.length : Int) - 1)) false _ A23.out).mono ?_); rintro e w' ⟨rfl, ⟨nd, rfl⟩⟩; (try first | exact ⟨rfl, _, World.drewN_drewN _ _ _⟩ | exact ⟨rfl, _, Eq.trans (World.drewN_drewN _ _ _) (congrArg (World.drewN _) (Nat.add_assoc _ _ _))⟩))
        repeat (go_quiet (fail); try go_wp2_with (fail))
        go_ret
        exact ⟨erf, bb HB⟩
   ·replace c6 := Bool.eq_false_iff.mpr c6
    subst c6
    replace H := iff_ H
    obtain rfl := Option.some.inj H
    go_enter Try.func42, Try.ntmps42
    go_wp2_with (first | ((with_reducible refine gate_dst (N := 2) rfl ?_); refine box_event ?hg (N := 2) ?hd (cs := #[.slice A0_0 l0_0.length c0_0, .slice A0_1 l0_1.length c0_1]) (t := 25) ?hr ?_; (case hd => rfl); (case hg => rfl); (case hr => first | (go_simp; done) | (go_simp; rfl)); intro gb348 hg w46 hbox hb; have BK348 := Aside0.mk (hbox); have GW348 := bsz HB hg; have GE348 := bsz HB hg; replace HB := bstep HB hb; clear hb hbox hg; obtain ⟨hcz47_0, hcz47_1, hfz47_0, hfz47_1⟩ := cz2 BK348; have p349 : 0 ≤ a1 := odt; have q349 : a1 < (l0_1.length : Int) := odt; obtain ⟨ad349, e349, hx349_0, hx349_1, hx349_2, hx349_3, hx349_4, hx349_5, hx349_6⟩ := at_T71 HR0_1.out a1 p349 q349; cases e349; replace hx349_0 := hxc HB hx349_0; replace hx349_1 := hxc HB hx349_1; replace hx349_2 := hxc HB hx349_2; replace hx349_3 := hxc HB hx349_3; replace hx349_4 := hxc HB hx349_4; replace hx349_5 := hxc HB hx349_5; replace hx349_6 := hxc HB hx349_6; replace p349 := eq_true p349; replace q349 := eq_true q349) | ((with_reducible refine gate_dst (N := 5) rfl ?_); refine box_event ?hg (N := 5) ?hd (cs := #[.string (⟨#[]⟩ : ByteArray), .int .i64 0, .int .i64 0, .int .i64 0, .int .i64 0, .int .i64 0, .int .i64 0]) (t := 71) ?hr ?_; (case hd => rfl); (case hg => rfl); (case hr => first | (go_simp; done) | (go_simp; rfl)); intro gb350 hg w48 hbox hb; have BK350 := Aside0.mk (hbox); have GW350 := bsz HB hg; have GE350 := bsz HB hg; replace HB := bstep HB hb; have NB348_350 := blt BK348 hg; have NB350_348 := bgt BK348 hg; replace BK348 := bkb BK348 hb; clear hb hbox hg; have hnb49 := NB350_348.out; have hnc49 := NB348_350.out; obtain ⟨hcz50_0, hcz50_1, hcz50_2, hcz50_3, hcz50_4, hcz50_5, hcz50_6, hfz50_0, hfz50_1, hfz50_2, hfz50_3, hfz50_4, hfz50_5, hfz50_6⟩ := cz7 BK350) | (go_at_call 67; (with_reducible refine (q1_IsName.calls k ((rd_T71 l0_1 a1).f0) false _ A5.out).mono ?_); rintro e w51 ⟨rfl, hb⟩; replace BK348 := Aside0.mk (blk_below (g := gb348) (o := .cells #[.slice A0_0 l0_0.length c0_0, .slice (some ad349) l0_1.length c0_1] 25 (0, 0)) (by (with_reducible repeat (first | refine blk_drewN ?_ _ | refine blk_drew ?_ | refine blk_alloc ?_ _)); refine blk_far ?_ NB348_350.out _; (with_reducible repeat (first | refine blk_drewN ?_ _ | refine blk_drew ?_ | refine blk_alloc ?_ _)); refine blk_far ?_ NB348_350.out _; (with_reducible repeat (first | refine blk_drewN ?_ _ | refine blk_drew ?_ | refine blk_alloc ?_ _)); refine blk_far ?_ NB348_350.out _; (with_reducible repeat (first | refine blk_drewN ?_ _ | refine blk_drew ?_ | refine blk_alloc ?_ _)); refine blk_far ?_ NB348_350.out _; (with_reducible repeat (first | refine blk_drewN ?_ _ | refine blk_drew ?_ | refine blk_alloc ?_ _)); refine blk_far ?_ NB348_350.out _; (with_reducible repeat (first | refine blk_drewN ?_ _ | refine blk_drew ?_ | refine blk_alloc ?_ _)); refine blk_far ?_ NB348_350.out _; (with_reducible repeat (first | refine blk_drewN ?_ _ | refine blk_drew ?_ | refine blk_alloc ?_ _)); refine blk_far ?_ NB348_350.out _; (with_reducible repeat (first | refine blk_drewN ?_ _ | refine blk_drew ?_ | refine blk_alloc ?_ _)); exact BK348.out) hb); replace BK350 := Aside0.mk (blk_below (g := gb350) (o := .cells #[.string ((rd_T71 l0_1 a1).f0), .int .i64 ((rd_T71 l0_1 a1).f1), .int .i64 ((rd_T71 l0_1 a1).f2), .int .i64 ((rd_T71 l0_1 a1).f3), .int .i64 ((rd_T71 l0_1 a1).f4), .int .i64 ((rd_T71 l0_1 a1).f5), .int .i64 ((rd_T71 l0_1 a1).f6)] 71 (0, 0)) (by (with_reducible repeat (first | refine blk_drewN ?_ _ | refine blk_drew ?_ | refine blk_alloc ?_ _)); refine blk_put (cs := #[.string ((rd_T71 l0_1 a1).f0), .int .i64 ((rd_T71 l0_1 a1).f1), .int .i64 ((rd_T71 l0_1 a1).f2), .int .i64 ((rd_T71 l0_1 a1).f3), .int .i64 ((rd_T71 l0_1 a1).f4), .int .i64 ((rd_T71 l0_1 a1).f5), .int .i64 0]) ?_ 6 _ rfl; (with_reducible repeat (first | refine blk_drewN ?_ _ | refine blk_drew ?_ | refine blk_alloc ?_ _)); refine blk_put (cs := #[.string ((rd_T71 l0_1 a1).f0), .int .i64 ((rd_T71 l0_1 a1).f1), .int .i64 ((rd_T71 l0_1 a1).f2), .int .i64 ((rd_T71 l0_1 a1).f3), .int .i64 ((rd_T71 l0_1 a1).f4), .int .i64 0, .int .i64 0]) ?_ 5 _ rfl; (with_reducible repeat (first | refine blk_drewN ?_ _ | refine blk_drew ?_ | refine blk_alloc ?_ _)); refine blk_put (cs := #[.string ((rd_T71 l0_1 a1).f0), .int .i64 ((rd_T71 l0_1 a1).f1), .int .i64 ((rd_T71 l0_1 a1).f2), .int .i64 ((rd_T71 l0_1 a1).f3), .int .i64 0, .int .i64 0, .int .i64 0]) ?_ 4 _ rfl; (with_reducible repeat (first | refine blk_drewN ?_ _ | refine blk_drew ?_ | refine blk_alloc ?_ _)); refine blk_put (cs := #[.string ((rd_T71 l0_1 a1).f0), .int .i64 ((rd_T71 l0_1 a1).f1), .int .i64 ((rd_T71 l0_1 a1).f2), .int .i64 0, .int .i64 0, .int .i64 0, .int .i64 0]) ?_ 3 _ rfl; (with_reducible repeat (first | refine blk_drewN ?_ _ | refine blk_drew ?_ | refine blk_alloc ?_ _)); refine blk_put (cs := #[.string ((rd_T71 l0_1 a1).f0), .int .i64 ((rd_T71 l0_1 a1).f1), .int .i64 0, .int .i64 0, .int .i64 0, .int .i64 0, .int .i64 0]) ?_ 2 _ rfl; (with_reducible repeat (first | refine blk_drewN ?_ _ | refine blk_drew ?_ | refine blk_alloc ?_ _)); refine blk_put (cs := #[.string ((rd_T71 l0_1 a1).f0), .int .i64 0, .int .i64 0, .int .i64 0, .int .i64 0, .int .i64 0, .int .i64 0]) ?_ 1 _ rfl; (with_reducible repeat (first | refine blk_drewN ?_ _ | refine blk_drew ?_ | refine blk_alloc ?_ _)); refine blk_put (cs := #[.string (⟨#[]⟩ : ByteArray), .int .i64 0, .int .i64 0, .int .i64 0, .int .i64 0, .int .i64 0, .int .i64 0]) ?_ 0 _ rfl; (with_reducible repeat (first | refine blk_drewN ?_ _ | refine blk_drew ?_ | refine blk_alloc ?_ _)); exact BK350.out) hb); replace HB := bstep HB hb; (try clear hb); (try clear hb2); (try clear hk); (try clear hi)))
    repeat (go_quiet (fail); try go_wp2_with (fail))
    go_ret
    exact ⟨erf, bb HB⟩
  ·rw [if_neg c4] at H
   exact absurd H (by simp)
 ·rw [if_neg c3] at H
  exact absurd H (by simp)
end Go.Proofs.Ytfpianecohobjaa.P
