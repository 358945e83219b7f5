/- typesOrder_holds, typesBounds_holds, typesInherit_holds: a part of the proof that the law returns true for every input. No condition. -/
import Derived.Test.YtfpianecohobjaaAPx0
import Derived.Test.YtfpianecohobjaaAPx3
import Derived.Test.YtfpianecohobjaaAH0
namespace Go.Proofs.Ytfpianecohobjaa.P
open Go.RowKit Go.Proofs.YtfpianecohobjaaW.PrintWords Go.Proofs.YtfpianecohobjaaW.PrintLast Go.Proofs.YtfpianecohobjaaW.PrintMore
set_option linter.unusedVariables false
set_option linter.unusedSimpArgs false
def types_bounded.f (a0 : Int) (a1 : Int) : Option (Bool) := if a0 ≥ 0 then (if a0 ≤ 40 then (if a1 = (-1) then (some true) else (if a1 ≥ a0 then (some (decide (a1 ≤ 40))) else (some false))) else (some false)) else (some false)
set_option maxHeartbeats 8000000 in
set_option maxRecDepth 100000 in
theorem types_bounded.calls (a0 : Int) (a1 : Int) (r : Bool) (w : World) (h : types_bounded.f a0 a1 = some r) :
  Calls Try.prog 66 #[.int .i64 a0, .int .i64 a1] w fun e w' => e = .returned (.bool r) ∧ Drawn0 w w' := by
 have H : (if a0 ≥ 0 then (if a0 ≤ 40 then (if a1 = (-1) then (some true) else (if a1 ≥ a0 then (some (decide (a1 ≤ 40))) else (some false))) else (some false)) else (some false)) = some r := h
 clear h
 by_cases c3 : a0 ≥ 0
 ·rw [if_pos c3] at H
  have c3b0 : decide (0 ≤ a0) = true := decide_eq_true c3
  clear c3
  by_cases c4 : a0 ≤ 40
  ·rw [if_pos c4] at H
   have c4b0 : decide (a0 ≤ 40) = true := decide_eq_true c4
   clear c4
   by_cases c5 : a1 = (-1)
   ·rw [if_pos c5] at H
    have c5b0 : (a1 == (-1)) = true := beq_iff_eq.mpr c5
    have c5b1 : (a1 != (-1)) = false := bne_eq_false_iff_eq.mpr c5
    clear c5
    obtain rfl := Option.some.inj H
    go_enter Try.func66, Try.ntmps66
    go_wp2
    go_ret
    exact ⟨by first | rfl | (simp; done) | (simp [*]; done), drw⟩
   ·rw [if_neg c5] at H
    have c5b0 : (a1 == (-1)) = false := beq_eq_false_iff_ne.mpr c5
    have c5b1 : (a1 != (-1)) = true := bne_iff_ne.mpr c5
    by_cases c6 : a1 ≥ a0
    ·rw [if_pos c6] at H
     have c6b0 : decide (a0 ≤ a1) = true := decide_eq_true c6
     clear c6
     obtain rfl := Option.some.inj H
     go_enter Try.func66, Try.ntmps66
     go_wp2
     go_ret
     exact ⟨by first | rfl | (simp; done) | (simp [*]; done), drw⟩
    ·rw [if_neg c6] at H
     have c6b0 : decide (a0 ≤ a1) = false := decide_eq_false c6
     clear c6
     obtain rfl := Option.some.inj H
     go_enter Try.func66, Try.ntmps66
     go_wp2
     go_ret
     exact ⟨by first | rfl | (simp; done) | (simp [*]; done), drw⟩
  ·rw [if_neg c4] at H
   have c4b0 : decide (a0 ≤ 40) = false := decide_eq_false c4
   clear c4
   obtain rfl := Option.some.inj H
   go_enter Try.func66, Try.ntmps66
   go_wp2
   go_ret
   exact ⟨by first | rfl | (simp; done) | (simp [*]; done), drw⟩
 ·rw [if_neg c3] at H
  have c3b0 : decide (0 ≤ a0) = false := decide_eq_false c3
  clear c3
  obtain rfl := Option.some.inj H
  go_enter Try.func66, Try.ntmps66
  go_wp2
  go_ret
  exact ⟨by first | rfl | (simp; done) | (simp [*]; done), drw⟩
def types_edge.j0 : Nat → Bool → ByteArray → Int → Int → Int → Int → Int → Int → Option (Int)
 | 0, _, _, _, _, _, _, _, _ => none
 | k + 1, x25, x167000, x167001, x167002, x167003, x167004, x167005, x167006 => if x25 = true then (some 6) else ((types_bounded.f x167003 x167004).bind fun t175 => (if t175 = true then ((types_bounded.f x167005 x167006).bind fun t176 => (if t176 = true then (some 0) else (some 6))) else (some 6)))
def types_edge.f (k : Nat) (l0_0 : List (S68)) (l0_1 : List (S71)) (a1 : Int) : Option (Int) := if 0 ≤ a1 then (if a1 < (l0_1.length : Int) then ((token_IsName.f k ((rd_T71 l0_1 a1).f0)).bind fun t167 => (if t167 = true then (if a1 ≤ (l0_1.length : Int) then ((any_edge.f (l0_1.take (a1 : Int).toNat) ((rd_T71 l0_1 a1).f0)).bind fun t172 => (if t172 = true then (some 5) else ((edge_inside.f ((rd_T71 l0_1 a1).f1) l0_0).bind fun t173 => (if t173 = true then ((edge_inside.f ((rd_T71 l0_1 a1).f2) l0_0).bind fun t174 => (types_edge.j0 k (!t174) ((rd_T71 l0_1 a1).f0) ((rd_T71 l0_1 a1).f1) ((rd_T71 l0_1 a1).f2) ((rd_T71 l0_1 a1).f3) ((rd_T71 l0_1 a1).f4) ((rd_T71 l0_1 a1).f5) ((rd_T71 l0_1 a1).f6))) else (types_edge.j0 k true ((rd_T71 l0_1 a1).f0) ((rd_T71 l0_1 a1).f1) ((rd_T71 l0_1 a1).f2) ((rd_T71 l0_1 a1).f3) ((rd_T71 l0_1 a1).f4) ((rd_T71 l0_1 a1).f5) ((rd_T71 l0_1 a1).f6)))))) else (none)) else (some 2))) else (none)) else (none)
theorem types_edge.mono_l : ∀ k, (∀ y0 y1 y2 y3 y4 y5 y6 y7, LeO (types_edge.j0 k y0 y1 y2 y3 y4 y5 y6 y7) (types_edge.j0 (k + 1) y0 y1 y2 y3 y4 y5 y6 y7))
 | 0 => fun _ _ _ _ _ _ _ _ r h => by simp [types_edge.j0] at h
 | k + 1 => by
  have ih0 := types_edge.mono_l k
  ·intro y0 y1 y2 y3 y4 y5 y6 y7
   unfold types_edge.j0
   repeat' first
   | (with_reducible exact ih0 _ _ _ _ _ _ _ _)
   | (with_reducible exact token_IsName.mono _ _)
   | (with_reducible exact LeO.refl _)
   | (with_reducible exact LeO.none _)
   | (with_reducible refine LeO.ite ?_ ?_)
   | (with_reducible refine LeO.bind ?_ (fun _ => ?_))
   | exact ih0 _ _ _ _ _ _ _ _
   | exact token_IsName.mono _ _
   | exact LeO.none _
   | refine LeO.ite ?_ ?_
   | refine LeO.bind ?_ (fun _ => ?_)
theorem types_edge.mono : ∀ a0 a1 a2 k, LeO (types_edge.f k a0 a1 a2) (types_edge.f (k + 1) a0 a1 a2) := by
 intro a0 a1 a2 k
 have ih0 := types_edge.mono_l k
 unfold types_edge.f
 repeat' first
   | (with_reducible exact ih0 _ _ _ _ _ _ _ _)
   | (with_reducible exact token_IsName.mono _ _)
   | (with_reducible exact LeO.refl _)
   | (with_reducible exact LeO.none _)
   | (with_reducible refine LeO.ite ?_ ?_)
   | (with_reducible refine LeO.bind ?_ (fun _ => ?_))
   | exact ih0 _ _ _ _ _ _ _ _
   | exact token_IsName.mono _ _
   | exact LeO.none _
   | refine LeO.ite ?_ ?_
   | refine LeO.bind ?_ (fun _ => ?_)
set_option maxHeartbeats 8000000 in
set_option maxRecDepth 100000 in
theorem types_edge.calls (k : Nat) (A0_0 : Option Addr) (c0_0 : Nat) (l0_0 : List (S68)) (A0_1 : Option Addr) (c0_1 : Nat) (l0_1 : List (S71)) (a1 : Int) (r : Int) (w : World) (hr0_0 : Kd.C k68 w A0_0 l0_0.length l0_0) (hc0_0 : l0_0.length ≤ c0_0) (hr0_1 : Kd.C k71 w A0_1 l0_1.length l0_1) (hc0_1 : l0_1.length ≤ c0_1) (h : types_edge.f k l0_0 l0_1 a1 = some r) :
  Calls Try.prog 40 #[.agg #[.slice A0_0 l0_0.length c0_0, .slice A0_1 l0_1.length c0_1], .int .i64 a1] w fun e w' => e = .returned (.int .i64 r) ∧ Below w.heap.size w w' := by
 have hu25 := Try.underlying25
 have hu71 := Try.underlying71
 have HR0_0 := Aside0.mk hr0_0
 have HC0_0 := Aside0.mk hc0_0
 clear hr0_0 hc0_0
 have HR0_1 := Aside0.mk hr0_1
 have HC0_1 := Aside0.mk hc0_1
 clear hr0_1 hc0_1
 have HB := Aside0.mk (Below.refl w.heap.size w)
 have H : (if 0 ≤ a1 then (if a1 < (l0_1.length : Int) then ((token_IsName.f k ((rd_T71 l0_1 a1).f0)).bind fun t167 => (if t167 = true then (if a1 ≤ (l0_1.length : Int) then ((any_edge.f (l0_1.take (a1 : Int).toNat) ((rd_T71 l0_1 a1).f0)).bind fun t172 => (if t172 = true then (some 5) else ((edge_inside.f ((rd_T71 l0_1 a1).f1) l0_0).bind fun t173 => (if t173 = true then ((edge_inside.f ((rd_T71 l0_1 a1).f2) l0_0).bind fun t174 => (types_edge.j0 k (!t174) ((rd_T71 l0_1 a1).f0) ((rd_T71 l0_1 a1).f1) ((rd_T71 l0_1 a1).f2) ((rd_T71 l0_1 a1).f3) ((rd_T71 l0_1 a1).f4) ((rd_T71 l0_1 a1).f5) ((rd_T71 l0_1 a1).f6))) else (types_edge.j0 k true ((rd_T71 l0_1 a1).f0) ((rd_T71 l0_1 a1).f1) ((rd_T71 l0_1 a1).f2) ((rd_T71 l0_1 a1).f3) ((rd_T71 l0_1 a1).f4) ((rd_T71 l0_1 a1).f5) ((rd_T71 l0_1 a1).f6)))))) else (none)) else (some 2))) else (none)) else (none)) = some r := h
 clear h
 by_cases c3 : 0 ≤ a1
 ·rw [if_pos c3] at H
  have c3b0 : decide (0 ≤ a1) = true := decide_eq_true c3
  clear c3
  by_cases c4 : a1 < (l0_1.length : Int)
  ·rw [if_pos c4] at H
   have c4b0 : decide (a1 < (l0_1.length : Int)) = true := decide_eq_true c4
   clear c4
   replace H := Option.bind_eq_some_iff.mp H
   obtain ⟨t167, A50, H⟩ := H
   replace H : (if t167 = true then (if a1 ≤ (l0_1.length : Int) then ((any_edge.f (l0_1.take (a1 : Int).toNat) ((rd_T71 l0_1 a1).f0)).bind fun t172 => (if t172 = true then (some 5) else ((edge_inside.f ((rd_T71 l0_1 a1).f1) l0_0).bind fun t173 => (if t173 = true then ((edge_inside.f ((rd_T71 l0_1 a1).f2) l0_0).bind fun t174 => (types_edge.j0 k (!t174) ((rd_T71 l0_1 a1).f0) ((rd_T71 l0_1 a1).f1) ((rd_T71 l0_1 a1).f2) ((rd_T71 l0_1 a1).f3) ((rd_T71 l0_1 a1).f4) ((rd_T71 l0_1 a1).f5) ((rd_T71 l0_1 a1).f6))) else (types_edge.j0 k true ((rd_T71 l0_1 a1).f0) ((rd_T71 l0_1 a1).f1) ((rd_T71 l0_1 a1).f2) ((rd_T71 l0_1 a1).f3) ((rd_T71 l0_1 a1).f4) ((rd_T71 l0_1 a1).f5) ((rd_T71 l0_1 a1).f6)))))) else (none)) else (some 2)) = some r := H
   have A5 := Aside0.mk A50
   clear A50
   by_cases c6 : t167 = true
   ·subst c6
    replace H := ift H
    have c7b0 := eq_true (odt : 0 ≤ a1)
    by_cases c8 : a1 ≤ (l0_1.length : Int)
    ·rw [if_pos c8] at H
     have c8b0 := eq_true c8
     have c8b1 : decide (a1 ≤ (l0_1.length : Int)) = true := decide_eq_true c8
     clear c8
     obtain ⟨y168, hy168⟩ : ∃ y_ : List (S71), y_ = (l0_1.take (a1 : Int).toNat) := ⟨_, rfl⟩
     replace H : ((any_edge.f y168 ((rd_T71 l0_1 a1).f0)).bind fun t172 => (if t172 = true then (some 5) else ((edge_inside.f ((rd_T71 l0_1 a1).f1) l0_0).bind fun t173 => (if t173 = true then ((edge_inside.f ((rd_T71 l0_1 a1).f2) l0_0).bind fun t174 => (types_edge.j0 k (!t174) ((rd_T71 l0_1 a1).f0) ((rd_T71 l0_1 a1).f1) ((rd_T71 l0_1 a1).f2) ((rd_T71 l0_1 a1).f3) ((rd_T71 l0_1 a1).f4) ((rd_T71 l0_1 a1).f5) ((rd_T71 l0_1 a1).f6))) else (types_edge.j0 k true ((rd_T71 l0_1 a1).f0) ((rd_T71 l0_1 a1).f1) ((rd_T71 l0_1 a1).f2) ((rd_T71 l0_1 a1).f3) ((rd_T71 l0_1 a1).f4) ((rd_T71 l0_1 a1).f5) ((rd_T71 l0_1 a1).f6)))))) = some r := by first | (rw [hy168]; with_reducible exact H) | (have H2_ := (Option.bind_some _ _).symm.trans H; rw [hy168]; with_reducible exact H2_) | (have H2_ := (Option.bind_some _ _).symm.trans H; with_reducible exact H2_) | with_reducible exact H | (rw [hy168]; exact H) | exact H
     have Ny168 := Aside0.mk hy168
     clear hy168
     replace H := Option.bind_eq_some_iff.mp H
     obtain ⟨t172, A90, H⟩ := H
     replace H : (if t172 = true then (some 5) else ((edge_inside.f ((rd_T71 l0_1 a1).f1) l0_0).bind fun t173 => (if t173 = true then ((edge_inside.f ((rd_T71 l0_1 a1).f2) l0_0).bind fun t174 => (types_edge.j0 k (!t174) ((rd_T71 l0_1 a1).f0) ((rd_T71 l0_1 a1).f1) ((rd_T71 l0_1 a1).f2) ((rd_T71 l0_1 a1).f3) ((rd_T71 l0_1 a1).f4) ((rd_T71 l0_1 a1).f5) ((rd_T71 l0_1 a1).f6))) else (types_edge.j0 k true ((rd_T71 l0_1 a1).f0) ((rd_T71 l0_1 a1).f1) ((rd_T71 l0_1 a1).f2) ((rd_T71 l0_1 a1).f3) ((rd_T71 l0_1 a1).f4) ((rd_T71 l0_1 a1).f5) ((rd_T71 l0_1 a1).f6))))) = some r := H
     have A9 := Aside0.mk A90
     clear A90
     by_cases c10 : t172 = true
     ·subst c10
      replace H := ift H
      obtain rfl := Option.some.inj H
      go_enter Try.func40, Try.ntmps40
      go_wp2_with (first | ((with_reducible refine gate_dst (N := 2) rfl ?_); refine box_event ?hg (N := 2) ?hd (cs := #[.slice A0_0 l0_0.length c0_0, .slice A0_1 l0_1.length c0_1]) (t := 25) ?hr ?_; (case hd => rfl); (case hg => rfl); (case hr => first | (go_simp; done) | (go_simp; rfl)); intro gb164 hg w11 hbox hb; have BK164 := Aside0.mk (hbox); have GW164 := bsz HB hg; have GE164 := bsz HB hg; replace HB := bstep HB hb; clear hb hbox hg; obtain ⟨hcz12_0, hcz12_1, hfz12_0, hfz12_1⟩ := cz2 BK164; have p165 : 0 ≤ a1 := odt; have q165 : a1 < (l0_1.length : Int) := odt; obtain ⟨ad165, e165, hx165_0, hx165_1, hx165_2, hx165_3, hx165_4, hx165_5, hx165_6⟩ := at_T71 HR0_1.out a1 p165 q165; cases e165; replace hx165_0 := hxc HB hx165_0; replace hx165_1 := hxc HB hx165_1; replace hx165_2 := hxc HB hx165_2; replace hx165_3 := hxc HB hx165_3; replace hx165_4 := hxc HB hx165_4; replace hx165_5 := hxc HB hx165_5; replace hx165_6 := hxc HB hx165_6; replace p165 := eq_true p165; replace q165 := eq_true q165) | ((with_reducible refine gate_dst (N := 5) rfl ?_); refine box_event ?hg (N := 5) ?hd (cs := #[.string (⟨#[]⟩ : ByteArray), .int .i64 0, .int .i64 0, .int .i64 0, .int .i64 0, .int .i64 0, .int .i64 0]) (t := 71) ?hr ?_; (case hd => rfl); (case hg => rfl); (case hr => first | (go_simp; done) | (go_simp; rfl)); intro gb166 hg w13 hbox hb; have BK166 := Aside0.mk (hbox); have GW166 := bsz HB hg; have GE166 := bsz HB hg; replace HB := bstep HB hb; have NB164_166 := blt BK164 hg; have NB166_164 := bgt BK164 hg; replace BK164 := bkb BK164 hb; clear hb hbox hg; have hnb14 := NB166_164.out; have hnc14 := NB164_166.out; obtain ⟨hcz15_0, hcz15_1, hcz15_2, hcz15_3, hcz15_4, hcz15_5, hcz15_6, hfz15_0, hfz15_1, hfz15_2, hfz15_3, hfz15_4, hfz15_5, hfz15_6⟩ := cz7 BK166) | ((with_reducible refine gate_callee (f := 59) rfl ?_); refine gl 16 Try.func59 #[.string ((rd_T71 l0_1 a1).f0)] (h := ?_); (with_reducible refine (token_IsName.calls k ((rd_T71 l0_1 a1).f0) true _ A5.out).mono ?_); rintro e w16 ⟨rfl, hb⟩; refine ⟨_, rfl, ?_⟩; replace BK164 := Aside0.mk (blk_below (g := gb164) (o := .cells #[.slice A0_0 l0_0.length c0_0, .slice (some ad165) l0_1.length c0_1] 25 (0, 0)) (by (with_reducible repeat (first | refine blk_drewN ?_ _ | refine blk_drew ?_ | refine blk_alloc ?_ _)); refine blk_far ?_ NB164_166.out _; (with_reducible repeat (first | refine blk_drewN ?_ _ | refine blk_drew ?_ | refine blk_alloc ?_ _)); refine blk_far ?_ NB164_166.out _; (with_reducible repeat (first | refine blk_drewN ?_ _ | refine blk_drew ?_ | refine blk_alloc ?_ _)); refine blk_far ?_ NB164_166.out _; (with_reducible repeat (first | refine blk_drewN ?_ _ | refine blk_drew ?_ | refine blk_alloc ?_ _)); refine blk_far ?_ NB164_166.out _; (with_reducible repeat (first | refine blk_drewN ?_ _ | refine blk_drew ?_ | refine blk_alloc ?_ _)); refine blk_far ?_ NB164_166.out _; (with_reducible repeat (first | refine blk_drewN ?_ _ | refine blk_drew ?_ | refine blk_alloc ?_ _)); refine blk_far ?_ NB164_166.out _; (with_reducible repeat (first | refine blk_drewN ?_ _ | refine blk_drew ?_ | refine blk_alloc ?_ _)); refine blk_far ?_ NB164_166.out _; (with_reducible repeat (first | refine blk_drewN ?_ _ | refine blk_drew ?_ | refine blk_alloc ?_ _)); exact BK164.out) hb); replace BK166 := Aside0.mk (blk_below (g := gb166) (o := .cells #[.string ((rd_T71 l0_1 a1).f0), .int .i64 ((rd_T71 l0_1 a1).f1), .int .i64 ((rd_T71 l0_1 a1).f2), .int .i64 ((rd_T71 l0_1 a1).f3), .int .i64 ((rd_T71 l0_1 a1).f4), .int .i64 ((rd_T71 l0_1 a1).f5), .int .i64 ((rd_T71 l0_1 a1).f6)] 71 (0, 0)) (by (with_reducible repeat (first | refine blk_drewN ?_ _ | refine blk_drew ?_ | refine blk_alloc ?_ _)); refine blk_put (cs := #[.string ((rd_T71 l0_1 a1).f0), .int .i64 ((rd_T71 l0_1 a1).f1), .int .i64 ((rd_T71 l0_1 a1).f2), .int .i64 ((rd_T71 l0_1 a1).f3), .int .i64 ((rd_T71 l0_1 a1).f4), .int .i64 ((rd_T71 l0_1 a1).f5), .int .i64 0]) ?_ 6 _ rfl; (with_reducible repeat (first | refine blk_drewN ?_ _ | refine blk_drew ?_ | refine blk_alloc ?_ _)); refine blk_put (cs := #[.string ((rd_T71 l0_1 a1).f0), .int .i64 ((rd_T71 l0_1 a1).f1), .int .i64 ((rd_T71 l0_1 a1).f2), .int .i64 ((rd_T71 l0_1 a1).f3), .int .i64 ((rd_T71 l0_1 a1).f4), .int .i64 0, .int .i64 0]) ?_ 5 _ rfl; (with_reducible repeat (first | refine blk_drewN ?_ _ | refine blk_drew ?_ | refine blk_alloc ?_ _)); refine blk_put (cs := #[.string ((rd_T71 l0_1 a1).f0), .int .i64 ((rd_T71 l0_1 a1).f1), .int .i64 ((rd_T71 l0_1 a1).f2), .int .i64 ((rd_T71 l0_1 a1).f3), .int .i64 0, .int .i64 0, .int .i64 0]) ?_ 4 _ rfl; (with_reducible repeat (first | refine blk_drewN ?_ _ | refine blk_drew ?_ | refine blk_alloc ?_ _)); refine blk_put (cs := #[.string ((rd_T71 l0_1 a1).f0), .int .i64 ((rd_T71 l0_1 a1).f1), .int .i64 ((rd_T71 l0_1 a1).f2), .int .i64 0, .int .i64 0, .int .i64 0, .int .i64 0]) ?_ 3 _ rfl; (with_reducible repeat (first | refine blk_drewN ?_ _ | refine blk_drew ?_ | refine blk_alloc ?_ _)); refine blk_put (cs := #[.string ((rd_T71 l0_1 a1).f0), .int .i64 ((rd_T71 l0_1 a1).f1), .int .i64 0, .int .i64 0, .int .i64 0, .int .i64 0, .int .i64 0]) ?_ 2 _ rfl; (with_reducible repeat (first | refine blk_drewN ?_ _ | refine blk_drew ?_ | refine blk_alloc ?_ _)); refine blk_put (cs := #[.string ((rd_T71 l0_1 a1).f0), .int .i64 0, .int .i64 0, .int .i64 0, .int .i64 0, .int .i64 0, .int .i64 0]) ?_ 1 _ rfl; (with_reducible repeat (first | refine blk_drewN ?_ _ | refine blk_drew ?_ | refine blk_alloc ?_ _)); refine blk_put (cs := #[.string (⟨#[]⟩ : ByteArray), .int .i64 0, .int .i64 0, .int .i64 0, .int .i64 0, .int .i64 0, .int .i64 0]) ?_ 0 _ rfl; (with_reducible repeat (first | refine blk_drewN ?_ _ | refine blk_drew ?_ | refine blk_alloc ?_ _)); exact BK166.out) hb); replace HB := bstep HB hb; (try clear hb); (try clear hb2); (try clear hk); (try clear hi); obtain ⟨hcz17_0, hcz17_1, hfz17_0, hfz17_1⟩ := cz2 BK164; have q18 : (a1 : Int) ≤ ((l0_1.length : Int) : Int) := odt; obtain ⟨i018, hi018, _, hsz18, _⟩ := info_parts info71; have hroom18 : l0_1.length ≤ c0_1 := HC0_1.out; have hC18 : Kd.C k71 _ (some ad165) l0_1.length l0_1 := HR0_1.out; have hcut18 := cut_to (P := Try.prog) 23 71 .i64 Try.underlying23 hi018 (some ad165) l0_1.length c0_1 a1 (odt) q18 hroom18; have hr18 := Kd.C_take (m := (a1 : Int).toNat) hC18 (by omega); have hy18 : y168.length = (a1 : Int).toNat := (by rw [Ny168.out, List.length_take]; omega); rw [← Ny168.out] at hr18; rw [← hy18] at hcut18; have HR171 := Aside0.mk hr18; have HC171 := Aside0.mk (show y168.length ≤ c0_1 from by omega); clear hr18 hC18 hroom18 hi018 hsz18; have KY18 := Aside0.mk hy18; clear hy18; replace q18 := eq_true q18) | ((with_reducible refine gate_callee (f := 64) rfl ?_); refine gl 24 Try.func64 #[.slice (some ad165) y168.length c0_1, .func (.func 65) #[] #[.pointer (some ⟨gb166, 0, none⟩)]] (h := ?_); (with_reducible refine (any_edge.calls _ _ y168 gb166 ((rd_T71 l0_1 a1).f0) (.int .i64 ((rd_T71 l0_1 a1).f1)) (.int .i64 ((rd_T71 l0_1 a1).f2)) (.int .i64 ((rd_T71 l0_1 a1).f3)) (.int .i64 ((rd_T71 l0_1 a1).f4)) (.int .i64 ((rd_T71 l0_1 a1).f5)) (.int .i64 ((rd_T71 l0_1 a1).f6)) true _ ?side1 ?side2 ?side3 A9.out).mono ?_); (case side1 => exact cb HR171 HB); (case side2 => exact HC171.out); (case side3 => exact (bk BK166)); rintro e w19 ⟨rfl, hb⟩; refine ⟨_, rfl, ?_⟩; replace BK164 := bkb BK164 hb; replace BK166 := bkb BK166 hb; replace HB := bstep HB hb; (try clear hb); (try clear hb2); (try clear hk); (try clear hi)))
      go_ret
      exact ⟨erf, bb HB⟩
     ·replace c10 := Bool.eq_false_iff.mpr c10
      subst c10
      replace H := iff_ H
      have HC20 := Aside0.mk H
      clear H
      go_enter Try.func40, Try.ntmps40
      go_upto_region 7 with (first | ((with_reducible refine gate_dst (N := 2) rfl ?_); refine box_event ?hg (N := 2) ?hd (cs := #[.slice A0_0 l0_0.length c0_0, .slice A0_1 l0_1.length c0_1]) (t := 25) ?hr ?_; (case hd => rfl); (case hg => rfl); (case hr => first | (go_simp; done) | (go_simp; rfl)); intro gb164 hg w21 hbox hb; have BK164 := Aside0.mk (hbox); have GW164 := bsz HB hg; have GE164 := bsz HB hg; replace HB := bstep HB hb; clear hb hbox hg; obtain ⟨hcz22_0, hcz22_1, hfz22_0, hfz22_1⟩ := cz2 BK164; have p165 : 0 ≤ a1 := odt; have q165 : a1 < (l0_1.length : Int) := odt; obtain ⟨ad165, e165, hx165_0, hx165_1, hx165_2, hx165_3, hx165_4, hx165_5, hx165_6⟩ := at_T71 HR0_1.out a1 p165 q165; cases e165; replace hx165_0 := hxc HB hx165_0; replace hx165_1 := hxc HB hx165_1; replace hx165_2 := hxc HB hx165_2; replace hx165_3 := hxc HB hx165_3; replace hx165_4 := hxc HB hx165_4; replace hx165_5 := hxc HB hx165_5; replace hx165_6 := hxc HB hx165_6; replace p165 := eq_true p165; replace q165 := eq_true q165) | ((with_reducible refine gate_dst (N := 5) rfl ?_); refine box_event ?hg (N := 5) ?hd (cs := #[.string (⟨#[]⟩ : ByteArray), .int .i64 0, .int .i64 0, .int .i64 0, .int .i64 0, .int .i64 0, .int .i64 0]) (t := 71) ?hr ?_; (case hd => rfl); (case hg => rfl); (case hr => first | (go_simp; done) | (go_simp; rfl)); intro gb166 hg w23 hbox hb; have BK166 := Aside0.mk (hbox); have GW166 := bsz HB hg; have GE166 := bsz HB hg; replace HB := bstep HB hb; have NB164_166 := blt BK164 hg; have NB166_164 := bgt BK164 hg; replace BK164 := bkb BK164 hb; clear hb hbox hg; have hnb24 := NB166_164.out; have hnc24 := NB164_166.out; obtain ⟨hcz25_0, hcz25_1, hcz25_2, hcz25_3, hcz25_4, hcz25_5, hcz25_6, hfz25_0, hfz25_1, hfz25_2, hfz25_3, hfz25_4, hfz25_5, hfz25_6⟩ := cz7 BK166) | ((with_reducible refine gate_callee (f := 59) rfl ?_); refine gl 16 Try.func59 #[.string ((rd_T71 l0_1 a1).f0)] (h := ?_); (with_reducible refine (token_IsName.calls k ((rd_T71 l0_1 a1).f0) true _ A5.out).mono ?_); rintro e w26 ⟨rfl, hb⟩; refine ⟨_, rfl, ?_⟩; replace BK164 := Aside0.mk (blk_below (g := gb164) (o := .cells #[.slice A0_0 l0_0.length c0_0, .slice (some ad165) l0_1.length c0_1] 25 (0, 0)) (by (with_reducible repeat (first | refine blk_drewN ?_ _ | refine blk_drew ?_ | refine blk_alloc ?_ _)); refine blk_far ?_ NB164_166.out _; (with_reducible repeat (first | refine blk_drewN ?_ _ | refine blk_drew ?_ | refine blk_alloc ?_ _)); refine blk_far ?_ NB164_166.out _; (with_reducible repeat (first | refine blk_drewN ?_ _ | refine blk_drew ?_ | refine blk_alloc ?_ _)); refine blk_far ?_ NB164_166.out _; (with_reducible repeat (first | refine blk_drewN ?_ _ | refine blk_drew ?_ | refine blk_alloc ?_ _)); refine blk_far ?_ NB164_166.out _; (with_reducible repeat (first | refine blk_drewN ?_ _ | refine blk_drew ?_ | refine blk_alloc ?_ _)); refine blk_far ?_ NB164_166.out _; (with_reducible repeat (first | refine blk_drewN ?_ _ | refine blk_drew ?_ | refine blk_alloc ?_ _)); refine blk_far ?_ NB164_166.out _; (with_reducible repeat (first | refine blk_drewN ?_ _ | refine blk_drew ?_ | refine blk_alloc ?_ _)); refine blk_far ?_ NB164_166.out _; (with_reducible repeat (first | refine blk_drewN ?_ _ | refine blk_drew ?_ | refine blk_alloc ?_ _)); exact BK164.out) hb); replace BK166 := Aside0.mk (blk_below (g := gb166) (o := .cells #[.string ((rd_T71 l0_1 a1).f0), .int .i64 ((rd_T71 l0_1 a1).f1), .int .i64 ((rd_T71 l0_1 a1).f2), .int .i64 ((rd_T71 l0_1 a1).f3), .int .i64 ((rd_T71 l0_1 a1).f4), .int .i64 ((rd_T71 l0_1 a1).f5), .int .i64 ((rd_T71 l0_1 a1).f6)] 71 (0, 0)) (by (with_reducible repeat (first | refine blk_drewN ?_ _ | refine blk_drew ?_ | refine blk_alloc ?_ _)); refine blk_put (cs := #[.string ((rd_T71 l0_1 a1).f0), .int .i64 ((rd_T71 l0_1 a1).f1), .int .i64 ((rd_T71 l0_1 a1).f2), .int .i64 ((rd_T71 l0_1 a1).f3), .int .i64 ((rd_T71 l0_1 a1).f4), .int .i64 ((rd_T71 l0_1 a1).f5), .int .i64 0]) ?_ 6 _ rfl; (with_reducible repeat (first | refine blk_drewN ?_ _ | refine blk_drew ?_ | refine blk_alloc ?_ _)); refine blk_put (cs := #[.string ((rd_T71 l0_1 a1).f0), .int .i64 ((rd_T71 l0_1 a1).f1), .int .i64 ((rd_T71 l0_1 a1).f2), .int .i64 ((rd_T71 l0_1 a1).f3), .int .i64 ((rd_T71 l0_1 a1).f4), .int .i64 0, .int .i64 0]) ?_ 5 _ rfl; (with_reducible repeat (first | refine blk_drewN ?_ _ | refine blk_drew ?_ | refine blk_alloc ?_ _)); refine blk_put (cs := #[.string ((rd_T71 l0_1 a1).f0), .int .i64 ((rd_T71 l0_1 a1).f1), .int .i64 ((rd_T71 l0_1 a1).f2), .int .i64 ((rd_T71 l0_1 a1).f3), .int .i64 0, .int .i64 0, .int .i64 0]) ?_ 4 _ rfl; (with_reducible repeat (first | refine blk_drewN ?_ _ | refine blk_drew ?_ | refine blk_alloc ?_ _)); refine blk_put (cs := #[.string ((rd_T71 l0_1 a1).f0), .int .i64 ((rd_T71 l0_1 a1).f1), .int .i64 ((rd_T71 l0_1 a1).f2), .int .i64 0, .int .i64 0, .int .i64 0, .int .i64 0]) ?_ 3 _ rfl; (with_reducible repeat (first | refine blk_drewN ?_ _ | refine blk_drew ?_ | refine blk_alloc ?_ _)); refine blk_put (cs := #[.string ((rd_T71 l0_1 a1).f0), .int .i64 ((rd_T71 l0_1 a1).f1), .int .i64 0, .int .i64 0, .int .i64 0, .int .i64 0, .int .i64 0]) ?_ 2 _ rfl; (with_reducible repeat (first | refine blk_drewN ?_ _ | refine blk_drew ?_ | refine blk_alloc ?_ _)); refine blk_put (cs := #[.string ((rd_T71 l0_1 a1).f0), .int .i64 0, .int .i64 0, .int .i64 0, .int .i64 0, .int .i64 0, .int .i64 0]) ?_ 1 _ rfl; (with_reducible repeat (first | refine blk_drewN ?_ _ | refine blk_drew ?_ | refine blk_alloc ?_ _)); refine blk_put (cs := #[.string (⟨#[]⟩ : ByteArray), .int .i64 0, .int .i64 0, .int .i64 0, .int .i64 0, .int .i64 0, .int .i64 0]) ?_ 0 _ rfl; (with_reducible repeat (first | refine blk_drewN ?_ _ | refine blk_drew ?_ | refine blk_alloc ?_ _)); exact BK166.out) hb); replace HB := bstep HB hb; (try clear hb); (try clear hb2); (try clear hk); (try clear hi); obtain ⟨hcz27_0, hcz27_1, hfz27_0, hfz27_1⟩ := cz2 BK164; have q28 : (a1 : Int) ≤ ((l0_1.length : Int) : Int) := odt; obtain ⟨i028, hi028, _, hsz28, _⟩ := info_parts info71; have hroom28 : l0_1.length ≤ c0_1 := HC0_1.out; have hC28 : Kd.C k71 _ (some ad165) l0_1.length l0_1 := HR0_1.out; have hcut28 := cut_to (P := Try.prog) 23 71 .i64 Try.underlying23 hi028 (some ad165) l0_1.length c0_1 a1 (odt) q28 hroom28; have hr28 := Kd.C_take (m := (a1 : Int).toNat) hC28 (by omega); have hy28 : y168.length = (a1 : Int).toNat := (by rw [Ny168.out, List.length_take]; omega); rw [← Ny168.out] at hr28; rw [← hy28] at hcut28; have HR171 := Aside0.mk hr28; have HC171 := Aside0.mk (show y168.length ≤ c0_1 from by omega); clear hr28 hC28 hroom28 hi028 hsz28; have KY28 := Aside0.mk hy28; clear hy28; replace q28 := eq_true q28) | ((with_reducible refine gate_callee (f := 64) rfl ?_); refine gl 24 Try.func64 #[.slice (some ad165) y168.length c0_1, .func (.func 65) #[] #[.pointer (some ⟨gb166, 0, none⟩)]] (h := ?_); (with_reducible refine (any_edge.calls _ _ y168 gb166 ((rd_T71 l0_1 a1).f0) (.int .i64 ((rd_T71 l0_1 a1).f1)) (.int .i64 ((rd_T71 l0_1 a1).f2)) (.int .i64 ((rd_T71 l0_1 a1).f3)) (.int .i64 ((rd_T71 l0_1 a1).f4)) (.int .i64 ((rd_T71 l0_1 a1).f5)) (.int .i64 ((rd_T71 l0_1 a1).f6)) false _ ?side1 ?side2 ?side3 A9.out).mono ?_); (case side1 => exact cb HR171 HB); (case side2 => exact HC171.out); (case side3 => exact (bk BK166)); rintro e w29 ⟨rfl, hb⟩; refine ⟨_, rfl, ?_⟩; replace BK164 := bkb BK164 hb; replace BK166 := bkb BK166 hb; replace HB := bstep HB hb; (try clear hb); (try clear hb2); (try clear hk); (try clear hi)))
      (try simp only [Act.put, List.setIfInBounds_toArray, List.set_cons_zero, List.set_cons_succ])
      go_cut [25] (fun v25 wc => ∃ (kq : Nat) (x25_19 : Bool), v25 = .bool x25_19 ∧ Aside0 (types_edge.j0 kq x25_19 ((rd_T71 l0_1 a1).f0) ((rd_T71 l0_1 a1).f1) ((rd_T71 l0_1 a1).f2) ((rd_T71 l0_1 a1).f3) ((rd_T71 l0_1 a1).f4) ((rd_T71 l0_1 a1).f5) ((rd_T71 l0_1 a1).f6) = some r) ∧ Aside0 (kq ≤ k) ∧ Aside0 (wc.heap[gb164]? = some (.cells #[(.slice A0_0 l0_0.length c0_0), (.slice (some ad165) l0_1.length c0_1)] 25 (0, 0))) ∧ Aside0 (wc.heap[gb166]? = some (.cells #[.string ((rd_T71 l0_1 a1).f0), .int .i64 ((rd_T71 l0_1 a1).f1), .int .i64 ((rd_T71 l0_1 a1).f2), .int .i64 ((rd_T71 l0_1 a1).f3), .int .i64 ((rd_T71 l0_1 a1).f4), .int .i64 ((rd_T71 l0_1 a1).f5), .int .i64 ((rd_T71 l0_1 a1).f6)] 71 (0, 0))) ∧ Aside0 (Below w.heap.size w wc))
      case first =>
       have H := HC20.out
       clear HC20
       replace H := Option.bind_eq_some_iff.mp H
       obtain ⟨t173, A300, H⟩ := H
       replace H : (if t173 = true then ((edge_inside.f ((rd_T71 l0_1 a1).f2) l0_0).bind fun t174 => (types_edge.j0 k (!t174) ((rd_T71 l0_1 a1).f0) ((rd_T71 l0_1 a1).f1) ((rd_T71 l0_1 a1).f2) ((rd_T71 l0_1 a1).f3) ((rd_T71 l0_1 a1).f4) ((rd_T71 l0_1 a1).f5) ((rd_T71 l0_1 a1).f6))) else (types_edge.j0 k true ((rd_T71 l0_1 a1).f0) ((rd_T71 l0_1 a1).f1) ((rd_T71 l0_1 a1).f2) ((rd_T71 l0_1 a1).f3) ((rd_T71 l0_1 a1).f4) ((rd_T71 l0_1 a1).f5) ((rd_T71 l0_1 a1).f6))) = some r := H
       have A30 := Aside0.mk A300
       clear A300
       by_cases c31 : t173 = true
       ·subst c31
        replace H := ift H
        replace H := Option.bind_eq_some_iff.mp H
        obtain ⟨t174, A320, H⟩ := H
        replace H : (types_edge.j0 k (!t174) ((rd_T71 l0_1 a1).f0) ((rd_T71 l0_1 a1).f1) ((rd_T71 l0_1 a1).f2) ((rd_T71 l0_1 a1).f3) ((rd_T71 l0_1 a1).f4) ((rd_T71 l0_1 a1).f5) ((rd_T71 l0_1 a1).f6)) = some r := H
        have A32 := Aside0.mk A320
        clear A320
        have H' := Aside0.mk H
        clear H
        have hnb33 := NB166_164.out
        have hnc33 := NB164_166.out
        obtain ⟨hcz34_0, hcz34_1, hcz34_2, hcz34_3, hcz34_4, hcz34_5, hcz34_6, hfz34_0, hfz34_1, hfz34_2, hfz34_3, hfz34_4, hfz34_5, hfz34_6⟩ := cz7 BK166
        go_wp2_with (first | (go_at_call 63; (with_reducible refine (edge_inside.calls ((rd_T71 l0_1 a1).f1) gb164 A0_0 c0_0 l0_0 (.slice (some ad165) l0_1.length c0_1) true _ ?side1 A30.out).mono ?_); (case side1 => exact (bk BK164)); rintro e w' ⟨rfl, ⟨nd, rfl⟩⟩) | (go_at_call 63; (with_reducible refine (edge_inside.calls ((rd_T71 l0_1 a1).f2) gb164 A0_0 c0_0 l0_0 (.slice (some ad165) l0_1.length c0_1) t174 _ ?side1 A32.out).mono ?_); (case side1 => exact (bk BK164)); rintro e w' ⟨rfl, ⟨nd, rfl⟩⟩))
        go_meet
        case rel => exact ⟨_, (!t174), eqs, H', ⟨by first | omega | exact Nat.le_refl _⟩, ⟨bk BK164⟩, ⟨bk BK166⟩, ⟨bb HB⟩⟩
       ·replace c31 := Bool.eq_false_iff.mpr c31
        subst c31
        replace H := iff_ H
        have H' := Aside0.mk H
        clear H
        have hnb35 := NB166_164.out
        have hnc35 := NB164_166.out
        obtain ⟨hcz36_0, hcz36_1, hcz36_2, hcz36_3, hcz36_4, hcz36_5, hcz36_6, hfz36_0, hfz36_1, hfz36_2, hfz36_3, hfz36_4, hfz36_5, hfz36_6⟩ := cz7 BK166
        go_wp2_with (first | (go_at_call 63; (with_reducible refine (edge_inside.calls ((rd_T71 l0_1 a1).f1) gb164 A0_0 c0_0 l0_0 (.slice (some ad165) l0_1.length c0_1) false _ ?side1 A30.out).mono ?_); (case side1 => exact (bk BK164)); rintro e w' ⟨rfl, ⟨nd, rfl⟩⟩))
        go_meet
        case rel => exact ⟨_, (true), eqs, H', ⟨by first | omega | exact Nat.le_refl _⟩, ⟨bk BK164⟩, ⟨bk BK166⟩, ⟨bb HB⟩⟩
      case rest =>
       clear HC20
       try clear c1
       try clear p1
       try clear q1
       try clear hx1
       try clear c2
       try clear p2
       try clear q2
       try clear c3
       try clear c3b0
       try clear c4
       try clear c4b0
       try clear c5
       try clear c6
       try clear c7
       try clear c7b0
       try clear c8
       try clear c8b0
       try clear c8b1
       try clear c10
       try clear c14
       try clear p16
       try clear q16
       try clear hx16
       try clear q18
       try clear c24
       try clear q28
       try clear c31
       try clear c33
       try clear c35
       try clear hcz12_0
       try clear hcz12_1
       try clear hcz15_0
       try clear hcz15_1
       try clear hcz15_2
       try clear hcz15_3
       try clear hcz15_4
       try clear hcz15_5
       try clear hcz15_6
       try clear hcz17_0
       try clear hcz17_1
       try clear hcz22_0
       try clear hcz22_1
       try clear hcz25_0
       try clear hcz25_1
       try clear hcz25_2
       try clear hcz25_3
       try clear hcz25_4
       try clear hcz25_5
       try clear hcz25_6
       try clear hcz27_0
       try clear hcz27_1
       try clear hcz34_0
       try clear hcz34_1
       try clear hcz34_2
       try clear hcz34_3
       try clear hcz34_4
       try clear hcz34_5
       try clear hcz34_6
       try clear hcz36_0
       try clear hcz36_1
       try clear hcz36_2
       try clear hcz36_3
       try clear hcz36_4
       try clear hcz36_5
       try clear hcz36_6
       try clear hfz12_0
       try clear hfz12_1
       try clear hfz15_0
       try clear hfz15_1
       try clear hfz15_2
       try clear hfz15_3
       try clear hfz15_4
       try clear hfz15_5
       try clear hfz15_6
       try clear hfz17_0
       try clear hfz17_1
       try clear hfz22_0
       try clear hfz22_1
       try clear hfz25_0
       try clear hfz25_1
       try clear hfz25_2
       try clear hfz25_3
       try clear hfz25_4
       try clear hfz25_5
       try clear hfz25_6
       try clear hfz27_0
       try clear hfz27_1
       try clear hfz34_0
       try clear hfz34_1
       try clear hfz34_2
       try clear hfz34_3
       try clear hfz34_4
       try clear hfz34_5
       try clear hfz34_6
       try clear hfz36_0
       try clear hfz36_1
       try clear hfz36_2
       try clear hfz36_3
       try clear hfz36_4
       try clear hfz36_5
       try clear hfz36_6
       try clear hx165_0
       try clear hx165_1
       try clear hx165_2
       try clear hx165_3
       try clear hx165_4
       try clear hx165_5
       try clear hx165_6
       try clear p165
       try clear q165
       try clear q18
       try clear q28
       obtain ⟨kq, x25_19, rfl, HA, HJ19, BK164, BK166, HB⟩ := hcut
       cases kq with
       | zero => exact absurd HA.out (by simp [types_edge.j0])
       | succ kj19 =>
        have H := HA.out
        clear HA
        simp only [types_edge.j0] at H
        by_cases c37 : x25_19 = true
        ·subst c37
         replace H := ift H
         obtain rfl := Option.some.inj H
         go_wp2
         go_ret
         exact ⟨erf, bb HB⟩
        ·replace c37 := Bool.eq_false_iff.mpr c37
         subst c37
         replace H := iff_ H
         replace H := Option.bind_eq_some_iff.mp H
         obtain ⟨t175, A380, H⟩ := H
         replace H : (if t175 = true then ((types_bounded.f ((rd_T71 l0_1 a1).f5) ((rd_T71 l0_1 a1).f6)).bind fun t176 => (if t176 = true then (some 0) else (some 6))) else (some 6)) = some r := H
         have A38 := Aside0.mk A380
         clear A380
         by_cases c39 : t175 = true
         ·subst c39
          replace H := ift H
          replace H := Option.bind_eq_some_iff.mp H
          obtain ⟨t176, A400, H⟩ := H
          replace H : (if t176 = true then (some 0) else (some 6)) = some r := H
          have A40 := Aside0.mk A400
          clear A400
          by_cases c41 : t176 = true
          ·subst c41
           replace H := ift H
           obtain rfl := Option.some.inj H
           have hnb42 := NB166_164.out
           have hnc42 := NB164_166.out
           obtain ⟨hcz43_0, hcz43_1, hcz43_2, hcz43_3, hcz43_4, hcz43_5, hcz43_6, hfz43_0, hfz43_1, hfz43_2, hfz43_3, hfz43_4, hfz43_5, hfz43_6⟩ := cz7 BK166
           go_wp2_with (first | ((with_reducible refine gate_callee (f := 66) rfl ?_); refine gl 42 Try.func66 #[.int .i64 ((rd_T71 l0_1 a1).f3), .int .i64 ((rd_T71 l0_1 a1).f4)] (h := ?_); (with_reducible refine (types_bounded.calls ((rd_T71 l0_1 a1).f3) ((rd_T71 l0_1 a1).f4) true _ A38.out).mono ?_); rintro e w' ⟨rfl, ⟨nd, rfl⟩⟩; refine ⟨_, rfl, ?_⟩) | (go_at_call 66; (with_reducible refine (types_bounded.calls ((rd_T71 l0_1 a1).f5) ((rd_T71 l0_1 a1).f6) true _ A40.out).mono ?_); rintro e w' ⟨rfl, ⟨nd, rfl⟩⟩))
           go_ret
           exact ⟨erf, bb HB⟩
          ·replace c41 := Bool.eq_false_iff.mpr c41
           subst c41
           replace H := iff_ H
           obtain rfl := Option.some.inj H
           have hnb44 := NB166_164.out
           have hnc44 := NB164_166.out
           obtain ⟨hcz45_0, hcz45_1, hcz45_2, hcz45_3, hcz45_4, hcz45_5, hcz45_6, hfz45_0, hfz45_1, hfz45_2, hfz45_3, hfz45_4, hfz45_5, hfz45_6⟩ := cz7 BK166
           go_wp2_with (first | ((with_reducible refine gate_callee (f := 66) rfl ?_); refine gl 42 Try.func66 #[.int .i64 ((rd_T71 l0_1 a1).f3), .int .i64 ((rd_T71 l0_1 a1).f4)] (h := ?_); (with_reducible refine (types_bounded.calls ((rd_T71 l0_1 a1).f3) ((rd_T71 l0_1 a1).f4) true _ A38.out).mono ?_); rintro e w' ⟨rfl, ⟨nd, rfl⟩⟩; refine ⟨_, rfl, ?_⟩) | (go_at_call 66; (with_reducible refine (types_bounded.calls ((rd_T71 l0_1 a1).f5) ((rd_T71 l0_1 a1).f6) false _ A40.out).mono ?_); rintro e w' ⟨rfl, ⟨nd, rfl⟩⟩))
           go_ret
           exact ⟨erf, bb HB⟩
         ·replace c39 := Bool.eq_false_iff.mpr c39
          subst c39
          replace H := iff_ H
          obtain rfl := Option.some.inj H
          have hnb46 := NB166_164.out
          have hnc46 := NB164_166.out
          obtain ⟨hcz47_0, hcz47_1, hcz47_2, hcz47_3, hcz47_4, hcz47_5, hcz47_6, hfz47_0, hfz47_1, hfz47_2, hfz47_3, hfz47_4, hfz47_5, hfz47_6⟩ := cz7 BK166
          go_wp2_with (first | ((with_reducible refine gate_callee (f := 66) rfl ?_); refine gl 42 Try.func66 #[.int .i64 ((rd_T71 l0_1 a1).f3), .int .i64 ((rd_T71 l0_1 a1).f4)] (h := ?_); (with_reducible refine (types_bounded.calls ((rd_T71 l0_1 a1).f3) ((rd_T71 l0_1 a1).f4) false _ A38.out).mono ?_); rintro e w' ⟨rfl, ⟨nd, rfl⟩⟩; refine ⟨_, rfl, ?_⟩))
          go_ret
          exact ⟨erf, bb HB⟩
    ·rw [if_neg c8] at H
     exact absurd H (by simp)
   ·replace c6 := Bool.eq_false_iff.mpr c6
    subst c6
    replace H := iff_ H
    obtain rfl := Option.some.inj H
    go_enter Try.func40, Try.ntmps40
    go_wp2_with (first | ((with_reducible refine gate_dst (N := 2) rfl ?_); refine box_event ?hg (N := 2) ?hd (cs := #[.slice A0_0 l0_0.length c0_0, .slice A0_1 l0_1.length c0_1]) (t := 25) ?hr ?_; (case hd => rfl); (case hg => rfl); (case hr => first | (go_simp; done) | (go_simp; rfl)); intro gb164 hg w48 hbox hb; have BK164 := Aside0.mk (hbox); have GW164 := bsz HB hg; have GE164 := bsz HB hg; replace HB := bstep HB hb; clear hb hbox hg; obtain ⟨hcz49_0, hcz49_1, hfz49_0, hfz49_1⟩ := cz2 BK164; have p165 : 0 ≤ a1 := odt; have q165 : a1 < (l0_1.length : Int) := odt; obtain ⟨ad165, e165, hx165_0, hx165_1, hx165_2, hx165_3, hx165_4, hx165_5, hx165_6⟩ := at_T71 HR0_1.out a1 p165 q165; cases e165; replace hx165_0 := hxc HB hx165_0; replace hx165_1 := hxc HB hx165_1; replace hx165_2 := hxc HB hx165_2; replace hx165_3 := hxc HB hx165_3; replace hx165_4 := hxc HB hx165_4; replace hx165_5 := hxc HB hx165_5; replace hx165_6 := hxc HB hx165_6; replace p165 := eq_true p165; replace q165 := eq_true q165) | ((with_reducible refine gate_dst (N := 5) rfl ?_); refine box_event ?hg (N := 5) ?hd (cs := #[.string (⟨#[]⟩ : ByteArray), .int .i64 0, .int .i64 0, .int .i64 0, .int .i64 0, .int .i64 0, .int .i64 0]) (t := 71) ?hr ?_; (case hd => rfl); (case hg => rfl); (case hr => first | (go_simp; done) | (go_simp; rfl)); intro gb166 hg w50 hbox hb; have BK166 := Aside0.mk (hbox); have GW166 := bsz HB hg; have GE166 := bsz HB hg; replace HB := bstep HB hb; have NB164_166 := blt BK164 hg; have NB166_164 := bgt BK164 hg; replace BK164 := bkb BK164 hb; clear hb hbox hg; have hnb51 := NB166_164.out; have hnc51 := NB164_166.out; obtain ⟨hcz52_0, hcz52_1, hcz52_2, hcz52_3, hcz52_4, hcz52_5, hcz52_6, hfz52_0, hfz52_1, hfz52_2, hfz52_3, hfz52_4, hfz52_5, hfz52_6⟩ := cz7 BK166) | ((with_reducible refine gate_callee (f := 59) rfl ?_); refine gl 16 Try.func59 #[.string ((rd_T71 l0_1 a1).f0)] (h := ?_); (with_reducible refine (token_IsName.calls k ((rd_T71 l0_1 a1).f0) false _ A5.out).mono ?_); rintro e w53 ⟨rfl, hb⟩; refine ⟨_, rfl, ?_⟩; replace BK164 := Aside0.mk (blk_below (g := gb164) (o := .cells #[.slice A0_0 l0_0.length c0_0, .slice (some ad165) l0_1.length c0_1] 25 (0, 0)) (by (with_reducible repeat (first | refine blk_drewN ?_ _ | refine blk_drew ?_ | refine blk_alloc ?_ _)); refine blk_far ?_ NB164_166.out _; (with_reducible repeat (first | refine blk_drewN ?_ _ | refine blk_drew ?_ | refine blk_alloc ?_ _)); refine blk_far ?_ NB164_166.out _; (with_reducible repeat (first | refine blk_drewN ?_ _ | refine blk_drew ?_ | refine blk_alloc ?_ _)); refine blk_far ?_ NB164_166.out _; (with_reducible repeat (first | refine blk_drewN ?_ _ | refine blk_drew ?_ | refine blk_alloc ?_ _)); refine blk_far ?_ NB164_166.out _; (with_reducible repeat (first | refine blk_drewN ?_ _ | refine blk_drew ?_ | refine blk_alloc ?_ _)); refine blk_far ?_ NB164_166.out _; (with_reducible repeat (first | refine blk_drewN ?_ _ | refine blk_drew ?_ | refine blk_alloc ?_ _)); refine blk_far ?_ NB164_166.out _; (with_reducible repeat (first | refine blk_drewN ?_ _ | refine blk_drew ?_ | refine blk_alloc ?_ _)); refine blk_far ?_ NB164_166.out _; (with_reducible repeat (first | refine blk_drewN ?_ _ | refine blk_drew ?_ | refine blk_alloc ?_ _)); exact BK164.out) hb); replace BK166 := Aside0.mk (blk_below (g := gb166) (o := .cells #[.string ((rd_T71 l0_1 a1).f0), .int .i64 ((rd_T71 l0_1 a1).f1), .int .i64 ((rd_T71 l0_1 a1).f2), .int .i64 ((rd_T71 l0_1 a1).f3), .int .i64 ((rd_T71 l0_1 a1).f4), .int .i64 ((rd_T71 l0_1 a1).f5), .int .i64 ((rd_T71 l0_1 a1).f6)] 71 (0, 0)) (by (with_reducible repeat (first | refine blk_drewN ?_ _ | refine blk_drew ?_ | refine blk_alloc ?_ _)); refine blk_put (cs := #[.string ((rd_T71 l0_1 a1).f0), .int .i64 ((rd_T71 l0_1 a1).f1), .int .i64 ((rd_T71 l0_1 a1).f2), .int .i64 ((rd_T71 l0_1 a1).f3), .int .i64 ((rd_T71 l0_1 a1).f4), .int .i64 ((rd_T71 l0_1 a1).f5), .int .i64 0]) ?_ 6 _ rfl; (with_reducible repeat (first | refine blk_drewN ?_ _ | refine blk_drew ?_ | refine blk_alloc ?_ _)); refine blk_put (cs := #[.string ((rd_T71 l0_1 a1).f0), .int .i64 ((rd_T71 l0_1 a1).f1), .int .i64 ((rd_T71 l0_1 a1).f2), .int .i64 ((rd_T71 l0_1 a1).f3), .int .i64 ((rd_T71 l0_1 a1).f4), .int .i64 0, .int .i64 0]) ?_ 5 _ rfl; (with_reducible repeat (first | refine blk_drewN ?_ _ | refine blk_drew ?_ | refine blk_alloc ?_ _)); refine blk_put (cs := #[.string ((rd_T71 l0_1 a1).f0), .int .i64 ((rd_T71 l0_1 a1).f1), .int .i64 ((rd_T71 l0_1 a1).f2), .int .i64 ((rd_T71 l0_1 a1).f3), .int .i64 0, .int .i64 0, .int .i64 0]) ?_ 4 _ rfl; (with_reducible repeat (first | refine blk_drewN ?_ _ | refine blk_drew ?_ | refine blk_alloc ?_ _)); refine blk_put (cs := #[.string ((rd_T71 l0_1 a1).f0), .int .i64 ((rd_T71 l0_1 a1).f1), .int .i64 ((rd_T71 l0_1 a1).f2), .int .i64 0, .int .i64 0, .int .i64 0, .int .i64 0]) ?_ 3 _ rfl; (with_reducible repeat (first | refine blk_drewN ?_ _ | refine blk_drew ?_ | refine blk_alloc ?_ _)); refine blk_put (cs := #[.string ((rd_T71 l0_1 a1).f0), .int .i64 ((rd_T71 l0_1 a1).f1), .int .i64 0, .int .i64 0, .int .i64 0, .int .i64 0, .int .i64 0]) ?_ 2 _ rfl; (with_reducible repeat (first | refine blk_drewN ?_ _ | refine blk_drew ?_ | refine blk_alloc ?_ _)); refine blk_put (cs := #[.string ((rd_T71 l0_1 a1).f0), .int .i64 0, .int .i64 0, .int .i64 0, .int .i64 0, .int .i64 0, .int .i64 0]) ?_ 1 _ rfl; (with_reducible repeat (first | refine blk_drewN ?_ _ | refine blk_drew ?_ | refine blk_alloc ?_ _)); refine blk_put (cs := #[.string (⟨#[]⟩ : ByteArray), .int .i64 0, .int .i64 0, .int .i64 0, .int .i64 0, .int .i64 0, .int .i64 0]) ?_ 0 _ rfl; (with_reducible repeat (first | refine blk_drewN ?_ _ | refine blk_drew ?_ | refine blk_alloc ?_ _)); exact BK166.out) hb); replace HB := bstep HB hb; (try clear hb); (try clear hb2); (try clear hk); (try clear hi)))
    go_ret
    exact ⟨erf, bb HB⟩
  ·rw [if_neg c4] at H
   exact absurd H (by simp)
 ·rw [if_neg c3] at H
  exact absurd H (by simp)
end Go.Proofs.Ytfpianecohobjaa.P
