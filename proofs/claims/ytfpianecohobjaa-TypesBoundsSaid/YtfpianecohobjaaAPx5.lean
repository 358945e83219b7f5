/- typesOrder_holds, typesBounds_holds, typesInherit_holds: a part of the proof that the law returns true for every input. No condition. -/
import Derived.Test.YtfpianecohobjaaAPx0
import Derived.Test.YtfpianecohobjaaAPx2
import Derived.Test.YtfpianecohobjaaAPx3
import Derived.Test.YtfpianecohobjaaAPx4
import Derived.Test.YtfpianecohobjaaAH0
namespace Go.Proofs.Ytfpianecohobjaa.P
open Go.RowKit Go.Proofs.YtfpianecohobjaaW.PrintWords Go.Proofs.YtfpianecohobjaaW.PrintLast Go.Proofs.YtfpianecohobjaaW.PrintMore
set_option linter.unusedVariables false
set_option linter.unusedSimpArgs false
mutual
def types_node.j0 : Nat → Int → Bool → List (S68) → List (S71) → ByteArray → Int → Bool → List (S77) → Option (Int)
 | 0, _, _, _, _, _, _, _, _ => none
 | k + 1, x1, x26, x146000, x146001, x148000, x148001, x148002, x148003 => if x26 = true then (some 6) else (if (x148003.length : Int) > 4 then (some 3) else ((types_attrs.f k x146000 x146001 x1).bind fun t154 => (if (t154.length : Int) > 8 then (some 3) else (types_node.l0 k t154 (wrap64 ((t154.length : Int) - (x148003.length : Int)))))))
def types_node.l0 : Nat → List (S77) → Int → Option (Int)
 | 0, _, _ => none
 | k + 1, x6, x7 => if x7 < (x6.length : Int) then (if 0 ≤ x7 then (if x7 ≤ (x6.length : Int) then ((types_attribute.f k ((rd_T77 x6 x7).f0) ((rd_T77 x6 x7).f1) ((rd_T77 x6 x7).f2) ((rd_T77 x6 x7).f3) (x6.take (x7 : Int).toNat)).bind fun t163 => (if t163 = 0 then (types_node.l0 k x6 (wrap64 (x7 + 1))) else (some t163))) else (none)) else (none)) else (some 0)
end
def types_node.f (k : Nat) (l0_0 : List (S68)) (l0_1 : List (S71)) (a1 : Int) : Option (Int) := if 0 ≤ a1 then (if a1 < (l0_0.length : Int) then ((token_IsName.f k ((rd_T68 l0_0 a1).f0)).bind fun t148 => (if t148 = true then (if a1 ≤ (l0_0.length : Int) then ((any_node.f (l0_0.take (a1 : Int).toNat) ((rd_T68 l0_0 a1).f0)).bind fun t153 => (if t153 = true then (some 5) else (if ((rd_T68 l0_0 a1).f1) < (-1) then (types_node.j0 k a1 true l0_0 l0_1 ((rd_T68 l0_0 a1).f0) ((rd_T68 l0_0 a1).f1) ((rd_T68 l0_0 a1).f2) ((rd_T68 l0_0 a1).f3)) else (types_node.j0 k a1 (decide (((rd_T68 l0_0 a1).f1) ≥ a1)) l0_0 l0_1 ((rd_T68 l0_0 a1).f0) ((rd_T68 l0_0 a1).f1) ((rd_T68 l0_0 a1).f2) ((rd_T68 l0_0 a1).f3))))) else (none)) else (some 2))) else (none)) else (none)
theorem types_node.mono_l : ∀ k, (∀ y0 y1 y2 y3 y4 y5 y6 y7, LeO (types_node.j0 k y0 y1 y2 y3 y4 y5 y6 y7) (types_node.j0 (k + 1) y0 y1 y2 y3 y4 y5 y6 y7)) ∧ (∀ y0 y1, LeO (types_node.l0 k y0 y1) (types_node.l0 (k + 1) y0 y1))
 | 0 => ⟨fun _ _ _ _ _ _ _ _ r h => by simp [types_node.j0] at h, fun _ _ r h => by simp [types_node.l0] at h⟩
 | k + 1 => by
  obtain ⟨ih0, ih1⟩ := types_node.mono_l k
  refine ⟨?_, ?_⟩
  ·intro y0 y1 y2 y3 y4 y5 y6 y7
   unfold types_node.j0
   repeat' first
   | (with_reducible exact ih0 _ _ _ _ _ _ _ _)
   | (with_reducible exact ih1 _ _)
   | (with_reducible exact token_IsName.mono _ _)
   | (with_reducible exact types_attribute.mono _ _ _ _ _ _)
   | (with_reducible exact types_attrs.mono _ _ _ _)
   | (with_reducible exact LeO.refl _)
   | (with_reducible exact LeO.none _)
   | (with_reducible refine LeO.ite ?_ ?_)
   | (with_reducible refine LeO.bind ?_ (fun _ => ?_))
   | exact ih0 _ _ _ _ _ _ _ _
   | exact ih1 _ _
   | exact token_IsName.mono _ _
   | exact types_attribute.mono _ _ _ _ _ _
   | exact types_attrs.mono _ _ _ _
   | exact LeO.none _
   | refine LeO.ite ?_ ?_
   | refine LeO.bind ?_ (fun _ => ?_)
  ·intro y0 y1
   unfold types_node.l0
   repeat' first
   | (with_reducible exact ih0 _ _ _ _ _ _ _ _)
   | (with_reducible exact ih1 _ _)
   | (with_reducible exact token_IsName.mono _ _)
   | (with_reducible exact types_attribute.mono _ _ _ _ _ _)
   | (with_reducible exact types_attrs.mono _ _ _ _)
   | (with_reducible exact LeO.refl _)
   | (with_reducible exact LeO.none _)
   | (with_reducible refine LeO.ite ?_ ?_)
   | (with_reducible refine LeO.bind ?_ (fun _ => ?_))
   | exact ih0 _ _ _ _ _ _ _ _
   | exact ih1 _ _
   | exact token_IsName.mono _ _
   | exact types_attribute.mono _ _ _ _ _ _
   | exact types_attrs.mono _ _ _ _
   | exact LeO.none _
   | refine LeO.ite ?_ ?_
   | refine LeO.bind ?_ (fun _ => ?_)
theorem types_node.mono : ∀ a0 a1 a2 k, LeO (types_node.f k a0 a1 a2) (types_node.f (k + 1) a0 a1 a2) := by
 intro a0 a1 a2 k
 obtain ⟨ih0, ih1⟩ := types_node.mono_l k
 unfold types_node.f
 repeat' first
   | (with_reducible exact ih0 _ _ _ _ _ _ _ _)
   | (with_reducible exact ih1 _ _)
   | (with_reducible exact token_IsName.mono _ _)
   | (with_reducible exact types_attribute.mono _ _ _ _ _ _)
   | (with_reducible exact types_attrs.mono _ _ _ _)
   | (with_reducible exact LeO.refl _)
   | (with_reducible exact LeO.none _)
   | (with_reducible refine LeO.ite ?_ ?_)
   | (with_reducible refine LeO.bind ?_ (fun _ => ?_))
   | exact ih0 _ _ _ _ _ _ _ _
   | exact ih1 _ _
   | exact token_IsName.mono _ _
   | exact types_attribute.mono _ _ _ _ _ _
   | exact types_attrs.mono _ _ _ _
   | exact LeO.none _
   | refine LeO.ite ?_ ?_
   | refine LeO.bind ?_ (fun _ => ?_)
def types_node.T16 : Bool × List (List Nat × List Nat) := (true, [([], []), ([], []), ([0, 1], [0, 1]), ([2], [2]), ([], []), ([], []), ([4, 5], [4, 5]), ([3, 6], [3, 6]), ([7, 7, 0, 1, 2, 3, 4, 5, 6, 7], [7])])
def types_node.B16 : List Nat := [0, 0, 3, 7, 0, 0, 48, 127, 255]
theorem types_node.tab16 : rtab .any (opsOf Try.f39 16) = types_node.T16 := by kernel_rfl
theorem types_node.bits16 : waitsOk types_node.T16.2 types_node.B16 = true := by kernel_rfl
set_option maxHeartbeats 8000000 in
set_option maxRecDepth 100000 in
theorem types_node.calls (k : Nat) (A0_0 : Option Addr) (c0_0 : Nat) (l0_0 : List (S68)) (A0_1 : Option Addr) (c0_1 : Nat) (l0_1 : List (S71)) (a1 : Int) (r : Int) (w : World) (hr0_0 : Kd.C k68 w A0_0 l0_0.length l0_0) (hc0_0 : l0_0.length ≤ c0_0) (hr0_1 : Kd.C k71 w A0_1 l0_1.length l0_1) (hc0_1 : l0_1.length ≤ c0_1) (h : types_node.f k l0_0 l0_1 a1 = some r) :
  Calls Try.prog 39 #[.agg #[.slice A0_0 l0_0.length c0_0, .slice A0_1 l0_1.length c0_1], .int .i64 a1] w fun e w' => e = .returned (.int .i64 r) ∧ Below w.heap.size w w' := by
 have hu25 := Try.underlying25
 have hu68 := Try.underlying68
 have hu77 := Try.underlying77
 have HR0_0 := Aside0.mk hr0_0
 have HC0_0 := Aside0.mk hc0_0
 clear hr0_0 hc0_0
 have HR0_1 := Aside0.mk hr0_1
 have HC0_1 := Aside0.mk hc0_1
 clear hr0_1 hc0_1
 have HB := Aside0.mk (Below.refl w.heap.size w)
 have H : (if 0 ≤ a1 then (if a1 < (l0_0.length : Int) then ((token_IsName.f k ((rd_T68 l0_0 a1).f0)).bind fun t148 => (if t148 = true then (if a1 ≤ (l0_0.length : Int) then ((any_node.f (l0_0.take (a1 : Int).toNat) ((rd_T68 l0_0 a1).f0)).bind fun t153 => (if t153 = true then (some 5) else (if ((rd_T68 l0_0 a1).f1) < (-1) then (types_node.j0 k a1 true l0_0 l0_1 ((rd_T68 l0_0 a1).f0) ((rd_T68 l0_0 a1).f1) ((rd_T68 l0_0 a1).f2) ((rd_T68 l0_0 a1).f3)) else (types_node.j0 k a1 (decide (((rd_T68 l0_0 a1).f1) ≥ a1)) l0_0 l0_1 ((rd_T68 l0_0 a1).f0) ((rd_T68 l0_0 a1).f1) ((rd_T68 l0_0 a1).f2) ((rd_T68 l0_0 a1).f3))))) else (none)) else (some 2))) else (none)) else (none)) = some r := h
 clear h
 by_cases c3 : 0 ≤ a1
 ·rw [if_pos c3] at H
  have c3b0 : decide (0 ≤ a1) = true := decide_eq_true c3
  clear c3
  by_cases c4 : a1 < (l0_0.length : Int)
  ·rw [if_pos c4] at H
   have c4b0 : decide (a1 < (l0_0.length : Int)) = true := decide_eq_true c4
   clear c4
   replace H := Option.bind_eq_some_iff.mp H
   obtain ⟨t148, A50, H⟩ := H
   replace H : (if t148 = true then (if a1 ≤ (l0_0.length : Int) then ((any_node.f (l0_0.take (a1 : Int).toNat) ((rd_T68 l0_0 a1).f0)).bind fun t153 => (if t153 = true then (some 5) else (if ((rd_T68 l0_0 a1).f1) < (-1) then (types_node.j0 k a1 true l0_0 l0_1 ((rd_T68 l0_0 a1).f0) ((rd_T68 l0_0 a1).f1) ((rd_T68 l0_0 a1).f2) ((rd_T68 l0_0 a1).f3)) else (types_node.j0 k a1 (decide (((rd_T68 l0_0 a1).f1) ≥ a1)) l0_0 l0_1 ((rd_T68 l0_0 a1).f0) ((rd_T68 l0_0 a1).f1) ((rd_T68 l0_0 a1).f2) ((rd_T68 l0_0 a1).f3))))) else (none)) else (some 2)) = some r := H
   have A5 := Aside0.mk A50
   clear A50
   by_cases c6 : t148 = true
   ·subst c6
    replace H := ift H
    have c7b0 := eq_true (odt : 0 ≤ a1)
    by_cases c8 : a1 ≤ (l0_0.length : Int)
    ·rw [if_pos c8] at H
     have c8b0 := eq_true c8
     have c8b1 : decide (a1 ≤ (l0_0.length : Int)) = true := decide_eq_true c8
     clear c8
     obtain ⟨y149, hy149⟩ : ∃ y_ : List (S68), y_ = (l0_0.take (a1 : Int).toNat) := ⟨_, rfl⟩
     replace H : ((any_node.f y149 ((rd_T68 l0_0 a1).f0)).bind fun t153 => (if t153 = true then (some 5) else (if ((rd_T68 l0_0 a1).f1) < (-1) then (types_node.j0 k a1 true l0_0 l0_1 ((rd_T68 l0_0 a1).f0) ((rd_T68 l0_0 a1).f1) ((rd_T68 l0_0 a1).f2) ((rd_T68 l0_0 a1).f3)) else (types_node.j0 k a1 (decide (((rd_T68 l0_0 a1).f1) ≥ a1)) l0_0 l0_1 ((rd_T68 l0_0 a1).f0) ((rd_T68 l0_0 a1).f1) ((rd_T68 l0_0 a1).f2) ((rd_T68 l0_0 a1).f3))))) = some r := by first | (rw [hy149]; with_reducible exact H) | (have H2_ := (Option.bind_some _ _).symm.trans H; rw [hy149]; with_reducible exact H2_) | (have H2_ := (Option.bind_some _ _).symm.trans H; with_reducible exact H2_) | with_reducible exact H | (rw [hy149]; exact H) | exact H
     have Ny149 := Aside0.mk hy149
     clear hy149
     replace H := Option.bind_eq_some_iff.mp H
     obtain ⟨t153, A90, H⟩ := H
     replace H : (if t153 = true then (some 5) else (if ((rd_T68 l0_0 a1).f1) < (-1) then (types_node.j0 k a1 true l0_0 l0_1 ((rd_T68 l0_0 a1).f0) ((rd_T68 l0_0 a1).f1) ((rd_T68 l0_0 a1).f2) ((rd_T68 l0_0 a1).f3)) else (types_node.j0 k a1 (decide (((rd_T68 l0_0 a1).f1) ≥ a1)) l0_0 l0_1 ((rd_T68 l0_0 a1).f0) ((rd_T68 l0_0 a1).f1) ((rd_T68 l0_0 a1).f2) ((rd_T68 l0_0 a1).f3)))) = some r := H
     have A9 := Aside0.mk A90
     clear A90
     by_cases c10 : t153 = true
     ·subst c10
      replace H := ift H
      obtain rfl := Option.some.inj H
      go_enter Try.func39, Try.ntmps39
      go_wp2_with (first | ((with_reducible refine gate_dst (N := 2) rfl ?_); refine box_event ?hg (N := 2) ?hd (cs := #[.slice A0_0 l0_0.length c0_0, .slice A0_1 l0_1.length c0_1]) (t := 25) ?hr ?_; (case hd => rfl); (case hg => rfl); (case hr => first | (go_simp; done) | (go_simp; rfl)); intro gb145 hg w11 hbox hb; have BK145 := Aside0.mk (hbox); have GW145 := bsz HB hg; have GE145 := bsz HB hg; replace HB := bstep HB hb; clear hb hbox hg; obtain ⟨hcz12_0, hcz12_1, hfz12_0, hfz12_1⟩ := cz2 BK145; have p146 : 0 ≤ a1 := odt; have q146 : a1 < (l0_0.length : Int) := odt; obtain ⟨ad146, A146_3, c146_3, e146, hx146_0, hx146_1, hx146_2, hx146_3, hl146_3, hi146_3⟩ := at_T68 HR0_0.out a1 p146 q146; cases e146; replace hx146_0 := hxc HB hx146_0; replace hx146_1 := hxc HB hx146_1; replace hx146_2 := hxc HB hx146_2; replace hx146_3 := hxc HB hx146_3; have HR146_3 := Aside0.mk hi146_3; have HC146_3 := Aside0.mk hl146_3; clear hi146_3 hl146_3; replace p146 := eq_true p146; replace q146 := eq_true q146) | ((with_reducible refine gate_dst (N := 5) rfl ?_); refine box_event ?hg (N := 5) ?hd (cs := #[.string (⟨#[]⟩ : ByteArray), .int .i64 0, .bool false, .slice none 0 0]) (t := 68) ?hr ?_; (case hd => rfl); (case hg => rfl); (case hr => first | (go_simp; done) | (go_simp; rfl)); intro gb147 hg w13 hbox hb; have BK147 := Aside0.mk (hbox); have GW147 := bsz HB hg; have GE147 := bsz HB hg; replace HB := bstep HB hb; have NB145_147 := blt BK145 hg; have NB147_145 := bgt BK145 hg; replace BK145 := bkb BK145 hb; clear hb hbox hg; have hnb14 := NB147_145.out; have hnc14 := NB145_147.out; obtain ⟨hcz15_0, hcz15_1, hcz15_2, hcz15_3, hfz15_0, hfz15_1, hfz15_2, hfz15_3⟩ := cz4 BK147) | ((with_reducible refine gate_callee (f := 59) rfl ?_); refine gl 17 Try.func59 #[.string ((rd_T68 l0_0 a1).f0)] (h := ?_); (with_reducible refine (token_IsName.calls k ((rd_T68 l0_0 a1).f0) true _ A5.out).mono ?_); rintro e w16 ⟨rfl, hb⟩; refine ⟨_, rfl, ?_⟩; replace BK145 := Aside0.mk (blk_below (g := gb145) (o := .cells #[.slice (some ad146) l0_0.length c0_0, .slice A0_1 l0_1.length c0_1] 25 (0, 0)) (by (with_reducible repeat (first | refine blk_drewN ?_ _ | refine blk_drew ?_ | refine blk_alloc ?_ _)); refine blk_far ?_ NB145_147.out _; (with_reducible repeat (first | refine blk_drewN ?_ _ | refine blk_drew ?_ | refine blk_alloc ?_ _)); refine blk_far ?_ NB145_147.out _; (with_reducible repeat (first | refine blk_drewN ?_ _ | refine blk_drew ?_ | refine blk_alloc ?_ _)); refine blk_far ?_ NB145_147.out _; (with_reducible repeat (first | refine blk_drewN ?_ _ | refine blk_drew ?_ | refine blk_alloc ?_ _)); refine blk_far ?_ NB145_147.out _; (with_reducible repeat (first | refine blk_drewN ?_ _ | refine blk_drew ?_ | refine blk_alloc ?_ _)); exact BK145.out) hb); replace BK147 := Aside0.mk (blk_below (g := gb147) (o := .cells #[.string ((rd_T68 l0_0 a1).f0), .int .i64 ((rd_T68 l0_0 a1).f1), .bool ((rd_T68 l0_0 a1).f2), .slice A146_3 ((rd_T68 l0_0 a1).f3).length c146_3] 68 (0, 0)) (by (with_reducible repeat (first | refine blk_drewN ?_ _ | refine blk_drew ?_ | refine blk_alloc ?_ _)); refine blk_put (cs := #[.string ((rd_T68 l0_0 a1).f0), .int .i64 ((rd_T68 l0_0 a1).f1), .bool ((rd_T68 l0_0 a1).f2), .slice none 0 0]) ?_ 3 _ rfl; (with_reducible repeat (first | refine blk_drewN ?_ _ | refine blk_drew ?_ | refine blk_alloc ?_ _)); refine blk_put (cs := #[.string ((rd_T68 l0_0 a1).f0), .int .i64 ((rd_T68 l0_0 a1).f1), .bool false, .slice none 0 0]) ?_ 2 _ rfl; (with_reducible repeat (first | refine blk_drewN ?_ _ | refine blk_drew ?_ | refine blk_alloc ?_ _)); refine blk_put (cs := #[.string ((rd_T68 l0_0 a1).f0), .int .i64 0, .bool false, .slice none 0 0]) ?_ 1 _ rfl; (with_reducible repeat (first | refine blk_drewN ?_ _ | refine blk_drew ?_ | refine blk_alloc ?_ _)); refine blk_put (cs := #[.string (⟨#[]⟩ : ByteArray), .int .i64 0, .bool false, .slice none 0 0]) ?_ 0 _ rfl; (with_reducible repeat (first | refine blk_drewN ?_ _ | refine blk_drew ?_ | refine blk_alloc ?_ _)); exact BK147.out) hb); replace HB := bstep HB hb; (try clear hb); (try clear hb2); (try clear hk); (try clear hi); obtain ⟨hcz17_0, hcz17_1, hfz17_0, hfz17_1⟩ := cz2 BK145; have q18 : (a1 : Int) ≤ ((l0_0.length : Int) : Int) := odt; obtain ⟨i018, hi018, _, hsz18, _⟩ := info_parts info68; have hroom18 : l0_0.length ≤ c0_0 := HC0_0.out; have hC18 : Kd.C k68 _ (some ad146) l0_0.length l0_0 := HR0_0.out; have hcut18 := cut_to (P := Try.prog) 22 68 .i64 Try.underlying22 hi018 (some ad146) l0_0.length c0_0 a1 (odt) q18 hroom18; have hr18 := Kd.C_take (m := (a1 : Int).toNat) hC18 (by omega); have hy18 : y149.length = (a1 : Int).toNat := (by rw [Ny149.out, List.length_take]; omega); rw [← Ny149.out] at hr18; rw [← hy18] at hcut18; have HR152 := Aside0.mk hr18; have HC152 := Aside0.mk (show y149.length ≤ c0_0 from by omega); clear hr18 hC18 hroom18 hi018 hsz18; have KY18 := Aside0.mk hy18; clear hy18; replace q18 := eq_true q18) | ((with_reducible refine gate_callee (f := 60) rfl ?_); refine gl 25 Try.func60 #[.slice (some ad146) y149.length c0_0, .func (.func 61) #[] #[.pointer (some ⟨gb147, 0, none⟩)]] (h := ?_); (with_reducible refine (any_node.calls _ _ y149 gb147 ((rd_T68 l0_0 a1).f0) (.int .i64 ((rd_T68 l0_0 a1).f1)) (.bool ((rd_T68 l0_0 a1).f2)) (.slice A146_3 ((rd_T68 l0_0 a1).f3).length c146_3) true _ ?side1 ?side2 ?side3 A9.out).mono ?_); (case side1 => exact cb HR152 HB); (case side2 => exact HC152.out); (case side3 => exact (bk BK147)); rintro e w19 ⟨rfl, hb⟩; refine ⟨_, rfl, ?_⟩; replace BK145 := bkb BK145 hb; replace BK147 := bkb BK147 hb; replace HB := bstep HB hb; (try clear hb); (try clear hb2); (try clear hk); (try clear hi)))
      go_ret
      exact ⟨erf, bb HB⟩
     ·replace c10 := Bool.eq_false_iff.mpr c10
      subst c10
      replace H := iff_ H
      have HC20 := Aside0.mk H
      clear H
      go_enter Try.func39, Try.ntmps39
      go_upto_region 6 with (first | ((with_reducible refine gate_dst (N := 2) rfl ?_); refine box_event ?hg (N := 2) ?hd (cs := #[.slice A0_0 l0_0.length c0_0, .slice A0_1 l0_1.length c0_1]) (t := 25) ?hr ?_; (case hd => rfl); (case hg => rfl); (case hr => first | (go_simp; done) | (go_simp; rfl)); intro gb145 hg w21 hbox hb; have BK145 := Aside0.mk (hbox); have GW145 := bsz HB hg; have GE145 := bsz HB hg; replace HB := bstep HB hb; clear hb hbox hg; obtain ⟨hcz22_0, hcz22_1, hfz22_0, hfz22_1⟩ := cz2 BK145; have p146 : 0 ≤ a1 := odt; have q146 : a1 < (l0_0.length : Int) := odt; obtain ⟨ad146, A146_3, c146_3, e146, hx146_0, hx146_1, hx146_2, hx146_3, hl146_3, hi146_3⟩ := at_T68 HR0_0.out a1 p146 q146; cases e146; replace hx146_0 := hxc HB hx146_0; replace hx146_1 := hxc HB hx146_1; replace hx146_2 := hxc HB hx146_2; replace hx146_3 := hxc HB hx146_3; have HR146_3 := Aside0.mk hi146_3; have HC146_3 := Aside0.mk hl146_3; clear hi146_3 hl146_3; replace p146 := eq_true p146; replace q146 := eq_true q146) | ((with_reducible refine gate_dst (N := 5) rfl ?_); refine box_event ?hg (N := 5) ?hd (cs := #[.string (⟨#[]⟩ : ByteArray), .int .i64 0, .bool false, .slice none 0 0]) (t := 68) ?hr ?_; (case hd => rfl); (case hg => rfl); (case hr => first | (go_simp; done) | (go_simp; rfl)); intro gb147 hg w23 hbox hb; have BK147 := Aside0.mk (hbox); have GW147 := bsz HB hg; have GE147 := bsz HB hg; replace HB := bstep HB hb; have NB145_147 := blt BK145 hg; have NB147_145 := bgt BK145 hg; replace BK145 := bkb BK145 hb; clear hb hbox hg; have hnb24 := NB147_145.out; have hnc24 := NB145_147.out; obtain ⟨hcz25_0, hcz25_1, hcz25_2, hcz25_3, hfz25_0, hfz25_1, hfz25_2, hfz25_3⟩ := cz4 BK147) | ((with_reducible refine gate_callee (f := 59) rfl ?_); refine gl 17 Try.func59 #[.string ((rd_T68 l0_0 a1).f0)] (h := ?_); (with_reducible refine (token_IsName.calls k ((rd_T68 l0_0 a1).f0) true _ A5.out).mono ?_); rintro e w26 ⟨rfl, hb⟩; refine ⟨_, rfl, ?_⟩; replace BK145 := Aside0.mk (blk_below (g := gb145) (o := .cells #[.slice (some ad146) l0_0.length c0_0, .slice A0_1 l0_1.length c0_1] 25 (0, 0)) (by (with_reducible repeat (first | refine blk_drewN ?_ _ | refine blk_drew ?_ | refine blk_alloc ?_ _)); refine blk_far ?_ NB145_147.out _; (with_reducible repeat (first | refine blk_drewN ?_ _ | refine blk_drew ?_ | refine blk_alloc ?_ _)); refine blk_far ?_ NB145_147.out _; (with_reducible repeat (first | refine blk_drewN ?_ _ | refine blk_drew ?_ | refine blk_alloc ?_ _)); refine blk_far ?_ NB145_147.out _; (with_reducible repeat (first | refine blk_drewN ?_ _ | refine blk_drew ?_ | refine blk_alloc ?_ _)); refine blk_far ?_ NB145_147.out _; (with_reducible repeat (first | refine blk_drewN ?_ _ | refine blk_drew ?_ | refine blk_alloc ?_ _)); exact BK145.out) hb); replace BK147 := Aside0.mk (blk_below (g := gb147) (o := .cells #[.string ((rd_T68 l0_0 a1).f0), .int .i64 ((rd_T68 l0_0 a1).f1), .bool ((rd_T68 l0_0 a1).f2), .slice A146_3 ((rd_T68 l0_0 a1).f3).length c146_3] 68 (0, 0)) (by (with_reducible repeat (first | refine blk_drewN ?_ _ | refine blk_drew ?_ | refine blk_alloc ?_ _)); refine blk_put (cs := #[.string ((rd_T68 l0_0 a1).f0), .int .i64 ((rd_T68 l0_0 a1).f1), .bool ((rd_T68 l0_0 a1).f2), .slice none 0 0]) ?_ 3 _ rfl; (with_reducible repeat (first | refine blk_drewN ?_ _ | refine blk_drew ?_ | refine blk_alloc ?_ _)); refine blk_put (cs := #[.string ((rd_T68 l0_0 a1).f0), .int .i64 ((rd_T68 l0_0 a1).f1), .bool false, .slice none 0 0]) ?_ 2 _ rfl; (with_reducible repeat (first | refine blk_drewN ?_ _ | refine blk_drew ?_ | refine blk_alloc ?_ _)); refine blk_put (cs := #[.string ((rd_T68 l0_0 a1).f0), .int .i64 0, .bool false, .slice none 0 0]) ?_ 1 _ rfl; (with_reducible repeat (first | refine blk_drewN ?_ _ | refine blk_drew ?_ | refine blk_alloc ?_ _)); refine blk_put (cs := #[.string (⟨#[]⟩ : ByteArray), .int .i64 0, .bool false, .slice none 0 0]) ?_ 0 _ rfl; (with_reducible repeat (first | refine blk_drewN ?_ _ | refine blk_drew ?_ | refine blk_alloc ?_ _)); exact BK147.out) hb); replace HB := bstep HB hb; (try clear hb); (try clear hb2); (try clear hk); (try clear hi); obtain ⟨hcz27_0, hcz27_1, hfz27_0, hfz27_1⟩ := cz2 BK145; have q28 : (a1 : Int) ≤ ((l0_0.length : Int) : Int) := odt; obtain ⟨i028, hi028, _, hsz28, _⟩ := info_parts info68; have hroom28 : l0_0.length ≤ c0_0 := HC0_0.out; have hC28 : Kd.C k68 _ (some ad146) l0_0.length l0_0 := HR0_0.out; have hcut28 := cut_to (P := Try.prog) 22 68 .i64 Try.underlying22 hi028 (some ad146) l0_0.length c0_0 a1 (odt) q28 hroom28; have hr28 := Kd.C_take (m := (a1 : Int).toNat) hC28 (by omega); have hy28 : y149.length = (a1 : Int).toNat := (by rw [Ny149.out, List.length_take]; omega); rw [← Ny149.out] at hr28; rw [← hy28] at hcut28; have HR152 := Aside0.mk hr28; have HC152 := Aside0.mk (show y149.length ≤ c0_0 from by omega); clear hr28 hC28 hroom28 hi028 hsz28; have KY28 := Aside0.mk hy28; clear hy28; replace q28 := eq_true q28) | ((with_reducible refine gate_callee (f := 60) rfl ?_); refine gl 25 Try.func60 #[.slice (some ad146) y149.length c0_0, .func (.func 61) #[] #[.pointer (some ⟨gb147, 0, none⟩)]] (h := ?_); (with_reducible refine (any_node.calls _ _ y149 gb147 ((rd_T68 l0_0 a1).f0) (.int .i64 ((rd_T68 l0_0 a1).f1)) (.bool ((rd_T68 l0_0 a1).f2)) (.slice A146_3 ((rd_T68 l0_0 a1).f3).length c146_3) false _ ?side1 ?side2 ?side3 A9.out).mono ?_); (case side1 => exact cb HR152 HB); (case side2 => exact HC152.out); (case side3 => exact (bk BK147)); rintro e w29 ⟨rfl, hb⟩; refine ⟨_, rfl, ?_⟩; replace BK145 := bkb BK145 hb; replace BK147 := bkb BK147 hb; replace HB := bstep HB hb; (try clear hb); (try clear hb2); (try clear hk); (try clear hi)))
      (try simp only [Act.put, List.setIfInBounds_toArray, List.set_cons_zero, List.set_cons_succ])
      go_cut [26] (fun v26 wc => ∃ (kq : Nat) (x26_19 : Bool), v26 = .bool x26_19 ∧ Aside0 (types_node.j0 kq a1 x26_19 l0_0 l0_1 ((rd_T68 l0_0 a1).f0) ((rd_T68 l0_0 a1).f1) ((rd_T68 l0_0 a1).f2) ((rd_T68 l0_0 a1).f3) = some r) ∧ Aside0 (kq ≤ k) ∧ Aside0 (wc.heap[gb145]? = some (.cells #[(.slice (some ad146) l0_0.length c0_0), (.slice A0_1 l0_1.length c0_1)] 25 (0, 0))) ∧ Aside0 (wc.heap[gb147]? = some (.cells #[.string ((rd_T68 l0_0 a1).f0), .int .i64 ((rd_T68 l0_0 a1).f1), .bool ((rd_T68 l0_0 a1).f2), (.slice A146_3 ((rd_T68 l0_0 a1).f3).length c146_3)] 68 (0, 0))) ∧ Aside0 (Below w.heap.size w wc))
      case first =>
       have H := HC20.out
       clear HC20
       by_cases c30 : ((rd_T68 l0_0 a1).f1) < (-1)
       ·rw [if_pos c30] at H
        have c30b0 : decide (((rd_T68 l0_0 a1).f1) < (-1)) = true := decide_eq_true c30
        clear c30
        (first | rw [c30b0] | (simp only [i64_w, i32_w]; rw [c30b0]) | skip)
        have H' := Aside0.mk H
        clear H
        have hnb31 := NB147_145.out
        have hnc31 := NB145_147.out
        obtain ⟨hcz32_0, hcz32_1, hcz32_2, hcz32_3, hfz32_0, hfz32_1, hfz32_2, hfz32_3⟩ := cz4 BK147
        go_wp2
        go_meet
        case rel => exact ⟨_, (true), eqs, H', ⟨by first | omega | exact Nat.le_refl _⟩, ⟨bk BK145⟩, ⟨bk BK147⟩, ⟨bb HB⟩⟩
       ·rw [if_neg c30] at H
        have c30b0 : decide (((rd_T68 l0_0 a1).f1) < (-1)) = false := decide_eq_false c30
        clear c30
        (first | rw [c30b0] | (simp only [i64_w, i32_w]; rw [c30b0]) | skip)
        have H' := Aside0.mk H
        clear H
        have hnb33 := NB147_145.out
        have hnc33 := NB145_147.out
        obtain ⟨hcz34_0, hcz34_1, hcz34_2, hcz34_3, hfz34_0, hfz34_1, hfz34_2, hfz34_3⟩ := cz4 BK147
        go_wp2
        go_meet
        case rel => exact ⟨_, (decide (((rd_T68 l0_0 a1).f1) ≥ a1)), eqs, H', ⟨by first | omega | exact Nat.le_refl _⟩, ⟨bk BK145⟩, ⟨bk BK147⟩, ⟨bb HB⟩⟩
      case rest =>
       clear HC20
       try clear c1
       try clear p1
       try clear q1
       try clear hx1
       try clear c2
       try clear p2
       try clear q2
       try clear c3
       try clear c3b0
       try clear c4
       try clear c4b0
       try clear c5
       try clear c6
       try clear c7
       try clear c7b0
       try clear c8
       try clear c8b0
       try clear c8b1
       try clear c10
       try clear c14
       try clear p14
       try clear q14
       try clear hx14
       try clear q18
       try clear c24
       try clear q28
       try clear c30
       try clear c30b0
       try clear c31
       try clear c33
       try clear hcz12_0
       try clear hcz12_1
       try clear hcz15_0
       try clear hcz15_1
       try clear hcz15_2
       try clear hcz15_3
       try clear hcz17_0
       try clear hcz17_1
       try clear hcz22_0
       try clear hcz22_1
       try clear hcz25_0
       try clear hcz25_1
       try clear hcz25_2
       try clear hcz25_3
       try clear hcz27_0
       try clear hcz27_1
       try clear hcz32_0
       try clear hcz32_1
       try clear hcz32_2
       try clear hcz32_3
       try clear hcz34_0
       try clear hcz34_1
       try clear hcz34_2
       try clear hcz34_3
       try clear hfz12_0
       try clear hfz12_1
       try clear hfz15_0
       try clear hfz15_1
       try clear hfz15_2
       try clear hfz15_3
       try clear hfz17_0
       try clear hfz17_1
       try clear hfz22_0
       try clear hfz22_1
       try clear hfz25_0
       try clear hfz25_1
       try clear hfz25_2
       try clear hfz25_3
       try clear hfz27_0
       try clear hfz27_1
       try clear hfz32_0
       try clear hfz32_1
       try clear hfz32_2
       try clear hfz32_3
       try clear hfz34_0
       try clear hfz34_1
       try clear hfz34_2
       try clear hfz34_3
       try clear hx146_0
       try clear hx146_1
       try clear hx146_2
       try clear hx146_3
       try clear p146
       try clear q146
       try clear q18
       try clear q28
       obtain ⟨kq, x26_19, rfl, HA, HJ19, BK145, BK147, HB⟩ := hcut
       cases kq with
       | zero => exact absurd HA.out (by simp [types_node.j0])
       | succ kj19 =>
        have H := HA.out
        clear HA
        simp only [types_node.j0] at H
        by_cases c35 : x26_19 = true
        ·subst c35
         replace H := ift H
         obtain rfl := Option.some.inj H
         go_wp2
         go_ret
         exact ⟨erf, bb HB⟩
        ·replace c35 := Bool.eq_false_iff.mpr c35
         subst c35
         replace H := iff_ H
         by_cases c36 : (((rd_T68 l0_0 a1).f3).length : Int) > 4
         ·rw [if_pos c36] at H
          have c36b0 : decide (4 < (((rd_T68 l0_0 a1).f3).length : Int)) = true := decide_eq_true c36
          have c36b1 : decide (4 < ((rd_T68 l0_0 a1).f3).length) = true := decide_eq_true (by omega)
          clear c36
          obtain rfl := Option.some.inj H
          have hnb37 := NB147_145.out
          have hnc37 := NB145_147.out
          obtain ⟨hcz38_0, hcz38_1, hcz38_2, hcz38_3, hfz38_0, hfz38_1, hfz38_2, hfz38_3⟩ := cz4 BK147
          go_wp2
          go_ret
          exact ⟨erf, bb HB⟩
         ·rw [if_neg c36] at H
          have c36b0 : decide (4 < (((rd_T68 l0_0 a1).f3).length : Int)) = false := decide_eq_false c36
          have c36b1 : decide (4 < ((rd_T68 l0_0 a1).f3).length) = false := decide_eq_false (by omega)
          clear c36
          replace H := Option.bind_eq_some_iff.mp H
          obtain ⟨t154, A390, H⟩ := H
          replace H : (if (t154.length : Int) > 8 then (some 3) else (types_node.l0 kj19 t154 (wrap64 ((t154.length : Int) - (((rd_T68 l0_0 a1).f3).length : Int))))) = some r := H
          have A39 := Aside0.mk A390
          clear A390
          by_cases c40 : (t154.length : Int) > 8
          ·rw [if_pos c40] at H
           have c40b0 : decide (8 < (t154.length : Int)) = true := decide_eq_true c40
           have c40b1 : decide (8 < t154.length) = true := decide_eq_true (by omega)
           clear c40
           obtain rfl := Option.some.inj H
           have hnb41 := NB147_145.out
           have hnc41 := NB145_147.out
           obtain ⟨hcz42_0, hcz42_1, hcz42_2, hcz42_3, hfz42_0, hfz42_1, hfz42_2, hfz42_3⟩ := cz4 BK147
           obtain ⟨hcz43_0, hcz43_1, hfz43_0, hfz43_1⟩ := cz2 BK145
           go_wp2_with (first | ((with_reducible refine gate_callee (f := 49) rfl ?_); refine gl 43 Try.func49 #[.agg #[.slice (some ad146) l0_0.length c0_0, .slice A0_1 l0_1.length c0_1], .int .i64 a1] (h := ?_); (with_reducible refine (types_attrs.calls kj19 (fun k_ => k_ < w.heap.size) _ _ l0_0 _ _ l0_1 a1 t154 _ ?side1 ?side2 ?side3 A39.out).mono ?_); (case side1 => exact Kd.V_mk HC0_0.out (Kd.F_below (Kd.C_F k68_heap HR0_0.out) (bb HB))); (case side2 => exact cb HR0_1 HB); (case side3 => exact HC0_1.out); rintro e w44 ⟨v155, rfl, ho0, hb⟩; refine ⟨_, rfl, ?_⟩; have HO156 := Aside0.mk (Kd.N_lower (Kd.N_mono (ok' := fun k_ => k_ ≠ gb145 ∧ k_ ≠ gb147) ho0 (fun k_ hk_ => ⟨Or.elim hk_ (fun hs_ => fun e_ => Nat.not_le.2 hs_ (by rw [e_]; exact GW145.out)) (fun hn_ => (Kd.freshB (g := gb145) (o := .cells #[.slice (some ad146) l0_0.length c0_0, .slice A0_1 l0_1.length c0_1] 25 (0, 0)) (bk BK145) k_ hn_)), Or.elim hk_ (fun hs_ => fun e_ => Nat.not_le.2 hs_ (by rw [e_]; exact GW147.out)) (fun hn_ => (Kd.freshB (g := gb147) (o := .cells #[.string ((rd_T68 l0_0 a1).f0), .int .i64 ((rd_T68 l0_0 a1).f1), .bool ((rd_T68 l0_0 a1).f2), .slice A146_3 ((rd_T68 l0_0 a1).f3).length c146_3] 68 (0, 0)) (bk BK147) k_ hn_))⟩)) (below_size (bb HB))); replace BK145 := bkb BK145 hb; replace BK147 := bkb BK147 hb; replace HB := bstep HB hb; (try clear hb); (try clear hb2); (try clear hk); (try clear hi); (try clear ho0); obtain ⟨Ao45, co45, eo45⟩ := Kd.N_slice HO156.out; subst eo45))
           go_ret
           exact ⟨erf, bb HB⟩
          ·rw [if_neg c40] at H
           have c40b0 : decide (8 < (t154.length : Int)) = false := decide_eq_false c40
           have c40b1 : decide (8 < t154.length) = false := decide_eq_false (by omega)
           clear c40
           have H' := Aside0.mk H
           clear H
           have hnb46 := NB147_145.out
           have hnc46 := NB145_147.out
           obtain ⟨hcz47_0, hcz47_1, hcz47_2, hcz47_3, hfz47_0, hfz47_1, hfz47_2, hfz47_3⟩ := cz4 BK147
           obtain ⟨hcz48_0, hcz48_1, hfz48_0, hfz48_1⟩ := cz2 BK145
           go_wp2_with (first | ((with_reducible refine gate_callee (f := 49) rfl ?_); refine gl 43 Try.func49 #[.agg #[.slice (some ad146) l0_0.length c0_0, .slice A0_1 l0_1.length c0_1], .int .i64 a1] (h := ?_); (with_reducible refine (types_attrs.calls kj19 (fun k_ => k_ < w.heap.size) _ _ l0_0 _ _ l0_1 a1 t154 _ ?side1 ?side2 ?side3 A39.out).mono ?_); (case side1 => exact Kd.V_mk HC0_0.out (Kd.F_below (Kd.C_F k68_heap HR0_0.out) (bb HB))); (case side2 => exact cb HR0_1 HB); (case side3 => exact HC0_1.out); rintro e w49 ⟨v155, rfl, ho0, hb⟩; refine ⟨_, rfl, ?_⟩; have HO156 := Aside0.mk (Kd.N_lower (Kd.N_mono (ok' := fun k_ => k_ ≠ gb145 ∧ k_ ≠ gb147) ho0 (fun k_ hk_ => ⟨Or.elim hk_ (fun hs_ => fun e_ => Nat.not_le.2 hs_ (by rw [e_]; exact GW145.out)) (fun hn_ => (Kd.freshB (g := gb145) (o := .cells #[.slice (some ad146) l0_0.length c0_0, .slice A0_1 l0_1.length c0_1] 25 (0, 0)) (bk BK145) k_ hn_)), Or.elim hk_ (fun hs_ => fun e_ => Nat.not_le.2 hs_ (by rw [e_]; exact GW147.out)) (fun hn_ => (Kd.freshB (g := gb147) (o := .cells #[.string ((rd_T68 l0_0 a1).f0), .int .i64 ((rd_T68 l0_0 a1).f1), .bool ((rd_T68 l0_0 a1).f2), .slice A146_3 ((rd_T68 l0_0 a1).f3).length c146_3] 68 (0, 0)) (bk BK147) k_ hn_))⟩)) (below_size (bb HB))); replace BK145 := bkb BK145 hb; replace BK147 := bkb BK147 hb; replace HB := bstep HB hb; (try clear hb); (try clear hb2); (try clear hk); (try clear hi); (try clear ho0); obtain ⟨Ao50, co50, eo50⟩ := Kd.N_slice HO156.out; subst eo50; obtain ⟨hcz51_0, hcz51_1, hcz51_2, hcz51_3, hfz51_0, hfz51_1, hfz51_2, hfz51_3⟩ := cz4 BK147))
           go_loopg [7] kj19 (fun kq v7 w' => ∃ (x7_2 : Int), v7 = .int .i64 x7_2 ∧ Aside0 (types_node.l0 kq t154 x7_2 = some r) ∧ Aside0 (kq ≤ kj19) ∧ Aside0 (Kd.N k77 77 w' w.heap.size (fun k_ => k_ ≠ gb145 ∧ k_ ≠ gb147) (.slice Ao50 t154.length co50) t154) ∧ Aside0 (w'.heap[gb145]? = some (.cells #[(.slice (some ad146) l0_0.length c0_0), (.slice A0_1 l0_1.length c0_1)] 25 (0, 0))) ∧ Aside0 (w'.heap[gb147]? = some (.cells #[.string ((rd_T68 l0_0 a1).f0), .int .i64 ((rd_T68 l0_0 a1).f1), .bool ((rd_T68 l0_0 a1).f2), (.slice A146_3 ((rd_T68 l0_0 a1).f3).length c146_3)] 68 (0, 0))) ∧ Aside0 (Below w.heap.size w w'))
           case atStart => exact ⟨(wrap64 ((t154.length : Int) - (((rd_T68 l0_0 a1).f3).length : Int))), eqs, H', ⟨Nat.le_refl _⟩, ⟨kN HO156⟩, ⟨bk BK145⟩, ⟨bk BK147⟩, ⟨bb HB⟩⟩
           case round =>
            clear H'
            try clear c1
            try clear p1
            try clear q1
            try clear hx1
            try clear c2
            try clear p2
            try clear q2
            try clear c3
            try clear c3b0
            try clear c4
            try clear c4b0
            try clear c5
            try clear c6
            try clear p6
            try clear c7
            try clear c7b0
            try clear c8
            try clear c8b0
            try clear c8b1
            try clear c10
            try clear c14
            try clear p14
            try clear q14
            try clear hx14
            try clear q18
            try clear c24
            try clear q28
            try clear c30
            try clear c30b0
            try clear c31
            try clear c33
            try clear c35
            try clear c36
            try clear c36b0
            try clear c36b1
            try clear c37
            try clear c39
            try clear c40
            try clear c40b0
            try clear c40b1
            try clear c41
            try clear c46
            try clear c49
            try clear hcz12_0
            try clear hcz12_1
            try clear hcz15_0
            try clear hcz15_1
            try clear hcz15_2
            try clear hcz15_3
            try clear hcz17_0
            try clear hcz17_1
            try clear hcz22_0
            try clear hcz22_1
            try clear hcz25_0
            try clear hcz25_1
            try clear hcz25_2
            try clear hcz25_3
            try clear hcz27_0
            try clear hcz27_1
            try clear hcz32_0
            try clear hcz32_1
            try clear hcz32_2
            try clear hcz32_3
            try clear hcz34_0
            try clear hcz34_1
            try clear hcz34_2
            try clear hcz34_3
            try clear hcz38_0
            try clear hcz38_1
            try clear hcz38_2
            try clear hcz38_3
            try clear hcz42_0
            try clear hcz42_1
            try clear hcz42_2
            try clear hcz42_3
            try clear hcz43_0
            try clear hcz43_1
            try clear hcz47_0
            try clear hcz47_1
            try clear hcz47_2
            try clear hcz47_3
            try clear hcz48_0
            try clear hcz48_1
            try clear hcz51_0
            try clear hcz51_1
            try clear hcz51_2
            try clear hcz51_3
            try clear hfz12_0
            try clear hfz12_1
            try clear hfz15_0
            try clear hfz15_1
            try clear hfz15_2
            try clear hfz15_3
            try clear hfz17_0
            try clear hfz17_1
            try clear hfz22_0
            try clear hfz22_1
            try clear hfz25_0
            try clear hfz25_1
            try clear hfz25_2
            try clear hfz25_3
            try clear hfz27_0
            try clear hfz27_1
            try clear hfz32_0
            try clear hfz32_1
            try clear hfz32_2
            try clear hfz32_3
            try clear hfz34_0
            try clear hfz34_1
            try clear hfz34_2
            try clear hfz34_3
            try clear hfz38_0
            try clear hfz38_1
            try clear hfz38_2
            try clear hfz38_3
            try clear hfz42_0
            try clear hfz42_1
            try clear hfz42_2
            try clear hfz42_3
            try clear hfz43_0
            try clear hfz43_1
            try clear hfz47_0
            try clear hfz47_1
            try clear hfz47_2
            try clear hfz47_3
            try clear hfz48_0
            try clear hfz48_1
            try clear hfz51_0
            try clear hfz51_1
            try clear hfz51_2
            try clear hfz51_3
            try clear hx146_0
            try clear hx146_1
            try clear hx146_2
            try clear hx146_3
            try clear p1
            try clear p14
            try clear p146
            try clear p2
            try clear q1
            try clear q14
            try clear q146
            try clear q18
            try clear q2
            try clear q28
            obtain ⟨x7_2, rfl, HA, HK2, HO_6, BK145, BK147, HB⟩ := hrel
            cases gk with
            | zero => exact absurd HA.out (by simp [types_node.l0])
            | succ k2 =>
             have H := HA.out
             clear HA
             simp only [types_node.l0] at H
             by_cases c52 : x7_2 < (t154.length : Int)
             ·rw [if_pos c52] at H
              have c52b0 : decide (x7_2 < (t154.length : Int)) = true := decide_eq_true c52
              clear c52
              by_cases c53 : 0 ≤ x7_2
              ·rw [if_pos c53] at H
               have c53b0 : decide (0 ≤ x7_2) = true := decide_eq_true c53
               clear c53
               have c54b0 := eq_true (odt : 0 ≤ x7_2)
               by_cases c55 : x7_2 ≤ (t154.length : Int)
               ·rw [if_pos c55] at H
                have c55b0 := eq_true c55
                have c55b1 : decide (x7_2 ≤ (t154.length : Int)) = true := decide_eq_true c55
                clear c55
                obtain ⟨y158, hy158⟩ : ∃ y_ : List (S77), y_ = (t154.take (x7_2 : Int).toNat) := ⟨_, rfl⟩
                replace H : ((types_attribute.f k2 ((rd_T77 t154 x7_2).f0) ((rd_T77 t154 x7_2).f1) ((rd_T77 t154 x7_2).f2) ((rd_T77 t154 x7_2).f3) y158).bind fun t163 => (if t163 = 0 then (types_node.l0 k2 t154 (wrap64 (x7_2 + 1))) else (some t163))) = some r := by first | (rw [hy158]; with_reducible exact H) | (have H2_ := (Option.bind_some _ _).symm.trans H; rw [hy158]; with_reducible exact H2_) | (have H2_ := (Option.bind_some _ _).symm.trans H; with_reducible exact H2_) | with_reducible exact H | (rw [hy158]; exact H) | exact H
                have Ny158 := Aside0.mk hy158
                clear hy158
                replace H := Option.bind_eq_some_iff.mp H
                obtain ⟨t163, A560, H⟩ := H
                replace H : (if t163 = 0 then (types_node.l0 k2 t154 (wrap64 (x7_2 + 1))) else (some t163)) = some r := H
                have A56 := Aside0.mk A560
                clear A560
                by_cases c57 : t163 = 0
                ·rw [if_pos c57] at H
                 have c57b0 : (t163 == 0) = true := beq_iff_eq.mpr c57
                 have c57b1 : (t163 != 0) = false := bne_eq_false_iff_eq.mpr c57
                 clear c57
                 have H' := Aside0.mk H
                 clear H
                 try go_wp2
                 replace HO_6 := Aside0.mk (Kd.N_drew HO_6.out)
                 replace BK145 := Aside0.mk (blk_drew BK145.out)
                 replace BK147 := Aside0.mk (blk_drew BK147.out)
                 replace HB := Aside0.mk (below_drew1 HB.out)
                 have p157 : 0 ≤ x7_2 := odt
                 have q157 : x7_2 < (t154.length : Int) := odt
                 obtain ⟨ad157, A157_3, c157_3, e157, hx157_0, hx157_1, hx157_2, hx157_3, hl157_3, hi157_3⟩ := at_T77 (Kd.N_reads' HO_6.out).2.2 x7_2 p157 q157
                 cases e157
                 obtain ⟨ce157, hce157, hMe157, hcc157⟩ := Kd.N_get HO_6.out z77 x7_2 p157 (by first | exact q157 | exact odt | (have e_ := (Kd.N_reads' HO_6.out).1; omega))
                 obtain ⟨ua157_3, uc157_3, rfl, ul157_3, ge157_3⟩ := k77_openF hMe157
                 have hv157_3 := hcc157 3 _ rfl
                 rw [add_field _ _ 3 (by omega)] at hv157_3
                 replace hv157_3 := Option.some.inj (hv157_3.symm.trans hx157_3)
                 injection hv157_3 with hva_ hvn_ hvc_
                 rw [hva_] at ge157_3
                 rw [hvc_] at ul157_3
                 have HL157_3 := Aside0.mk (show Kd.V Kd.string 9 _ w.heap.size _ _ ((rd_T77 t154 x7_2).f3) from Kd.V_mk ul157_3 ge157_3)
                 clear hva_ hvn_ hvc_ ge157_3 ul157_3 hcc157 hce157
                 have HR157_3 := Aside0.mk hi157_3
                 have HC157_3 := Aside0.mk hl157_3
                 clear hi157_3 hl157_3
                 replace p157 := eq_true p157
                 replace q157 := eq_true q157
                 have q59 : (x7_2 : Int) ≤ ((t154.length : Int) : Int) := odt
                 obtain ⟨i059, hi059, _, hsz59, _⟩ := info_parts info77
                 have hroom59 : t154.length ≤ co50 := (Kd.N_reads' HO_6.out).2.1
                 have hC59 : Kd.F k77 _ _ (some ad157) t154.length t154 := (Kd.V_at (base := w.heap.size) (Kd.N_V HO_6.out)).2.2
                 have hcut59 := cut_to (P := Try.prog) 45 77 .i64 Try.underlying45 hi059 (some ad157) t154.length co50 x7_2 (odt) q59 hroom59
                 have hr59 := Kd.F_take (m := (x7_2 : Int).toNat) hC59 (by omega)
                 have hy59 : y158.length = (x7_2 : Int).toNat := (by rw [Ny158.out, List.length_take]; omega)
                 rw [← Ny158.out] at hr59
                 rw [← hy59] at hcut59
                 have HO162 := Aside0.mk (show Kd.V k77 77 _ w.heap.size _ (.slice (some ad157) y158.length co50) y158 from Kd.V_mk (by omega) hr59)
                 have HC162 := Aside0.mk (show y158.length ≤ co50 from by omega)
                 clear hr59 hC59 hroom59 hi059 hsz59
                 have KY59 := Aside0.mk hy59
                 clear hy59
                 replace q59 := eq_true q59
                 refine start_ (n := 9) (S := fun w' => w'.cell? (ad157.add ((x7_2).toNat * 4)) = some (.string ((rd_T77 t154 x7_2).f0)) ∧ w'.cell? ⟨(ad157.add ((x7_2).toNat * 4)).block, (ad157.add ((x7_2).toNat * 4)).off + 1, none⟩ = some (.int .i64 ((rd_T77 t154 x7_2).f1)) ∧ w'.cell? ⟨(ad157.add ((x7_2).toNat * 4)).block, (ad157.add ((x7_2).toNat * 4)).off + 2, none⟩ = some (.int .i64 ((rd_T77 t154 x7_2).f2)) ∧ w'.cell? ⟨(ad157.add ((x7_2).toNat * 4)).block, (ad157.add ((x7_2).toNat * 4)).off + 3, none⟩ = some (.slice A157_3 ((rd_T77 t154 x7_2).f3).length c157_3)) (ds := []) #[false, false, false, false, false, false, false, false, false] (by kernel_rfl) rfl rfl ⟨hx157_0, hx157_1, hx157_2, hx157_3⟩ (fun hHeld => ?_); refine with_tabW types_node.tab16 types_node.bits16 (fun HT_ HW_ => ?_)
                 generalize wr.drew = w58 at HO_6 BK145 BK147 HB HL157_3 HO162 HR157_3 hx157_0 hx157_1 hx157_2 hx157_3 hHeld ⊢
                 refine pu 0 59 (bits 9 0x1) HT_ (h := ?_)
                 refine pu 1 60 (bits 9 0x3) HT_ (h := ?_)
                 refine pu 2 61 (bits 9 0x7) HT_ (h := ?_)
                 refine pu 4 63 (bits 9 0x17) HT_ (h := ?_)
                 refine pu 5 64 (bits 9 0x37) HT_ (h := ?_)
                 refine pu 6 65 (bits 9 0x77) HT_ (h := ?_)
                 refine tk 3 62 (bits 9 0x7f) HT_ HW_ hHeld (hy := by rintro w' ⟨s0, s1, s2, s3⟩; go_simp; with_reducible rfl) (h := ?_)
                 refine one_ (i := 7) (N := some 66) #[true, true, true, true, true, true, true, true, false] rfl rfl (one_of HT_.out (by kernel_rfl)) (by decide) (fun K hK => ?_)
                 refine goes_ Try.func62 (by kernel_rfl) rfl #[.agg #[.string ((rd_T77 t154 x7_2).f0), .int .i64 ((rd_T77 t154 x7_2).f1), .int .i64 ((rd_T77 t154 x7_2).f2), .slice A157_3 ((rd_T77 t154 x7_2).f3).length c157_3], .slice (some ad157) y158.length co50] (by rfl) rfl rfl (by (try simp only [List.map_toArray, List.map_cons, List.map_nil]); first | done | rfl | (simp only [List.length_drop, List.length_take]; rfl)) ?_
                 with_reducible refine (types_attribute.calls k2 ((rd_T77 t154 x7_2).f0) ((rd_T77 t154 x7_2).f1) ((rd_T77 t154 x7_2).f2) _ _ ((rd_T77 t154 x7_2).f3) _ _ y158 t163 _ ?side1 ?side2 ?side3 ?side4 A56.out).mono ?_
                 (case side1 => repeat (first | exact (kC HR157_3) | (with_reducible refine Kd.C_alloc ?_ _) | (with_reducible refine Kd.C_drewN ?_ _) | (with_reducible refine Kd.C_drew ?_)))
                 (case side2 => exact HC157_3.out)
                 (case side3 => repeat (first | exact (Kd.V_reads' HO162.out).2.2 | (with_reducible refine Kd.C_alloc ?_ _) | (with_reducible refine Kd.C_drewN ?_ _) | (with_reducible refine Kd.C_drew ?_)))
                 (case side4 => exact (Kd.V_reads' HO162.out).2.1)
                 rintro e w60 ⟨rfl, hb⟩
                 have HS0_ := (hb.cell (World.block_lt_of_cell? _ _ (hHeld.1))).trans (hHeld.1)
                 have HS1_ := (hb.cell (World.block_lt_of_cell? _ _ (hHeld.2.1))).trans (hHeld.2.1)
                 have HS2_ := (hb.cell (World.block_lt_of_cell? _ _ (hHeld.2.2.1))).trans (hHeld.2.2.1)
                 have HS3_ := (hb.cell (World.block_lt_of_cell? _ _ (hHeld.2.2.2))).trans (hHeld.2.2.2)
                 refine ⟨_, rfl, ?_⟩
                 replace HO_6 := kNb HO_6 hb
                 replace HL157_3 := kVb HL157_3 hb
                 replace HO162 := kVb HO162 hb
                 replace BK145 := bkb BK145 hb
                 replace BK147 := bkb BK147 hb
                 replace HR157_3 := kCb HR157_3 hb
                 replace HB := bstep HB hb
                 (try clear hb)
                 (try clear hb2)
                 (try clear hk)
                 (try clear hi)
                 refine hK.out _ _ ⟨HS0_, HS1_, HS2_, HS3_⟩ (fun hHeld => ?_)
                 clear hK K
                 refine norm_ (a' := ?_) ?_ ?_
                 rotate_left
                 ·show Act.put _ (some 66) _ = _
                  simp only [Act.put, List.setIfInBounds_toArray, List.set_cons_zero, List.set_cons_succ, i64_w, i32_w]
                  rfl
                 refine pu 8 8 (bits 9 0x1ff) HT_ (h := ?_)
                 refine done_ (done_of HT_.out (by kernel_rfl)) ?_
                 try go_wp2
                 go_roundg k2
                 case measure => have := HJ19.out; have := HK2.out; omega
                 case rel => exact ⟨(wrap64 (x7_2 + 1)), eqs, H', ⟨by have := HJ19.out; have := HK2.out; omega⟩, ⟨kN HO_6⟩, ⟨bk BK145⟩, ⟨bk BK147⟩, ⟨bb HB⟩⟩
                ·rw [if_neg c57] at H
                 have c57b0 : (t163 == 0) = false := beq_eq_false_iff_ne.mpr c57
                 have c57b1 : (t163 != 0) = true := bne_iff_ne.mpr c57
                 obtain rfl := Option.some.inj H
                 try go_wp2
                 replace HO_6 := Aside0.mk (Kd.N_drew HO_6.out)
                 replace BK145 := Aside0.mk (blk_drew BK145.out)
                 replace BK147 := Aside0.mk (blk_drew BK147.out)
                 replace HB := Aside0.mk (below_drew1 HB.out)
                 have p157 : 0 ≤ x7_2 := odt
                 have q157 : x7_2 < (t154.length : Int) := odt
                 obtain ⟨ad157, A157_3, c157_3, e157, hx157_0, hx157_1, hx157_2, hx157_3, hl157_3, hi157_3⟩ := at_T77 (Kd.N_reads' HO_6.out).2.2 x7_2 p157 q157
                 cases e157
                 obtain ⟨ce157, hce157, hMe157, hcc157⟩ := Kd.N_get HO_6.out z77 x7_2 p157 (by first | exact q157 | exact odt | (have e_ := (Kd.N_reads' HO_6.out).1; omega))
                 obtain ⟨ua157_3, uc157_3, rfl, ul157_3, ge157_3⟩ := k77_openF hMe157
                 have hv157_3 := hcc157 3 _ rfl
                 rw [add_field _ _ 3 (by omega)] at hv157_3
                 replace hv157_3 := Option.some.inj (hv157_3.symm.trans hx157_3)
                 injection hv157_3 with hva_ hvn_ hvc_
                 rw [hva_] at ge157_3
                 rw [hvc_] at ul157_3
                 have HL157_3 := Aside0.mk (show Kd.V Kd.string 9 _ w.heap.size _ _ ((rd_T77 t154 x7_2).f3) from Kd.V_mk ul157_3 ge157_3)
                 clear hva_ hvn_ hvc_ ge157_3 ul157_3 hcc157 hce157
                 have HR157_3 := Aside0.mk hi157_3
                 have HC157_3 := Aside0.mk hl157_3
                 clear hi157_3 hl157_3
                 replace p157 := eq_true p157
                 replace q157 := eq_true q157
                 have q62 : (x7_2 : Int) ≤ ((t154.length : Int) : Int) := odt
                 obtain ⟨i062, hi062, _, hsz62, _⟩ := info_parts info77
                 have hroom62 : t154.length ≤ co50 := (Kd.N_reads' HO_6.out).2.1
                 have hC62 : Kd.F k77 _ _ (some ad157) t154.length t154 := (Kd.V_at (base := w.heap.size) (Kd.N_V HO_6.out)).2.2
                 have hcut62 := cut_to (P := Try.prog) 45 77 .i64 Try.underlying45 hi062 (some ad157) t154.length co50 x7_2 (odt) q62 hroom62
                 have hr62 := Kd.F_take (m := (x7_2 : Int).toNat) hC62 (by omega)
                 have hy62 : y158.length = (x7_2 : Int).toNat := (by rw [Ny158.out, List.length_take]; omega)
                 rw [← Ny158.out] at hr62
                 rw [← hy62] at hcut62
                 have HO162 := Aside0.mk (show Kd.V k77 77 _ w.heap.size _ (.slice (some ad157) y158.length co50) y158 from Kd.V_mk (by omega) hr62)
                 have HC162 := Aside0.mk (show y158.length ≤ co50 from by omega)
                 clear hr62 hC62 hroom62 hi062 hsz62
                 have KY62 := Aside0.mk hy62
                 clear hy62
                 replace q62 := eq_true q62
                 refine start_ (n := 9) (S := fun w' => w'.cell? (ad157.add ((x7_2).toNat * 4)) = some (.string ((rd_T77 t154 x7_2).f0)) ∧ w'.cell? ⟨(ad157.add ((x7_2).toNat * 4)).block, (ad157.add ((x7_2).toNat * 4)).off + 1, none⟩ = some (.int .i64 ((rd_T77 t154 x7_2).f1)) ∧ w'.cell? ⟨(ad157.add ((x7_2).toNat * 4)).block, (ad157.add ((x7_2).toNat * 4)).off + 2, none⟩ = some (.int .i64 ((rd_T77 t154 x7_2).f2)) ∧ w'.cell? ⟨(ad157.add ((x7_2).toNat * 4)).block, (ad157.add ((x7_2).toNat * 4)).off + 3, none⟩ = some (.slice A157_3 ((rd_T77 t154 x7_2).f3).length c157_3)) (ds := []) #[false, false, false, false, false, false, false, false, false] (by kernel_rfl) rfl rfl ⟨hx157_0, hx157_1, hx157_2, hx157_3⟩ (fun hHeld => ?_); refine with_tabW types_node.tab16 types_node.bits16 (fun HT_ HW_ => ?_)
                 generalize wr.drew = w61 at HO_6 BK145 BK147 HB HL157_3 HO162 HR157_3 hx157_0 hx157_1 hx157_2 hx157_3 hHeld ⊢
                 refine pu 0 59 (bits 9 0x1) HT_ (h := ?_)
                 refine pu 1 60 (bits 9 0x3) HT_ (h := ?_)
                 refine pu 2 61 (bits 9 0x7) HT_ (h := ?_)
                 refine pu 4 63 (bits 9 0x17) HT_ (h := ?_)
                 refine pu 5 64 (bits 9 0x37) HT_ (h := ?_)
                 refine pu 6 65 (bits 9 0x77) HT_ (h := ?_)
                 refine tk 3 62 (bits 9 0x7f) HT_ HW_ hHeld (hy := by rintro w' ⟨s0, s1, s2, s3⟩; go_simp; with_reducible rfl) (h := ?_)
                 refine one_ (i := 7) (N := some 66) #[true, true, true, true, true, true, true, true, false] rfl rfl (one_of HT_.out (by kernel_rfl)) (by decide) (fun K hK => ?_)
                 refine goes_ Try.func62 (by kernel_rfl) rfl #[.agg #[.string ((rd_T77 t154 x7_2).f0), .int .i64 ((rd_T77 t154 x7_2).f1), .int .i64 ((rd_T77 t154 x7_2).f2), .slice A157_3 ((rd_T77 t154 x7_2).f3).length c157_3], .slice (some ad157) y158.length co50] (by rfl) rfl rfl (by (try simp only [List.map_toArray, List.map_cons, List.map_nil]); first | done | rfl | (simp only [List.length_drop, List.length_take]; rfl)) ?_
                 with_reducible refine (types_attribute.calls k2 ((rd_T77 t154 x7_2).f0) ((rd_T77 t154 x7_2).f1) ((rd_T77 t154 x7_2).f2) _ _ ((rd_T77 t154 x7_2).f3) _ _ y158 t163 _ ?side1 ?side2 ?side3 ?side4 A56.out).mono ?_
                 (case side1 => repeat (first | exact (kC HR157_3) | (with_reducible refine Kd.C_alloc ?_ _) | (with_reducible refine Kd.C_drewN ?_ _) | (with_reducible refine Kd.C_drew ?_)))
                 (case side2 => exact HC157_3.out)
                 (case side3 => repeat (first | exact (Kd.V_reads' HO162.out).2.2 | (with_reducible refine Kd.C_alloc ?_ _) | (with_reducible refine Kd.C_drewN ?_ _) | (with_reducible refine Kd.C_drew ?_)))
                 (case side4 => exact (Kd.V_reads' HO162.out).2.1)
                 rintro e w63 ⟨rfl, hb⟩
                 have HS0_ := (hb.cell (World.block_lt_of_cell? _ _ (hHeld.1))).trans (hHeld.1)
                 have HS1_ := (hb.cell (World.block_lt_of_cell? _ _ (hHeld.2.1))).trans (hHeld.2.1)
                 have HS2_ := (hb.cell (World.block_lt_of_cell? _ _ (hHeld.2.2.1))).trans (hHeld.2.2.1)
                 have HS3_ := (hb.cell (World.block_lt_of_cell? _ _ (hHeld.2.2.2))).trans (hHeld.2.2.2)
                 refine ⟨_, rfl, ?_⟩
                 replace HO_6 := kNb HO_6 hb
                 replace HL157_3 := kVb HL157_3 hb
                 replace HO162 := kVb HO162 hb
                 replace BK145 := bkb BK145 hb
                 replace BK147 := bkb BK147 hb
                 replace HR157_3 := kCb HR157_3 hb
                 replace HB := bstep HB hb
                 (try clear hb)
                 (try clear hb2)
                 (try clear hk)
                 (try clear hi)
                 refine hK.out _ _ ⟨HS0_, HS1_, HS2_, HS3_⟩ (fun hHeld => ?_)
                 clear hK K
                 refine norm_ (a' := ?_) ?_ ?_
                 rotate_left
                 ·show Act.put _ (some 66) _ = _
                  simp only [Act.put, List.setIfInBounds_toArray, List.set_cons_zero, List.set_cons_succ, i64_w, i32_w]
                  rfl
                 refine pu 8 8 (bits 9 0x1ff) HT_ (h := ?_)
                 refine done_ (done_of HT_.out (by kernel_rfl)) ?_
                 try go_wp2
                 go_ret
                 exact ⟨erf, bb HB⟩
               ·rw [if_neg c55] at H
                exact absurd H (by simp)
              ·rw [if_neg c53] at H
               exact absurd H (by simp)
             ·rw [if_neg c52] at H
              have c52b0 : decide (x7_2 < (t154.length : Int)) = false := decide_eq_false c52
              clear c52
              obtain rfl := Option.some.inj H
              go_wp2
              go_ret
              exact ⟨erf, bb HB⟩
    ·rw [if_neg c8] at H
     exact absurd H (by simp)
   ·replace c6 := Bool.eq_false_iff.mpr c6
    subst c6
    replace H := iff_ H
    obtain rfl := Option.some.inj H
    go_enter Try.func39, Try.ntmps39
    go_wp2_with (first | ((with_reducible refine gate_dst (N := 2) rfl ?_); refine box_event ?hg (N := 2) ?hd (cs := #[.slice A0_0 l0_0.length c0_0, .slice A0_1 l0_1.length c0_1]) (t := 25) ?hr ?_; (case hd => rfl); (case hg => rfl); (case hr => first | (go_simp; done) | (go_simp; rfl)); intro gb145 hg w64 hbox hb; have BK145 := Aside0.mk (hbox); have GW145 := bsz HB hg; have GE145 := bsz HB hg; replace HB := bstep HB hb; clear hb hbox hg; obtain ⟨hcz65_0, hcz65_1, hfz65_0, hfz65_1⟩ := cz2 BK145; have p146 : 0 ≤ a1 := odt; have q146 : a1 < (l0_0.length : Int) := odt; obtain ⟨ad146, A146_3, c146_3, e146, hx146_0, hx146_1, hx146_2, hx146_3, hl146_3, hi146_3⟩ := at_T68 HR0_0.out a1 p146 q146; cases e146; replace hx146_0 := hxc HB hx146_0; replace hx146_1 := hxc HB hx146_1; replace hx146_2 := hxc HB hx146_2; replace hx146_3 := hxc HB hx146_3; have HR146_3 := Aside0.mk hi146_3; have HC146_3 := Aside0.mk hl146_3; clear hi146_3 hl146_3; replace p146 := eq_true p146; replace q146 := eq_true q146) | ((with_reducible refine gate_dst (N := 5) rfl ?_); refine box_event ?hg (N := 5) ?hd (cs := #[.string (⟨#[]⟩ : ByteArray), .int .i64 0, .bool false, .slice none 0 0]) (t := 68) ?hr ?_; (case hd => rfl); (case hg => rfl); (case hr => first | (go_simp; done) | (go_simp; rfl)); intro gb147 hg w66 hbox hb; have BK147 := Aside0.mk (hbox); have GW147 := bsz HB hg; have GE147 := bsz HB hg; replace HB := bstep HB hb; have NB145_147 := blt BK145 hg; have NB147_145 := bgt BK145 hg; replace BK145 := bkb BK145 hb; clear hb hbox hg; have hnb67 := NB147_145.out; have hnc67 := NB145_147.out; obtain ⟨hcz68_0, hcz68_1, hcz68_2, hcz68_3, hfz68_0, hfz68_1, hfz68_2, hfz68_3⟩ := cz4 BK147) | ((with_reducible refine gate_callee (f := 59) rfl ?_); refine gl 17 Try.func59 #[.string ((rd_T68 l0_0 a1).f0)] (h := ?_); (with_reducible refine (token_IsName.calls k ((rd_T68 l0_0 a1).f0) false _ A5.out).mono ?_); rintro e w69 ⟨rfl, hb⟩; refine ⟨_, rfl, ?_⟩; replace BK145 := Aside0.mk (blk_below (g := gb145) (o := .cells #[.slice (some ad146) l0_0.length c0_0, .slice A0_1 l0_1.length c0_1] 25 (0, 0)) (by (with_reducible repeat (first | refine blk_drewN ?_ _ | refine blk_drew ?_ | refine blk_alloc ?_ _)); refine blk_far ?_ NB145_147.out _; (with_reducible repeat (first | refine blk_drewN ?_ _ | refine blk_drew ?_ | refine blk_alloc ?_ _)); refine blk_far ?_ NB145_147.out _; (with_reducible repeat (first | refine blk_drewN ?_ _ | refine blk_drew ?_ | refine blk_alloc ?_ _)); refine blk_far ?_ NB145_147.out _; (with_reducible repeat (first | refine blk_drewN ?_ _ | refine blk_drew ?_ | refine blk_alloc ?_ _)); refine blk_far ?_ NB145_147.out _; (with_reducible repeat (first | refine blk_drewN ?_ _ | refine blk_drew ?_ | refine blk_alloc ?_ _)); exact BK145.out) hb); replace BK147 := Aside0.mk (blk_below (g := gb147) (o := .cells #[.string ((rd_T68 l0_0 a1).f0), .int .i64 ((rd_T68 l0_0 a1).f1), .bool ((rd_T68 l0_0 a1).f2), .slice A146_3 ((rd_T68 l0_0 a1).f3).length c146_3] 68 (0, 0)) (by (with_reducible repeat (first | refine blk_drewN ?_ _ | refine blk_drew ?_ | refine blk_alloc ?_ _)); refine blk_put (cs := #[.string ((rd_T68 l0_0 a1).f0), .int .i64 ((rd_T68 l0_0 a1).f1), .bool ((rd_T68 l0_0 a1).f2), .slice none 0 0]) ?_ 3 _ rfl; (with_reducible repeat (first | refine blk_drewN ?_ _ | refine blk_drew ?_ | refine blk_alloc ?_ _)); refine blk_put (cs := #[.string ((rd_T68 l0_0 a1).f0), .int .i64 ((rd_T68 l0_0 a1).f1), .bool false, .slice none 0 0]) ?_ 2 _ rfl; (with_reducible repeat (first | refine blk_drewN ?_ _ | refine blk_drew ?_ | refine blk_alloc ?_ _)); refine blk_put (cs := #[.string ((rd_T68 l0_0 a1).f0), .int .i64 0, .bool false, .slice none 0 0]) ?_ 1 _ rfl; (with_reducible repeat (first | refine blk_drewN ?_ _ | refine blk_drew ?_ | refine blk_alloc ?_ _)); refine blk_put (cs := #[.string (⟨#[]⟩ : ByteArray), .int .i64 0, .bool false, .slice none 0 0]) ?_ 0 _ rfl; (with_reducible repeat (first | refine blk_drewN ?_ _ | refine blk_drew ?_ | refine blk_alloc ?_ _)); exact BK147.out) hb); replace HB := bstep HB hb; (try clear hb); (try clear hb2); (try clear hk); (try clear hi)))
    go_ret
    exact ⟨erf, bb HB⟩
  ·rw [if_neg c4] at H
   exact absurd H (by simp)
 ·rw [if_neg c3] at H
  exact absurd H (by simp)
end Go.Proofs.Ytfpianecohobjaa.P
