/- typesLists_holds: a part of the proof that the law returns true for every input. No condition. -/
import Derived.Test.YtfpianecohobjaaVPx0
import Derived.Test.YtfpianecohobjaaVPx12
import Derived.Test.YtfpianecohobjaaVPx13
import Derived.Test.YtfpianecohobjaaVPx16
namespace Go.Proofs.Ytfpianecohobjaa.P
open Go.RowKit Go.Proofs.YtfpianecohobjaaW.PrintWords Go.Proofs.YtfpianecohobjaaW.PrintLast Go.Proofs.YtfpianecohobjaaW.PrintMore
set_option linter.unusedVariables false
set_option linter.unusedSimpArgs false
mutual
def q4_node.l0 : Nat → Int → Int → List (S68) → List (S71) → ByteArray → Int → Bool → List (S77) → Option (Int)
 | 0, _, _, _, _, _, _, _, _ => none
 | k + 1, x1, x6, x332000, x332001, x334000, x334001, x334002, x334003 => if x6 < x1 then (if 0 ≤ x6 then (if x6 < (x332000.length : Int) then (if ((rd_T68 x332000 x6).f0).toList = x334000.toList then (some 5) else (q4_node.l0 k x1 (wrap64 (x6 + 1)) x332000 x332001 x334000 x334001 x334002 x334003)) else (none)) else (none)) else ((q4_in.f x334001 (-1) (wrap64 (x1 - 1))).bind fun t336 => (if t336 = true then ((q4_attrs.f k x332000 x332001 x1).bind fun t337 => (if (x334003.length : Int) > 4 then (q4_node.j1 k t337 true x334000 x334001 x334002 x334003) else (q4_node.j1 k t337 (decide ((t337.length : Int) > 8)) x334000 x334001 x334002 x334003))) else (some 6)))
def q4_node.j1 : Nat → List (S77) → Bool → ByteArray → Int → Bool → List (S77) → Option (Int)
 | 0, _, _, _, _, _, _ => none
 | k + 1, x7, x51, x334000, x334001, x334002, x334003 => if x51 = true then (some 3) else (q4_node.l1 k x7 (wrap64 ((x7.length : Int) - (x334003.length : Int))))
def q4_node.l1 : Nat → List (S77) → Int → Option (Int)
 | 0, _, _ => none
 | k + 1, x7, x8 => if x8 < (x7.length : Int) then (if 0 ≤ x8 then ((q1_IsName.f k ((rd_T77 x7 x8).f0)).bind fun t341 => (if t341 = true then (q4_node.l2 k x7 x8 0) else (some 2))) else (none)) else (some 0)
def q4_node.l2 : Nat → List (S77) → Int → Int → Option (Int)
 | 0, _, _, _ => none
 | k + 1, x7, x8, x9 => if x9 < x8 then (if 0 ≤ x9 then (if x9 < (x7.length : Int) then (if 0 ≤ x8 then (if x8 < (x7.length : Int) then (if ((rd_T77 x7 x9).f0).toList = ((rd_T77 x7 x8).f0).toList then (some 5) else (q4_node.l2 k x7 x8 (wrap64 (x9 + 1)))) else (none)) else (none)) else (none)) else (none)) else (if 0 ≤ x8 then (if x8 < (x7.length : Int) then ((q4_attribute.f k ((rd_T77 x7 x8).f0) ((rd_T77 x7 x8).f1) ((rd_T77 x7 x8).f2) ((rd_T77 x7 x8).f3)).bind fun t345 => (if t345 = 0 then (q4_node.l1 k x7 (wrap64 (x8 + 1))) else (some t345))) else (none)) else (none))
end
def q4_node.f (k : Nat) (l0_0 : List (S68)) (l0_1 : List (S71)) (a1 : Int) : Option (Int) := if 0 ≤ a1 then (if a1 < (l0_0.length : Int) then ((q1_IsName.f k ((rd_T68 l0_0 a1).f0)).bind fun t334 => (if t334 = true then (q4_node.l0 k a1 0 l0_0 l0_1 ((rd_T68 l0_0 a1).f0) ((rd_T68 l0_0 a1).f1) ((rd_T68 l0_0 a1).f2) ((rd_T68 l0_0 a1).f3)) else (some 2))) else (none)) else (none)
set_option maxHeartbeats 8000000 in
set_option maxRecDepth 100000 in
theorem q4_node.calls (k : Nat) (A0_0 : Option Addr) (c0_0 : Nat) (l0_0 : List (S68)) (A0_1 : Option Addr) (c0_1 : Nat) (l0_1 : List (S71)) (a1 : Int) (r : Int) (w : World) (hr0_0 : Kd.C k68 w A0_0 l0_0.length l0_0) (hc0_0 : l0_0.length ≤ c0_0) (hr0_1 : Kd.C k71 w A0_1 l0_1.length l0_1) (hc0_1 : l0_1.length ≤ c0_1) (h : q4_node.f k l0_0 l0_1 a1 = some r) :
  Calls Try.prog 41 #[.agg #[.slice A0_0 l0_0.length c0_0, .slice A0_1 l0_1.length c0_1], .int .i64 a1] w fun e w' => e = .returned (.int .i64 r) ∧ Below w.heap.size w w' := by
 have hu25 := Try.underlying25
 have hu68 := Try.underlying68
 have hu77 := Try.underlying77
 have HR0_0 := Aside0.mk hr0_0
 have HC0_0 := Aside0.mk hc0_0
 clear hr0_0 hc0_0
 have HR0_1 := Aside0.mk hr0_1
 have HC0_1 := Aside0.mk hc0_1
 clear hr0_1 hc0_1
 have HB := Aside0.mk (Below.refl w.heap.size w)
 have H : (if 0 ≤ a1 then (if a1 < (l0_0.length : Int) then ((q1_IsName.f k ((rd_T68 l0_0 a1).f0)).bind fun t334 => (if t334 = true then (q4_node.l0 k a1 0 l0_0 l0_1 ((rd_T68 l0_0 a1).f0) ((rd_T68 l0_0 a1).f1) ((rd_T68 l0_0 a1).f2) ((rd_T68 l0_0 a1).f3)) else (some 2))) else (none)) else (none)) = some r := h
 clear h
 by_cases c3 : 0 ≤ a1
 ·rw [if_pos c3] at H
  have c3b0 : decide (0 ≤ a1) = true := decide_eq_true c3
  clear c3
  by_cases c4 : a1 < (l0_0.length : Int)
  ·rw [if_pos c4] at H
   have c4b0 : decide (a1 < (l0_0.length : Int)) = true := decide_eq_true c4
   clear c4
   replace H := Option.bind_eq_some_iff.mp H
   obtain ⟨t334, A50, H⟩ := H
   replace H : (if t334 = true then (q4_node.l0 k a1 0 l0_0 l0_1 ((rd_T68 l0_0 a1).f0) ((rd_T68 l0_0 a1).f1) ((rd_T68 l0_0 a1).f2) ((rd_T68 l0_0 a1).f3)) else (some 2)) = some r := H
   have A5 := Aside0.mk A50
   clear A50
   by_cases c6 : t334 = true
   ·subst c6
    replace H := ift H
    have H' := Aside0.mk H
    clear H
    go_enter Try.func41, Try.ntmps41
    go_wp2_with (first | ((with_reducible refine gate_dst (N := 2) rfl ?_); (try (refine gate_guard (by rfl) ?_; dsimp only)); refine box_event ?hg (N := 2) ?hd (cs := #[.slice A0_0 l0_0.length c0_0, .slice A0_1 l0_1.length c0_1]) (t := 25) ?hr ?_; (case hd => rfl); (case hg => rfl); (case hr => first | (go_simp; done) | (go_simp; rfl)); intro gb331 hg w7 hbox hb; have BK331 := Aside0.mk (hbox); have GW331 := bsz HB hg; have GE331 := bsz HB hg; replace HB := bstep HB hb; clear hb hbox hg; obtain ⟨hcz8_0, hcz8_1, hfz8_0, hfz8_1⟩ := cz2 BK331; have p332 : 0 ≤ a1 := odt; have q332 : a1 < (l0_0.length : Int) := odt; obtain ⟨ad332, A332_3, c332_3, e332, hx332_0, hx332_1, hx332_2, hx332_3, hl332_3, hi332_3⟩ := at_T68 HR0_0.out a1 p332 q332; cases e332; replace hx332_0 := hxc HB hx332_0; replace hx332_1 := hxc HB hx332_1; replace hx332_2 := hxc HB hx332_2; replace hx332_3 := hxc HB hx332_3; have HR332_3 := Aside0.mk hi332_3; have HC332_3 := Aside0.mk hl332_3; clear hi332_3 hl332_3; replace p332 := eq_true p332; replace q332 := eq_true q332) | ((with_reducible refine gate_dst (N := 5) rfl ?_); (try (refine gate_guard (by rfl) ?_; dsimp only)); refine box_event ?hg (N := 5) ?hd (cs := #[.string (⟨#[]⟩ : ByteArray), .int .i64 0, .bool false, .slice none 0 0]) (t := 68) ?hr ?_; (case hd => rfl); (case hg => rfl); (case hr => first | (go_simp; done) | (go_simp; rfl)); intro gb333 hg w9 hbox hb; have BK333 := Aside0.mk (hbox); have GW333 := bsz HB hg; have GE333 := bsz HB hg; replace HB := bstep HB hb; have NB331_333 := blt BK331 hg; have NB333_331 := bgt BK331 hg; replace BK331 := bkb BK331 hb; clear hb hbox hg; have hnb10 := NB333_331.out; have hnc10 := NB331_333.out; obtain ⟨hcz11_0, hcz11_1, hcz11_2, hcz11_3, hfz11_0, hfz11_1, hfz11_2, hfz11_3⟩ := cz4 BK333) | (go_at_call 67; (with_reducible refine (q1_IsName.calls k ((rd_T68 l0_0 a1).f0) true _ A5.out).mono ?_); rintro e w12 ⟨rfl, hb⟩; replace BK331 := Aside0.mk (blk_below (g := gb331) (o := .cells #[.slice (some ad332) l0_0.length c0_0, .slice A0_1 l0_1.length c0_1] 25 (0, 0)) (by (with_reducible repeat (first | refine blk_drewN ?_ _ | refine blk_drew ?_ | refine blk_alloc ?_ _)); refine blk_far ?_ NB331_333.out _; (with_reducible repeat (first | refine blk_drewN ?_ _ | refine blk_drew ?_ | refine blk_alloc ?_ _)); refine blk_far ?_ NB331_333.out _; (with_reducible repeat (first | refine blk_drewN ?_ _ | refine blk_drew ?_ | refine blk_alloc ?_ _)); refine blk_far ?_ NB331_333.out _; (with_reducible repeat (first | refine blk_drewN ?_ _ | refine blk_drew ?_ | refine blk_alloc ?_ _)); refine blk_far ?_ NB331_333.out _; (with_reducible repeat (first | refine blk_drewN ?_ _ | refine blk_drew ?_ | refine blk_alloc ?_ _)); exact BK331.out) hb); replace BK333 := Aside0.mk (blk_below (g := gb333) (o := .cells #[.string ((rd_T68 l0_0 a1).f0), .int .i64 ((rd_T68 l0_0 a1).f1), .bool ((rd_T68 l0_0 a1).f2), .slice A332_3 ((rd_T68 l0_0 a1).f3).length c332_3] 68 (0, 0)) (by (with_reducible repeat (first | refine blk_drewN ?_ _ | refine blk_drew ?_ | refine blk_alloc ?_ _)); refine blk_put (cs := #[.string ((rd_T68 l0_0 a1).f0), .int .i64 ((rd_T68 l0_0 a1).f1), .bool ((rd_T68 l0_0 a1).f2), .slice none 0 0]) ?_ 3 _ rfl; (with_reducible repeat (first | refine blk_drewN ?_ _ | refine blk_drew ?_ | refine blk_alloc ?_ _)); refine blk_put (cs := #[.string ((rd_T68 l0_0 a1).f0), .int .i64 ((rd_T68 l0_0 a1).f1), .bool false, .slice none 0 0]) ?_ 2 _ rfl; (with_reducible repeat (first | refine blk_drewN ?_ _ | refine blk_drew ?_ | refine blk_alloc ?_ _)); refine blk_put (cs := #[.string ((rd_T68 l0_0 a1).f0), .int .i64 0, .bool false, .slice none 0 0]) ?_ 1 _ rfl; (with_reducible repeat (first | refine blk_drewN ?_ _ | refine blk_drew ?_ | refine blk_alloc ?_ _)); refine blk_put (cs := #[.string (⟨#[]⟩ : ByteArray), .int .i64 0, .bool false, .slice none 0 0]) ?_ 0 _ rfl; (with_reducible repeat (first | refine blk_drewN ?_ _ | refine blk_drew ?_ | refine blk_alloc ?_ _)); exact BK333.out) hb); replace HB := bstep HB hb; (try clear hb); (try clear hb2); (try clear hk); (try clear hi)))
    repeat (go_quiet (fail); try go_wp2_with (fail))
    go_loopg [6] k (fun kq v6 w' => ∃ (x6_1 : Int), v6 = .int .i64 x6_1 ∧ Aside0 (q4_node.l0 kq a1 x6_1 l0_0 l0_1 ((rd_T68 l0_0 a1).f0) ((rd_T68 l0_0 a1).f1) ((rd_T68 l0_0 a1).f2) ((rd_T68 l0_0 a1).f3) = some r) ∧ Aside0 (kq ≤ k) ∧ Aside0 (w'.heap[gb331]? = some (.cells #[(.slice (some ad332) l0_0.length c0_0), (.slice A0_1 l0_1.length c0_1)] 25 (0, 0))) ∧ Aside0 (w'.heap[gb333]? = some (.cells #[.string ((rd_T68 l0_0 a1).f0), .int .i64 ((rd_T68 l0_0 a1).f1), .bool ((rd_T68 l0_0 a1).f2), (.slice A332_3 ((rd_T68 l0_0 a1).f3).length c332_3)] 68 (0, 0))) ∧ Aside0 (Below w.heap.size w w'))
    case atStart => exact ⟨(0), eqs, H', ⟨Nat.le_refl _⟩, ⟨bk BK331⟩, ⟨bk BK333⟩, ⟨bb HB⟩⟩
    case round =>
     clear H'
     clear c3b0 c4b0 hcz11_0 hcz11_1 hcz11_2 hcz11_3 hcz8_0 hcz8_1 hfz11_0 hfz11_1 hfz11_2 hfz11_3 hfz8_0 hfz8_1 hx332_0 hx332_1 hx332_2 hx332_3 p332 q332
     obtain ⟨x6_1, rfl, HA, HK1, BK331, BK333, HB⟩ := hrel
     cases gk with
     | zero => exact absurd HA.out (by simp [q4_node.l0])
     | succ k1 =>
      have H := HA.out
      clear HA
      simp only [q4_node.l0] at H
      by_cases c13 : x6_1 < a1
      ·rw [if_pos c13] at H
       have c13b0 : decide (x6_1 < a1) = true := decide_eq_true c13
       clear c13
       by_cases c14 : 0 ≤ x6_1
       ·rw [if_pos c14] at H
        have c14b0 : decide (0 ≤ x6_1) = true := decide_eq_true c14
        clear c14
        by_cases c15 : x6_1 < (l0_0.length : Int)
        ·rw [if_pos c15] at H
         have c15b0 : decide (x6_1 < (l0_0.length : Int)) = true := decide_eq_true c15
         clear c15
         by_cases c16 : ((rd_T68 l0_0 x6_1).f0).toList = ((rd_T68 l0_0 a1).f0).toList
         ·rw [if_pos c16] at H
          have c16b0 : (((rd_T68 l0_0 x6_1).f0).toList == ((rd_T68 l0_0 a1).f0).toList) = true := beq_iff_eq.mpr c16
          have c16b1 : (((rd_T68 l0_0 x6_1).f0).toList != ((rd_T68 l0_0 a1).f0).toList) = false := bne_eq_false_iff_eq.mpr c16
          clear c16
          obtain rfl := Option.some.inj H
          have hnb17 := NB331_333.out
          have hnc17 := NB333_331.out
          obtain ⟨hcz18_0, hcz18_1, hfz18_0, hfz18_1⟩ := cz2 BK331
          have p335 : 0 ≤ x6_1 := odt
          have q335 : x6_1 < (l0_0.length : Int) := odt
          obtain ⟨ad335, A335_3, c335_3, e335, hx335_0, hx335_1, hx335_2, hx335_3, hl335_3, hi335_3⟩ := at_T68 HR0_0.out x6_1 p335 q335
          obtain rfl : ad332 = ad335 := (by injection e335)
          replace hx335_0 := hxc HB hx335_0
          replace hx335_1 := hxc HB hx335_1
          replace hx335_2 := hxc HB hx335_2
          replace hx335_3 := hxc HB hx335_3
          have HR335_3 := Aside0.mk hi335_3
          have HC335_3 := Aside0.mk hl335_3
          clear hi335_3 hl335_3
          replace p335 := eq_true p335
          replace q335 := eq_true q335
          obtain ⟨hcz19_0, hcz19_1, hcz19_2, hcz19_3, hfz19_0, hfz19_1, hfz19_2, hfz19_3⟩ := cz4 BK333
          go_wp2
          repeat (go_quiet (fail); try go_wp2)
          go_ret
          exact ⟨erf, bb HB⟩
         ·rw [if_neg c16] at H
          have c16b0 : (((rd_T68 l0_0 x6_1).f0).toList == ((rd_T68 l0_0 a1).f0).toList) = false := beq_eq_false_iff_ne.mpr c16
          have c16b1 : (((rd_T68 l0_0 x6_1).f0).toList != ((rd_T68 l0_0 a1).f0).toList) = true := bne_iff_ne.mpr c16
          have H' := Aside0.mk H
          clear H
          have hnb20 := NB331_333.out
          have hnc20 := NB333_331.out
          obtain ⟨hcz21_0, hcz21_1, hfz21_0, hfz21_1⟩ := cz2 BK331
          have p335 : 0 ≤ x6_1 := odt
          have q335 : x6_1 < (l0_0.length : Int) := odt
          obtain ⟨ad335, A335_3, c335_3, e335, hx335_0, hx335_1, hx335_2, hx335_3, hl335_3, hi335_3⟩ := at_T68 HR0_0.out x6_1 p335 q335
          obtain rfl : ad332 = ad335 := (by injection e335)
          replace hx335_0 := hxc HB hx335_0
          replace hx335_1 := hxc HB hx335_1
          replace hx335_2 := hxc HB hx335_2
          replace hx335_3 := hxc HB hx335_3
          have HR335_3 := Aside0.mk hi335_3
          have HC335_3 := Aside0.mk hl335_3
          clear hi335_3 hl335_3
          replace p335 := eq_true p335
          replace q335 := eq_true q335
          obtain ⟨hcz22_0, hcz22_1, hcz22_2, hcz22_3, hfz22_0, hfz22_1, hfz22_2, hfz22_3⟩ := cz4 BK333
          go_wp2
          repeat (go_quiet (fail); try go_wp2)
          go_roundg k1
          case measure => have := HK1.out; omega
          case rel => exact ⟨(wrap64 (x6_1 + 1)), eqs, H', ⟨by have := HK1.out; omega⟩, ⟨bk BK331⟩, ⟨bk BK333⟩, ⟨bb HB⟩⟩
        ·rw [if_neg c15] at H
         exact absurd H (by simp)
       ·rw [if_neg c14] at H
        exact absurd H (by simp)
      ·rw [if_neg c13] at H
       have c13b0 : decide (x6_1 < a1) = false := decide_eq_false c13
       clear c13
       replace H := Option.bind_eq_some_iff.mp H
       obtain ⟨t336, A230, H⟩ := H
       replace H : (if t336 = true then ((q4_attrs.f k1 l0_0 l0_1 a1).bind fun t337 => (if (((rd_T68 l0_0 a1).f3).length : Int) > 4 then (q4_node.j1 k1 t337 true ((rd_T68 l0_0 a1).f0) ((rd_T68 l0_0 a1).f1) ((rd_T68 l0_0 a1).f2) ((rd_T68 l0_0 a1).f3)) else (q4_node.j1 k1 t337 (decide ((t337.length : Int) > 8)) ((rd_T68 l0_0 a1).f0) ((rd_T68 l0_0 a1).f1) ((rd_T68 l0_0 a1).f2) ((rd_T68 l0_0 a1).f3)))) else (some 6)) = some r := H
       have A23 := Aside0.mk A230
       clear A230
       by_cases c24 : t336 = true
       ·subst c24
        replace H := ift H
        replace H := Option.bind_eq_some_iff.mp H
        obtain ⟨t337, A250, H⟩ := H
        replace H : (if (((rd_T68 l0_0 a1).f3).length : Int) > 4 then (q4_node.j1 k1 t337 true ((rd_T68 l0_0 a1).f0) ((rd_T68 l0_0 a1).f1) ((rd_T68 l0_0 a1).f2) ((rd_T68 l0_0 a1).f3)) else (q4_node.j1 k1 t337 (decide ((t337.length : Int) > 8)) ((rd_T68 l0_0 a1).f0) ((rd_T68 l0_0 a1).f1) ((rd_T68 l0_0 a1).f2) ((rd_T68 l0_0 a1).f3))) = some r := H
        have A25 := Aside0.mk A250
        clear A250
        have HC26 := Aside0.mk H
        clear H
        have hnb27 := NB333_331.out
        have hnc27 := NB331_333.out
        obtain ⟨hcz28_0, hcz28_1, hcz28_2, hcz28_3, hfz28_0, hfz28_1, hfz28_2, hfz28_3⟩ := cz4 BK333
        go_upto_region 12 with (first | (go_at_call 47; (with_reducible refine (q4_in.calls ((rd_T68 l0_0 a1).f1) (-1) (wrap64 (a1 - 1)) true _ A23.out).mono ?_); rintro e w' ⟨rfl, ⟨nd, rfl⟩⟩; (try first | exact ⟨rfl, _, World.drewN_drewN _ _ _⟩ | exact ⟨rfl, _, Eq.trans (World.drewN_drewN _ _ _) (congrArg (World.drewN _) (Nat.add_assoc _ _ _))⟩); obtain ⟨hcz29_0, hcz29_1, hfz29_0, hfz29_1⟩ := cz2 BK331) | (go_at_call 51; (with_reducible refine (q4_attrs.calls k1 (fun k_ => k_ < w.heap.size) _ _ l0_0 _ _ l0_1 a1 t337 _ ?side1 ?side2 ?side3 A25.out).mono ?_); (case side1 => exact Kd.V_mk HC0_0.out (Kd.F_below (Kd.C_F k68_heap HR0_0.out) (bb HB))); (case side2 => repeat (first | exact (Kd.C_below HR0_1.out (bb HB)) | (with_reducible refine Kd.C_alloc ?_ _) | (with_reducible refine Kd.C_drewN ?_ _) | (with_reducible refine Kd.C_drew ?_))); (case side3 => exact HC0_1.out); rintro e w30 ⟨v338, rfl, ho0, hb⟩; have HO339 := Aside0.mk (Kd.N_lower (Kd.N_mono (ok' := fun k_ => k_ ≠ gb331 ∧ k_ ≠ gb333) ho0 (fun k_ hk_ => ⟨Or.elim hk_ (fun hs_ => fun e_ => Nat.not_le.2 hs_ (by rw [e_]; exact GW331.out)) (fun hn_ => (Kd.freshB (g := gb331) (o := .cells #[.slice (some ad332) l0_0.length c0_0, .slice A0_1 l0_1.length c0_1] 25 (0, 0)) (bk BK331) k_ hn_)), Or.elim hk_ (fun hs_ => fun e_ => Nat.not_le.2 hs_ (by rw [e_]; exact GW333.out)) (fun hn_ => (Kd.freshB (g := gb333) (o := .cells #[.string ((rd_T68 l0_0 a1).f0), .int .i64 ((rd_T68 l0_0 a1).f1), .bool ((rd_T68 l0_0 a1).f2), .slice A332_3 ((rd_T68 l0_0 a1).f3).length c332_3] 68 (0, 0)) (bk BK333) k_ hn_))⟩)) (below_size (bb HB))); replace BK331 := bkb BK331 hb; replace BK333 := bkb BK333 hb; replace HB := bstep HB hb; (try clear hb); (try clear hb2); (try clear hk); (try clear hi); (try clear ho0)))
        repeat (go_quiet (fail); go_upto_region 12 with (fail))
        (try simp only [Act.put, List.setIfInBounds_toArray, List.set_cons_zero, List.set_cons_succ])
        go_cut [51] (fun v51 wc => ∃ (kq : Nat) (x51_25 : Bool), v51 = .bool x51_25 ∧ Aside0 (q4_node.j1 kq t337 x51_25 ((rd_T68 l0_0 a1).f0) ((rd_T68 l0_0 a1).f1) ((rd_T68 l0_0 a1).f2) ((rd_T68 l0_0 a1).f3) = some r) ∧ Aside0 (kq ≤ k1) ∧ Aside0 (Kd.N k77 77 wc w.heap.size (fun k_ => k_ ≠ gb331 ∧ k_ ≠ gb333) v338 t337) ∧ Aside0 (wc.heap[gb331]? = some (.cells #[(.slice (some ad332) l0_0.length c0_0), (.slice A0_1 l0_1.length c0_1)] 25 (0, 0))) ∧ Aside0 (wc.heap[gb333]? = some (.cells #[.string ((rd_T68 l0_0 a1).f0), .int .i64 ((rd_T68 l0_0 a1).f1), .bool ((rd_T68 l0_0 a1).f2), (.slice A332_3 ((rd_T68 l0_0 a1).f3).length c332_3)] 68 (0, 0))) ∧ Aside0 (Below w.heap.size w wc))
        case first =>
         have H := HC26.out
         clear HC26
         by_cases c31 : (((rd_T68 l0_0 a1).f3).length : Int) > 4
         ·rw [if_pos c31] at H
          have c31b0 : decide (4 < (((rd_T68 l0_0 a1).f3).length : Int)) = true := decide_eq_true c31
          have c31b1 : decide (4 < ((rd_T68 l0_0 a1).f3).length) = true := decide_eq_true (by omega)
          clear c31
          (first | rw [c31b0] | (simp only [i64_w, i32_w]; rw [c31b0]) | skip)
          have H' := Aside0.mk H
          clear H
          have hnb32 := NB333_331.out
          have hnc32 := NB331_333.out
          obtain ⟨hcz33_0, hcz33_1, hcz33_2, hcz33_3, hfz33_0, hfz33_1, hfz33_2, hfz33_3⟩ := cz4 BK333
          go_wp2
          repeat (go_quiet (fail); try go_wp2)
          go_meet
          case rel => exact ⟨_, (true), eqs, H', ⟨by have := HK1.out; first | omega | exact Nat.le_refl _⟩, ⟨kN HO339⟩, ⟨bk BK331⟩, ⟨bk BK333⟩, ⟨bb HB⟩⟩
         ·rw [if_neg c31] at H
          have c31b0 : decide (4 < (((rd_T68 l0_0 a1).f3).length : Int)) = false := decide_eq_false c31
          have c31b1 : decide (4 < ((rd_T68 l0_0 a1).f3).length) = false := decide_eq_false (by omega)
          clear c31
          (first | rw [c31b0] | (simp only [i64_w, i32_w]; rw [c31b0]) | skip)
          have H' := Aside0.mk H
          clear H
          have hnb34 := NB333_331.out
          have hnc34 := NB331_333.out
          obtain ⟨hcz35_0, hcz35_1, hcz35_2, hcz35_3, hfz35_0, hfz35_1, hfz35_2, hfz35_3⟩ := cz4 BK333
          obtain ⟨Ao36, co36, eo36⟩ := Kd.N_slice HO339.out
          subst eo36
          go_wp2
          repeat (go_quiet (fail); try go_wp2)
          go_meet
          case rel => exact ⟨_, (decide ((t337.length : Int) > 8)), eqs, H', ⟨by have := HK1.out; first | omega | exact Nat.le_refl _⟩, ⟨kN HO339⟩, ⟨bk BK331⟩, ⟨bk BK333⟩, ⟨bb HB⟩⟩
        case rest =>
         clear HC26 c13b0 hcz28_0 hcz28_1 hcz28_2 hcz28_3 hcz29_0 hcz29_1 hfz28_0 hfz28_1 hfz28_2 hfz28_3 hfz29_0 hfz29_1
         obtain ⟨kq, x51_25, rfl, HA, HJ25, HO_7, BK331, BK333, HB⟩ := hcut
         cases kq with
         | zero => exact absurd HA.out (by simp [q4_node.j1])
         | succ kj25 =>
          have H := HA.out
          clear HA
          simp only [q4_node.j1] at H
          by_cases c37 : x51_25 = true
          ·subst c37
           replace H := ift H
           obtain rfl := Option.some.inj H
           go_wp2
           repeat (go_quiet (fail); try go_wp2)
           go_ret
           exact ⟨erf, bb HB⟩
          ·replace c37 := Bool.eq_false_iff.mpr c37
           subst c37
           replace H := iff_ H
           have H' := Aside0.mk H
           clear H
           obtain ⟨Ao38, co38, eo38⟩ := Kd.N_slice HO_7.out
           subst eo38
           have hnb39 := NB333_331.out
           have hnc39 := NB331_333.out
           obtain ⟨hcz40_0, hcz40_1, hcz40_2, hcz40_3, hfz40_0, hfz40_1, hfz40_2, hfz40_3⟩ := cz4 BK333
           go_wp2
           repeat (go_quiet (fail); try go_wp2)
           go_loopg [8] kj25 (fun kq v8 w' => ∃ (x8_3 : Int), v8 = .int .i64 x8_3 ∧ Aside0 (q4_node.l1 kq t337 x8_3 = some r) ∧ Aside0 (kq ≤ kj25) ∧ Aside0 (Kd.N k77 77 w' w.heap.size (fun k_ => k_ ≠ gb331 ∧ k_ ≠ gb333) (.slice Ao38 t337.length co38) t337) ∧ Aside0 (w'.heap[gb331]? = some (.cells #[(.slice (some ad332) l0_0.length c0_0), (.slice A0_1 l0_1.length c0_1)] 25 (0, 0))) ∧ Aside0 (w'.heap[gb333]? = some (.cells #[.string ((rd_T68 l0_0 a1).f0), .int .i64 ((rd_T68 l0_0 a1).f1), .bool ((rd_T68 l0_0 a1).f2), (.slice A332_3 ((rd_T68 l0_0 a1).f3).length c332_3)] 68 (0, 0))) ∧ Aside0 (Below w.heap.size w w'))
           case atStart => exact ⟨(wrap64 ((t337.length : Int) - (((rd_T68 l0_0 a1).f3).length : Int))), eqs, H', ⟨Nat.le_refl _⟩, ⟨kN HO_7⟩, ⟨bk BK331⟩, ⟨bk BK333⟩, ⟨bb HB⟩⟩
           case round =>
            clear H'
            clear hcz40_0 hcz40_1 hcz40_2 hcz40_3 hfz40_0 hfz40_1 hfz40_2 hfz40_3
            obtain ⟨x8_3, rfl, HA, HK3, HO_7, BK331, BK333, HB⟩ := hrel
            cases gk with
            | zero => exact absurd HA.out (by simp [q4_node.l1])
            | succ k3 =>
             have H := HA.out
             clear HA
             simp only [q4_node.l1] at H
             by_cases c41 : x8_3 < (t337.length : Int)
             ·rw [if_pos c41] at H
              have c41b0 : decide (x8_3 < (t337.length : Int)) = true := decide_eq_true c41
              clear c41
              by_cases c42 : 0 ≤ x8_3
              ·rw [if_pos c42] at H
               have c42b0 : decide (0 ≤ x8_3) = true := decide_eq_true c42
               clear c42
               replace H := Option.bind_eq_some_iff.mp H
               obtain ⟨t341, A430, H⟩ := H
               replace H : (if t341 = true then (q4_node.l2 k3 t337 x8_3 0) else (some 2)) = some r := H
               have A43 := Aside0.mk A430
               clear A430
               by_cases c44 : t341 = true
               ·subst c44
                replace H := ift H
                have H' := Aside0.mk H
                clear H
                have p340 : 0 ≤ x8_3 := odt
                have q340 : x8_3 < (t337.length : Int) := odt
                obtain ⟨ad340, A340_3, c340_3, e340, hx340_0, hx340_1, hx340_2, hx340_3, hl340_3, hi340_3⟩ := at_T77 (Kd.N_reads' HO_7.out).2.2 x8_3 p340 q340
                cases e340
                obtain ⟨ce340, hce340, hMe340, hcc340⟩ := Kd.N_get HO_7.out z77 x8_3 p340 (by first | exact q340 | exact odt | (have e_ := (Kd.N_reads' HO_7.out).1; omega))
                obtain ⟨ua340_3, uc340_3, rfl, ul340_3, ge340_3⟩ := k77_openF hMe340
                have hv340_3 := hcc340 3 _ rfl
                rw [add_field _ _ 3 (by omega)] at hv340_3
                replace hv340_3 := Option.some.inj (hv340_3.symm.trans hx340_3)
                injection hv340_3 with hva_ hvn_ hvc_
                rw [hva_] at ge340_3
                rw [hvc_] at ul340_3
                have HL340_3 := Aside0.mk (show Kd.V Kd.string 9 _ w.heap.size _ _ ((rd_T77 t337 x8_3).f3) from Kd.V_mk ul340_3 ge340_3)
                clear hva_ hvn_ hvc_ ge340_3 ul340_3 hcc340 hce340
                have HR340_3 := Aside0.mk hi340_3
                have HC340_3 := Aside0.mk hl340_3
                clear hi340_3 hl340_3
                replace p340 := eq_true p340
                replace q340 := eq_true q340
                go_wp2_with (go_at_call 67; (with_reducible refine (q1_IsName.calls k3 ((rd_T77 t337 x8_3).f0) true _ A43.out).mono ?_); rintro e w45 ⟨rfl, hb⟩; replace HO_7 := kNb HO_7 hb; replace HL340_3 := kVb HL340_3 hb; replace BK331 := bkb BK331 hb; replace BK333 := bkb BK333 hb; replace HR340_3 := kCb HR340_3 hb; replace HB := bstep HB hb; (try clear hb); (try clear hb2); (try clear hk); (try clear hi))
                repeat (go_quiet (fail); try go_wp2_with (fail))
                go_loopg [9] k3 (fun kq v9 w' => ∃ (x9_4 : Int), v9 = .int .i64 x9_4 ∧ Aside0 (q4_node.l2 kq t337 x8_3 x9_4 = some r) ∧ Aside0 (kq ≤ k3) ∧ Aside0 (Kd.N k77 77 w' w.heap.size (fun k_ => k_ ≠ gb331 ∧ k_ ≠ gb333) (.slice (some ad340) t337.length co38) t337) ∧ Aside0 (w'.heap[gb331]? = some (.cells #[(.slice (some ad332) l0_0.length c0_0), (.slice A0_1 l0_1.length c0_1)] 25 (0, 0))) ∧ Aside0 (w'.heap[gb333]? = some (.cells #[.string ((rd_T68 l0_0 a1).f0), .int .i64 ((rd_T68 l0_0 a1).f1), .bool ((rd_T68 l0_0 a1).f2), (.slice A332_3 ((rd_T68 l0_0 a1).f3).length c332_3)] 68 (0, 0))) ∧ Aside0 (Kd.C Kd.string w' A340_3 ((rd_T77 t337 x8_3).f3).length ((rd_T77 t337 x8_3).f3)) ∧ Aside0 (Below w.heap.size w w'))
                case atStart => exact ⟨(0), eqs, H', ⟨Nat.le_refl _⟩, ⟨kN HO_7⟩, ⟨bk BK331⟩, ⟨bk BK333⟩, ⟨kC HR340_3⟩, ⟨bb HB⟩⟩
                case round =>
                 clear H'
                 clear c41b0 c42b0 hx340_0 hx340_1 hx340_2 hx340_3 p340 q340
                 obtain ⟨x9_4, rfl, HA, HK4, HO_7, BK331, BK333, HR340_3, HB⟩ := hrel
                 cases gk with
                 | zero => exact absurd HA.out (by simp [q4_node.l2])
                 | succ k4 =>
                  have H := HA.out
                  clear HA
                  simp only [q4_node.l2] at H
                  by_cases c46 : x9_4 < x8_3
                  ·rw [if_pos c46] at H
                   have c46b0 : decide (x9_4 < x8_3) = true := decide_eq_true c46
                   clear c46
                   by_cases c47 : 0 ≤ x9_4
                   ·rw [if_pos c47] at H
                    have c47b0 : decide (0 ≤ x9_4) = true := decide_eq_true c47
                    clear c47
                    by_cases c48 : x9_4 < (t337.length : Int)
                    ·rw [if_pos c48] at H
                     have c48b0 : decide (x9_4 < (t337.length : Int)) = true := decide_eq_true c48
                     clear c48
                     by_cases c49 : 0 ≤ x8_3
                     ·rw [if_pos c49] at H
                      have c49b0 : decide (0 ≤ x8_3) = true := decide_eq_true c49
                      clear c49
                      by_cases c50 : x8_3 < (t337.length : Int)
                      ·rw [if_pos c50] at H
                       have c50b0 : decide (x8_3 < (t337.length : Int)) = true := decide_eq_true c50
                       clear c50
                       by_cases c51 : ((rd_T77 t337 x9_4).f0).toList = ((rd_T77 t337 x8_3).f0).toList
                       ·rw [if_pos c51] at H
                        have c51b0 : (((rd_T77 t337 x9_4).f0).toList == ((rd_T77 t337 x8_3).f0).toList) = true := beq_iff_eq.mpr c51
                        have c51b1 : (((rd_T77 t337 x9_4).f0).toList != ((rd_T77 t337 x8_3).f0).toList) = false := bne_eq_false_iff_eq.mpr c51
                        clear c51
                        obtain rfl := Option.some.inj H
                        have p342 : 0 ≤ x9_4 := odt
                        have q342 : x9_4 < (t337.length : Int) := odt
                        obtain ⟨ad342, A342_3, c342_3, e342, hx342_0, hx342_1, hx342_2, hx342_3, hl342_3, hi342_3⟩ := at_T77 (Kd.N_reads' HO_7.out).2.2 x9_4 p342 q342
                        obtain rfl : ad340 = ad342 := (by injection e342)
                        obtain ⟨ce342, hce342, hMe342, hcc342⟩ := Kd.N_get HO_7.out z77 x9_4 p342 (by first | exact q342 | exact odt | (have e_ := (Kd.N_reads' HO_7.out).1; omega))
                        obtain ⟨ua342_3, uc342_3, rfl, ul342_3, ge342_3⟩ := k77_openF hMe342
                        have hv342_3 := hcc342 3 _ rfl
                        rw [add_field _ _ 3 (by omega)] at hv342_3
                        replace hv342_3 := Option.some.inj (hv342_3.symm.trans hx342_3)
                        injection hv342_3 with hva_ hvn_ hvc_
                        rw [hva_] at ge342_3
                        rw [hvc_] at ul342_3
                        have HL342_3 := Aside0.mk (show Kd.V Kd.string 9 _ w.heap.size _ _ ((rd_T77 t337 x9_4).f3) from Kd.V_mk ul342_3 ge342_3)
                        clear hva_ hvn_ hvc_ ge342_3 ul342_3 hcc342 hce342
                        have HR342_3 := Aside0.mk hi342_3
                        have HC342_3 := Aside0.mk hl342_3
                        clear hi342_3 hl342_3
                        replace p342 := eq_true p342
                        replace q342 := eq_true q342
                        have p343 : 0 ≤ x8_3 := odt
                        have q343 : x8_3 < (t337.length : Int) := odt
                        obtain ⟨ad343, A343_3, c343_3, e343, hx343_0, hx343_1, hx343_2, hx343_3, hl343_3, hi343_3⟩ := at_T77 (Kd.N_reads' HO_7.out).2.2 x8_3 p343 q343
                        obtain rfl : ad340 = ad343 := (by injection e343)
                        obtain ⟨ce343, hce343, hMe343, hcc343⟩ := Kd.N_get HO_7.out z77 x8_3 p343 (by first | exact q343 | exact odt | (have e_ := (Kd.N_reads' HO_7.out).1; omega))
                        obtain ⟨ua343_3, uc343_3, rfl, ul343_3, ge343_3⟩ := k77_openF hMe343
                        have hv343_3 := hcc343 3 _ rfl
                        rw [add_field _ _ 3 (by omega)] at hv343_3
                        replace hv343_3 := Option.some.inj (hv343_3.symm.trans hx343_3)
                        injection hv343_3 with hva_ hvn_ hvc_
                        rw [hva_] at ge343_3
                        rw [hvc_] at ul343_3
                        have HL343_3 := Aside0.mk (show Kd.V Kd.string 9 _ w.heap.size _ _ ((rd_T77 t337 x8_3).f3) from Kd.V_mk ul343_3 ge343_3)
                        clear hva_ hvn_ hvc_ ge343_3 ul343_3 hcc343 hce343
                        have HR343_3 := Aside0.mk hi343_3
                        have HC343_3 := Aside0.mk hl343_3
                        clear hi343_3 hl343_3
                        replace p343 := eq_true p343
                        replace q343 := eq_true q343
                        go_wp2
                        repeat (go_quiet (fail); try go_wp2)
                        go_ret
                        exact ⟨erf, bb HB⟩
                       ·rw [if_neg c51] at H
                        have c51b0 : (((rd_T77 t337 x9_4).f0).toList == ((rd_T77 t337 x8_3).f0).toList) = false := beq_eq_false_iff_ne.mpr c51
                        have c51b1 : (((rd_T77 t337 x9_4).f0).toList != ((rd_T77 t337 x8_3).f0).toList) = true := bne_iff_ne.mpr c51
                        have H' := Aside0.mk H
                        clear H
                        have p342 : 0 ≤ x9_4 := odt
                        have q342 : x9_4 < (t337.length : Int) := odt
                        obtain ⟨ad342, A342_3, c342_3, e342, hx342_0, hx342_1, hx342_2, hx342_3, hl342_3, hi342_3⟩ := at_T77 (Kd.N_reads' HO_7.out).2.2 x9_4 p342 q342
                        obtain rfl : ad340 = ad342 := (by injection e342)
                        obtain ⟨ce342, hce342, hMe342, hcc342⟩ := Kd.N_get HO_7.out z77 x9_4 p342 (by first | exact q342 | exact odt | (have e_ := (Kd.N_reads' HO_7.out).1; omega))
                        obtain ⟨ua342_3, uc342_3, rfl, ul342_3, ge342_3⟩ := k77_openF hMe342
                        have hv342_3 := hcc342 3 _ rfl
                        rw [add_field _ _ 3 (by omega)] at hv342_3
                        replace hv342_3 := Option.some.inj (hv342_3.symm.trans hx342_3)
                        injection hv342_3 with hva_ hvn_ hvc_
                        rw [hva_] at ge342_3
                        rw [hvc_] at ul342_3
                        have HL342_3 := Aside0.mk (show Kd.V Kd.string 9 _ w.heap.size _ _ ((rd_T77 t337 x9_4).f3) from Kd.V_mk ul342_3 ge342_3)
                        clear hva_ hvn_ hvc_ ge342_3 ul342_3 hcc342 hce342
                        have HR342_3 := Aside0.mk hi342_3
                        have HC342_3 := Aside0.mk hl342_3
                        clear hi342_3 hl342_3
                        replace p342 := eq_true p342
                        replace q342 := eq_true q342
                        have p343 : 0 ≤ x8_3 := odt
                        have q343 : x8_3 < (t337.length : Int) := odt
                        obtain ⟨ad343, A343_3, c343_3, e343, hx343_0, hx343_1, hx343_2, hx343_3, hl343_3, hi343_3⟩ := at_T77 (Kd.N_reads' HO_7.out).2.2 x8_3 p343 q343
                        obtain rfl : ad340 = ad343 := (by injection e343)
                        obtain ⟨ce343, hce343, hMe343, hcc343⟩ := Kd.N_get HO_7.out z77 x8_3 p343 (by first | exact q343 | exact odt | (have e_ := (Kd.N_reads' HO_7.out).1; omega))
                        obtain ⟨ua343_3, uc343_3, rfl, ul343_3, ge343_3⟩ := k77_openF hMe343
                        have hv343_3 := hcc343 3 _ rfl
                        rw [add_field _ _ 3 (by omega)] at hv343_3
                        replace hv343_3 := Option.some.inj (hv343_3.symm.trans hx343_3)
                        injection hv343_3 with hva_ hvn_ hvc_
                        rw [hva_] at ge343_3
                        rw [hvc_] at ul343_3
                        have HL343_3 := Aside0.mk (show Kd.V Kd.string 9 _ w.heap.size _ _ ((rd_T77 t337 x8_3).f3) from Kd.V_mk ul343_3 ge343_3)
                        clear hva_ hvn_ hvc_ ge343_3 ul343_3 hcc343 hce343
                        have HR343_3 := Aside0.mk hi343_3
                        have HC343_3 := Aside0.mk hl343_3
                        clear hi343_3 hl343_3
                        replace p343 := eq_true p343
                        replace q343 := eq_true q343
                        go_wp2
                        repeat (go_quiet (fail); try go_wp2)
                        go_roundg k4
                        case measure => have := HK1.out; have := HJ25.out; have := HK3.out; have := HK4.out; omega
                        case rel => exact ⟨(wrap64 (x9_4 + 1)), eqs, H', ⟨by have := HK1.out; have := HJ25.out; have := HK3.out; have := HK4.out; omega⟩, ⟨kN HO_7⟩, ⟨bk BK331⟩, ⟨bk BK333⟩, ⟨kC HR340_3⟩, ⟨bb HB⟩⟩
                      ·rw [if_neg c50] at H
                       exact absurd H (by simp)
                     ·rw [if_neg c49] at H
                      exact absurd H (by simp)
                    ·rw [if_neg c48] at H
                     exact absurd H (by simp)
                   ·rw [if_neg c47] at H
                    exact absurd H (by simp)
                  ·rw [if_neg c46] at H
                   have c46b0 : decide (x9_4 < x8_3) = false := decide_eq_false c46
                   clear c46
                   by_cases c52 : 0 ≤ x8_3
                   ·rw [if_pos c52] at H
                    have c52b0 : decide (0 ≤ x8_3) = true := decide_eq_true c52
                    clear c52
                    by_cases c53 : x8_3 < (t337.length : Int)
                    ·rw [if_pos c53] at H
                     have c53b0 : decide (x8_3 < (t337.length : Int)) = true := decide_eq_true c53
                     clear c53
                     replace H := Option.bind_eq_some_iff.mp H
                     obtain ⟨t345, A540, H⟩ := H
                     replace H : (if t345 = 0 then (q4_node.l1 k4 t337 (wrap64 (x8_3 + 1))) else (some t345)) = some r := H
                     have A54 := Aside0.mk A540
                     clear A540
                     by_cases c55 : t345 = 0
                     ·rw [if_pos c55] at H
                      have c55b0 : (t345 == 0) = true := beq_iff_eq.mpr c55
                      have c55b1 : (t345 != 0) = false := bne_eq_false_iff_eq.mpr c55
                      clear c55
                      have H' := Aside0.mk H
                      clear H
                      have p344 : 0 ≤ x8_3 := odt
                      have q344 : x8_3 < (t337.length : Int) := odt
                      obtain ⟨ad344, A344_3, c344_3, e344, hx344_0, hx344_1, hx344_2, hx344_3, hl344_3, hi344_3⟩ := at_T77 (Kd.N_reads' HO_7.out).2.2 x8_3 p344 q344
                      obtain rfl : ad340 = ad344 := (by injection e344)
                      obtain ⟨ce344, hce344, hMe344, hcc344⟩ := Kd.N_get HO_7.out z77 x8_3 p344 (by first | exact q344 | exact odt | (have e_ := (Kd.N_reads' HO_7.out).1; omega))
                      obtain ⟨ua344_3, uc344_3, rfl, ul344_3, ge344_3⟩ := k77_openF hMe344
                      have hv344_3 := hcc344 3 _ rfl
                      rw [add_field _ _ 3 (by omega)] at hv344_3
                      replace hv344_3 := Option.some.inj (hv344_3.symm.trans hx344_3)
                      injection hv344_3 with hva_ hvn_ hvc_
                      rw [hva_] at ge344_3
                      rw [hvc_] at ul344_3
                      have HL344_3 := Aside0.mk (show Kd.V Kd.string 9 _ w.heap.size _ _ ((rd_T77 t337 x8_3).f3) from Kd.V_mk ul344_3 ge344_3)
                      clear hva_ hvn_ hvc_ ge344_3 ul344_3 hcc344 hce344
                      have HR344_3 := Aside0.mk hi344_3
                      have HC344_3 := Aside0.mk hl344_3
                      clear hi344_3 hl344_3
                      replace p344 := eq_true p344
                      replace q344 := eq_true q344
                      go_wp2_with (go_at_call 68; (with_reducible refine (q4_attribute.calls k4 ((rd_T77 t337 x8_3).f0) ((rd_T77 t337 x8_3).f1) ((rd_T77 t337 x8_3).f2) _ _ ((rd_T77 t337 x8_3).f3) t345 _ ?side1 ?side2 A54.out).mono ?_); (case side1 => repeat (first | exact (kC HR344_3) | (with_reducible refine Kd.C_alloc ?_ _) | (with_reducible refine Kd.C_drewN ?_ _) | (with_reducible refine Kd.C_drew ?_))); (case side2 => exact HC344_3.out); rintro e w56 ⟨rfl, hb⟩; replace HO_7 := kNb HO_7 hb; replace HL344_3 := kVb HL344_3 hb; replace BK331 := bkb BK331 hb; replace BK333 := bkb BK333 hb; replace HR340_3 := kCb HR340_3 hb; replace HR344_3 := kCb HR344_3 hb; replace HB := bstep HB hb; (try clear hb); (try clear hb2); (try clear hk); (try clear hi))
                      repeat (go_quiet (fail); try go_wp2_with (fail))
                      go_roundg k4
                      case measure => have := HK1.out; have := HJ25.out; have := HK3.out; have := HK4.out; omega
                      case rel => exact ⟨(wrap64 (x8_3 + 1)), eqs, H', ⟨by have := HK1.out; have := HJ25.out; have := HK3.out; have := HK4.out; omega⟩, ⟨kN HO_7⟩, ⟨bk BK331⟩, ⟨bk BK333⟩, ⟨bb HB⟩⟩
                     ·rw [if_neg c55] at H
                      have c55b0 : (t345 == 0) = false := beq_eq_false_iff_ne.mpr c55
                      have c55b1 : (t345 != 0) = true := bne_iff_ne.mpr c55
                      obtain rfl := Option.some.inj H
                      have p344 : 0 ≤ x8_3 := odt
                      have q344 : x8_3 < (t337.length : Int) := odt
                      obtain ⟨ad344, A344_3, c344_3, e344, hx344_0, hx344_1, hx344_2, hx344_3, hl344_3, hi344_3⟩ := at_T77 (Kd.N_reads' HO_7.out).2.2 x8_3 p344 q344
                      obtain rfl : ad340 = ad344 := (by injection e344)
                      obtain ⟨ce344, hce344, hMe344, hcc344⟩ := Kd.N_get HO_7.out z77 x8_3 p344 (by first | exact q344 | exact odt | (have e_ := (Kd.N_reads' HO_7.out).1; omega))
                      obtain ⟨ua344_3, uc344_3, rfl, ul344_3, ge344_3⟩ := k77_openF hMe344
                      have hv344_3 := hcc344 3 _ rfl
                      rw [add_field _ _ 3 (by omega)] at hv344_3
                      replace hv344_3 := Option.some.inj (hv344_3.symm.trans hx344_3)
                      injection hv344_3 with hva_ hvn_ hvc_
                      rw [hva_] at ge344_3
                      rw [hvc_] at ul344_3
                      have HL344_3 := Aside0.mk (show Kd.V Kd.string 9 _ w.heap.size _ _ ((rd_T77 t337 x8_3).f3) from Kd.V_mk ul344_3 ge344_3)
                      clear hva_ hvn_ hvc_ ge344_3 ul344_3 hcc344 hce344
                      have HR344_3 := Aside0.mk hi344_3
                      have HC344_3 := Aside0.mk hl344_3
                      clear hi344_3 hl344_3
                      replace p344 := eq_true p344
                      replace q344 := eq_true q344
                      go_wp2_with (go_at_call 68; (with_reducible refine (q4_attribute.calls k4 ((rd_T77 t337 x8_3).f0) ((rd_T77 t337 x8_3).f1) ((rd_T77 t337 x8_3).f2) _ _ ((rd_T77 t337 x8_3).f3) t345 _ ?side1 ?side2 A54.out).mono ?_); (case side1 => repeat (first | exact (kC HR344_3) | (with_reducible refine Kd.C_alloc ?_ _) | (with_reducible refine Kd.C_drewN ?_ _) | (with_reducible refine Kd.C_drew ?_))); (case side2 => exact HC344_3.out); rintro e w57 ⟨rfl, hb⟩; replace HO_7 := kNb HO_7 hb; replace HL344_3 := kVb HL344_3 hb; replace BK331 := bkb BK331 hb; replace BK333 := bkb BK333 hb; replace HR340_3 := kCb HR340_3 hb; replace HR344_3 := kCb HR344_3 hb; replace HB := bstep HB hb; (try clear hb); (try clear hb2); (try clear hk); (try clear hi))
                      repeat (go_quiet (fail); try go_wp2_with (fail))
                      go_ret
                      exact ⟨erf, bb HB⟩
                    ·rw [if_neg c53] at H
                     exact absurd H (by simp)
                   ·rw [if_neg c52] at H
                    exact absurd H (by simp)
               ·replace c44 := Bool.eq_false_iff.mpr c44
                subst c44
                replace H := iff_ H
                obtain rfl := Option.some.inj H
                have p340 : 0 ≤ x8_3 := odt
                have q340 : x8_3 < (t337.length : Int) := odt
                obtain ⟨ad340, A340_3, c340_3, e340, hx340_0, hx340_1, hx340_2, hx340_3, hl340_3, hi340_3⟩ := at_T77 (Kd.N_reads' HO_7.out).2.2 x8_3 p340 q340
                cases e340
                obtain ⟨ce340, hce340, hMe340, hcc340⟩ := Kd.N_get HO_7.out z77 x8_3 p340 (by first | exact q340 | exact odt | (have e_ := (Kd.N_reads' HO_7.out).1; omega))
                obtain ⟨ua340_3, uc340_3, rfl, ul340_3, ge340_3⟩ := k77_openF hMe340
                have hv340_3 := hcc340 3 _ rfl
                rw [add_field _ _ 3 (by omega)] at hv340_3
                replace hv340_3 := Option.some.inj (hv340_3.symm.trans hx340_3)
                injection hv340_3 with hva_ hvn_ hvc_
                rw [hva_] at ge340_3
                rw [hvc_] at ul340_3
                have HL340_3 := Aside0.mk (show Kd.V Kd.string 9 _ w.heap.size _ _ ((rd_T77 t337 x8_3).f3) from Kd.V_mk ul340_3 ge340_3)
                clear hva_ hvn_ hvc_ ge340_3 ul340_3 hcc340 hce340
                have HR340_3 := Aside0.mk hi340_3
                have HC340_3 := Aside0.mk hl340_3
                clear hi340_3 hl340_3
                replace p340 := eq_true p340
                replace q340 := eq_true q340
                go_wp2_with (go_at_call 67; (with_reducible refine (q1_IsName.calls k3 ((rd_T77 t337 x8_3).f0) false _ A43.out).mono ?_); rintro e w58 ⟨rfl, hb⟩; replace HO_7 := kNb HO_7 hb; replace HL340_3 := kVb HL340_3 hb; replace BK331 := bkb BK331 hb; replace BK333 := bkb BK333 hb; replace HR340_3 := kCb HR340_3 hb; replace HB := bstep HB hb; (try clear hb); (try clear hb2); (try clear hk); (try clear hi))
                repeat (go_quiet (fail); try go_wp2_with (fail))
                go_ret
                exact ⟨erf, bb HB⟩
              ·rw [if_neg c42] at H
               exact absurd H (by simp)
             ·rw [if_neg c41] at H
              have c41b0 : decide (x8_3 < (t337.length : Int)) = false := decide_eq_false c41
              clear c41
              obtain rfl := Option.some.inj H
              go_wp2
              repeat (go_quiet (fail); try go_wp2)
              go_ret
              exact ⟨erf, bb HB⟩
       ·replace c24 := Bool.eq_false_iff.mpr c24
        subst c24
        replace H := iff_ H
        obtain rfl := Option.some.inj H
        have hnb59 := NB333_331.out
        have hnc59 := NB331_333.out
        obtain ⟨hcz60_0, hcz60_1, hcz60_2, hcz60_3, hfz60_0, hfz60_1, hfz60_2, hfz60_3⟩ := cz4 BK333
        go_wp2_with (go_at_call 47; (with_reducible refine (q4_in.calls ((rd_T68 l0_0 a1).f1) (-1) (wrap64 (a1 - 1)) false _ A23.out).mono ?_); rintro e w' ⟨rfl, ⟨nd, rfl⟩⟩; (try first | exact ⟨rfl, _, World.drewN_drewN _ _ _⟩ | exact ⟨rfl, _, Eq.trans (World.drewN_drewN _ _ _) (congrArg (World.drewN _) (Nat.add_assoc _ _ _))⟩))
        repeat (go_quiet (fail); try go_wp2_with (fail))
        go_ret
        exact ⟨erf, bb HB⟩
   ·replace c6 := Bool.eq_false_iff.mpr c6
    subst c6
    replace H := iff_ H
    obtain rfl := Option.some.inj H
    go_enter Try.func41, Try.ntmps41
    go_wp2_with (first | ((with_reducible refine gate_dst (N := 2) rfl ?_); (try (refine gate_guard (by rfl) ?_; dsimp only)); refine box_event ?hg (N := 2) ?hd (cs := #[.slice A0_0 l0_0.length c0_0, .slice A0_1 l0_1.length c0_1]) (t := 25) ?hr ?_; (case hd => rfl); (case hg => rfl); (case hr => first | (go_simp; done) | (go_simp; rfl)); intro gb331 hg w61 hbox hb; have BK331 := Aside0.mk (hbox); have GW331 := bsz HB hg; have GE331 := bsz HB hg; replace HB := bstep HB hb; clear hb hbox hg; obtain ⟨hcz62_0, hcz62_1, hfz62_0, hfz62_1⟩ := cz2 BK331; have p332 : 0 ≤ a1 := odt; have q332 : a1 < (l0_0.length : Int) := odt; obtain ⟨ad332, A332_3, c332_3, e332, hx332_0, hx332_1, hx332_2, hx332_3, hl332_3, hi332_3⟩ := at_T68 HR0_0.out a1 p332 q332; cases e332; replace hx332_0 := hxc HB hx332_0; replace hx332_1 := hxc HB hx332_1; replace hx332_2 := hxc HB hx332_2; replace hx332_3 := hxc HB hx332_3; have HR332_3 := Aside0.mk hi332_3; have HC332_3 := Aside0.mk hl332_3; clear hi332_3 hl332_3; replace p332 := eq_true p332; replace q332 := eq_true q332) | ((with_reducible refine gate_dst (N := 5) rfl ?_); (try (refine gate_guard (by rfl) ?_; dsimp only)); refine box_event ?hg (N := 5) ?hd (cs := #[.string (⟨#[]⟩ : ByteArray), .int .i64 0, .bool false, .slice none 0 0]) (t := 68) ?hr ?_; (case hd => rfl); (case hg => rfl); (case hr => first | (go_simp; done) | (go_simp; rfl)); intro gb333 hg w63 hbox hb; have BK333 := Aside0.mk (hbox); have GW333 := bsz HB hg; have GE333 := bsz HB hg; replace HB := bstep HB hb; have NB331_333 := blt BK331 hg; have NB333_331 := bgt BK331 hg; replace BK331 := bkb BK331 hb; clear hb hbox hg; have hnb64 := NB333_331.out; have hnc64 := NB331_333.out; obtain ⟨hcz65_0, hcz65_1, hcz65_2, hcz65_3, hfz65_0, hfz65_1, hfz65_2, hfz65_3⟩ := cz4 BK333) | (go_at_call 67; (with_reducible refine (q1_IsName.calls k ((rd_T68 l0_0 a1).f0) false _ A5.out).mono ?_); rintro e w66 ⟨rfl, hb⟩; replace BK331 := Aside0.mk (blk_below (g := gb331) (o := .cells #[.slice (some ad332) l0_0.length c0_0, .slice A0_1 l0_1.length c0_1] 25 (0, 0)) (by (with_reducible repeat (first | refine blk_drewN ?_ _ | refine blk_drew ?_ | refine blk_alloc ?_ _)); refine blk_far ?_ NB331_333.out _; (with_reducible repeat (first | refine blk_drewN ?_ _ | refine blk_drew ?_ | refine blk_alloc ?_ _)); refine blk_far ?_ NB331_333.out _; (with_reducible repeat (first | refine blk_drewN ?_ _ | refine blk_drew ?_ | refine blk_alloc ?_ _)); refine blk_far ?_ NB331_333.out _; (with_reducible repeat (first | refine blk_drewN ?_ _ | refine blk_drew ?_ | refine blk_alloc ?_ _)); refine blk_far ?_ NB331_333.out _; (with_reducible repeat (first | refine blk_drewN ?_ _ | refine blk_drew ?_ | refine blk_alloc ?_ _)); exact BK331.out) hb); replace BK333 := Aside0.mk (blk_below (g := gb333) (o := .cells #[.string ((rd_T68 l0_0 a1).f0), .int .i64 ((rd_T68 l0_0 a1).f1), .bool ((rd_T68 l0_0 a1).f2), .slice A332_3 ((rd_T68 l0_0 a1).f3).length c332_3] 68 (0, 0)) (by (with_reducible repeat (first | refine blk_drewN ?_ _ | refine blk_drew ?_ | refine blk_alloc ?_ _)); refine blk_put (cs := #[.string ((rd_T68 l0_0 a1).f0), .int .i64 ((rd_T68 l0_0 a1).f1), .bool ((rd_T68 l0_0 a1).f2), .slice none 0 0]) ?_ 3 _ rfl; (with_reducible repeat (first | refine blk_drewN ?_ _ | refine blk_drew ?_ | refine blk_alloc ?_ _)); refine blk_put (cs := #[.string ((rd_T68 l0_0 a1).f0), .int .i64 ((rd_T68 l0_0 a1).f1), .bool false, .slice none 0 0]) ?_ 2 _ rfl; (with_reducible repeat (first | refine blk_drewN ?_ _ | refine blk_drew ?_ | refine blk_alloc ?_ _)); refine blk_put (cs := #[.string ((rd_T68 l0_0 a1).f0), .int .i64 0, .bool false, .slice none 0 0]) ?_ 1 _ rfl; (with_reducible repeat (first | refine blk_drewN ?_ _ | refine blk_drew ?_ | refine blk_alloc ?_ _)); refine blk_put (cs := #[.string (⟨#[]⟩ : ByteArray), .int .i64 0, .bool false, .slice none 0 0]) ?_ 0 _ rfl; (with_reducible repeat (first | refine blk_drewN ?_ _ | refine blk_drew ?_ | refine blk_alloc ?_ _)); exact BK333.out) hb); replace HB := bstep HB hb; (try clear hb); (try clear hb2); (try clear hk); (try clear hi)))
    repeat (go_quiet (fail); try go_wp2_with (fail))
    go_ret
    exact ⟨erf, bb HB⟩
  ·rw [if_neg c4] at H
   exact absurd H (by simp)
 ·rw [if_neg c3] at H
  exact absurd H (by simp)
end Go.Proofs.Ytfpianecohobjaa.P
