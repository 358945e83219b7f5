/- typesOrder_holds, typesBounds_holds, typesInherit_holds: a part of the proof that the law returns true for every input. No condition. -/
import Derived.Test.YtfpianecohobjaaAPx0
import Derived.Test.YtfpianecohobjaaAPx5
import Derived.Test.YtfpianecohobjaaAPx6
import Derived.Test.YtfpianecohobjaaAH0
namespace Go.Proofs.Ytfpianecohobjaa.P
open Go.RowKit Go.Proofs.YtfpianecohobjaaW.PrintWords Go.Proofs.YtfpianecohobjaaW.PrintLast Go.Proofs.YtfpianecohobjaaW.PrintMore
set_option linter.unusedVariables false
set_option linter.unusedSimpArgs false
mutual
def types_Valid.l0 : Nat → List (S68) → Int → Int → List (S68) → List (S71) → Option (ByteArray × Int)
 | 0, _, _, _, _, _ => none
 | k + 1, x27, x28, x29, x178000, x178001 => if x29 < x28 then (if 0 ≤ x29 then (if x29 < (x27.length : Int) then ((types_node.f k x178000 x178001 x29).bind fun t180 => (if t180 = 0 then (types_Valid.l0 k x27 x28 (wrap64 (x29 + 1)) x178000 x178001) else (some ((rd_T68 x27 x29).f0, t180)))) else (none)) else (none)) else (types_Valid.l1 k x178001 (x178001.length : Int) 0 x178000 x178001)
def types_Valid.l1 : Nat → List (S71) → Int → Int → List (S68) → List (S71) → Option (ByteArray × Int)
 | 0, _, _, _, _, _ => none
 | k + 1, x44, x45, x46, x178000, x178001 => if x46 < x45 then (if 0 ≤ x46 then (if x46 < (x44.length : Int) then ((types_edge.f k x178000 x178001 x46).bind fun t183 => (if t183 = 0 then (types_Valid.l1 k x44 x45 (wrap64 (x46 + 1)) x178000 x178001) else (some ((rd_T71 x44 x46).f0, t183)))) else (none)) else (none)) else (some ((⟨#[]⟩ : ByteArray), 0))
end
def types_Valid.f (k : Nat) (l0_0 : List (S68)) (l0_1 : List (S71)) : Option (ByteArray × Int) := if (l0_0.length : Int) = 0 then (some ((⟨#[]⟩ : ByteArray), 7)) else (if (l0_0.length : Int) > 12 then (some ((⟨#[]⟩ : ByteArray), 3)) else (if (l0_1.length : Int) > 20 then (some ((⟨#[]⟩ : ByteArray), 3)) else (types_Valid.l0 k l0_0 (l0_0.length : Int) 0 l0_0 l0_1)))
theorem types_Valid.mono_l : ∀ k, (∀ y0 y1 y2 y3 y4, LeO (types_Valid.l0 k y0 y1 y2 y3 y4) (types_Valid.l0 (k + 1) y0 y1 y2 y3 y4)) ∧ (∀ y0 y1 y2 y3 y4, LeO (types_Valid.l1 k y0 y1 y2 y3 y4) (types_Valid.l1 (k + 1) y0 y1 y2 y3 y4))
 | 0 => ⟨fun _ _ _ _ _ r h => by simp [types_Valid.l0] at h, fun _ _ _ _ _ r h => by simp [types_Valid.l1] at h⟩
 | k + 1 => by
  obtain ⟨ih0, ih1⟩ := types_Valid.mono_l k
  refine ⟨?_, ?_⟩
  ·intro y0 y1 y2 y3 y4
   unfold types_Valid.l0
   repeat' first
   | (with_reducible exact ih0 _ _ _ _ _)
   | (with_reducible exact ih1 _ _ _ _ _)
   | (with_reducible exact types_edge.mono _ _ _ _)
   | (with_reducible exact types_node.mono _ _ _ _)
   | (with_reducible exact LeO.refl _)
   | (with_reducible exact LeO.none _)
   | (with_reducible refine LeO.ite ?_ ?_)
   | (with_reducible refine LeO.bind ?_ (fun _ => ?_))
   | exact ih0 _ _ _ _ _
   | exact ih1 _ _ _ _ _
   | exact types_edge.mono _ _ _ _
   | exact types_node.mono _ _ _ _
   | exact LeO.none _
   | refine LeO.ite ?_ ?_
   | refine LeO.bind ?_ (fun _ => ?_)
  ·intro y0 y1 y2 y3 y4
   unfold types_Valid.l1
   repeat' first
   | (with_reducible exact ih0 _ _ _ _ _)
   | (with_reducible exact ih1 _ _ _ _ _)
   | (with_reducible exact types_edge.mono _ _ _ _)
   | (with_reducible exact types_node.mono _ _ _ _)
   | (with_reducible exact LeO.refl _)
   | (with_reducible exact LeO.none _)
   | (with_reducible refine LeO.ite ?_ ?_)
   | (with_reducible refine LeO.bind ?_ (fun _ => ?_))
   | exact ih0 _ _ _ _ _
   | exact ih1 _ _ _ _ _
   | exact types_edge.mono _ _ _ _
   | exact types_node.mono _ _ _ _
   | exact LeO.none _
   | refine LeO.ite ?_ ?_
   | refine LeO.bind ?_ (fun _ => ?_)
theorem types_Valid.mono : ∀ a0 a1 k, LeO (types_Valid.f k a0 a1) (types_Valid.f (k + 1) a0 a1) := by
 intro a0 a1 k
 obtain ⟨ih0, ih1⟩ := types_Valid.mono_l k
 unfold types_Valid.f
 repeat' first
   | (with_reducible exact ih0 _ _ _ _ _)
   | (with_reducible exact ih1 _ _ _ _ _)
   | (with_reducible exact types_edge.mono _ _ _ _)
   | (with_reducible exact types_node.mono _ _ _ _)
   | (with_reducible exact LeO.refl _)
   | (with_reducible exact LeO.none _)
   | (with_reducible refine LeO.ite ?_ ?_)
   | (with_reducible refine LeO.bind ?_ (fun _ => ?_))
   | exact ih0 _ _ _ _ _
   | exact ih1 _ _ _ _ _
   | exact types_edge.mono _ _ _ _
   | exact types_node.mono _ _ _ _
   | exact LeO.none _
   | refine LeO.ite ?_ ?_
   | refine LeO.bind ?_ (fun _ => ?_)
set_option maxHeartbeats 8000000 in
set_option maxRecDepth 100000 in
theorem types_Valid.calls (k : Nat) (A0_0 : Option Addr) (c0_0 : Nat) (l0_0 : List (S68)) (A0_1 : Option Addr) (c0_1 : Nat) (l0_1 : List (S71)) (r1 : ByteArray) (r2 : Int) (w : World) (hr0_0 : Kd.C k68 w A0_0 l0_0.length l0_0) (hc0_0 : l0_0.length ≤ c0_0) (hr0_1 : Kd.C k71 w A0_1 l0_1.length l0_1) (hc0_1 : l0_1.length ≤ c0_1) (h : types_Valid.f k l0_0 l0_1 = some (r1, r2)) :
  Calls Try.prog 14 #[.agg #[.slice A0_0 l0_0.length c0_0, .slice A0_1 l0_1.length c0_1]] w fun e w' => e = .returned (.tuple #[.string r1, .int .i64 r2]) ∧ Below w.heap.size w w' := by
 have hu25 := Try.underlying25
 have hu68 := Try.underlying68
 have hu71 := Try.underlying71
 have HR0_0 := Aside0.mk hr0_0
 have HC0_0 := Aside0.mk hc0_0
 clear hr0_0 hc0_0
 have HR0_1 := Aside0.mk hr0_1
 have HC0_1 := Aside0.mk hc0_1
 clear hr0_1 hc0_1
 have HB := Aside0.mk (Below.refl w.heap.size w)
 have H : (if (l0_0.length : Int) = 0 then (some ((⟨#[]⟩ : ByteArray), 7)) else (if (l0_0.length : Int) > 12 then (some ((⟨#[]⟩ : ByteArray), 3)) else (if (l0_1.length : Int) > 20 then (some ((⟨#[]⟩ : ByteArray), 3)) else (types_Valid.l0 k l0_0 (l0_0.length : Int) 0 l0_0 l0_1)))) = some (r1, r2) := h
 clear h
 by_cases c2 : (l0_0.length : Int) = 0
 ·rw [if_pos c2] at H
  have c2b0 : ((l0_0.length : Int) == 0) = true := beq_iff_eq.mpr c2
  have c2b1 : ((l0_0.length : Int) != 0) = false := bne_eq_false_iff_eq.mpr c2
  clear c2
  simp only [Option.some.injEq, Prod.mk.injEq] at H
  obtain ⟨rfl, rfl⟩ := H
  go_enter Try.func14, Try.ntmps14
  go_wp2_with (first | ((with_reducible refine gate_dst (N := 1) rfl ?_); (try (refine gate_guard (by rfl) ?_; dsimp only)); refine box_event ?hg (N := 1) ?hd (cs := #[.slice A0_0 l0_0.length c0_0, .slice A0_1 l0_1.length c0_1]) (t := 25) ?hr ?_; (case hd => rfl); (case hg => rfl); (case hr => first | (go_simp; done) | (go_simp; rfl)); intro gb177 hg w3 hbox hb; have BK177 := Aside0.mk (hbox); have GW177 := bsz HB hg; have GE177 := bsz HB hg; replace HB := bstep HB hb; clear hb hbox hg; obtain ⟨hcz4_0, hcz4_1, hfz4_0, hfz4_1⟩ := cz2 BK177))
  go_ret2
  exact ⟨erf, bb HB⟩
 ·rw [if_neg c2] at H
  have c2b0 : ((l0_0.length : Int) == 0) = false := beq_eq_false_iff_ne.mpr c2
  have c2b1 : ((l0_0.length : Int) != 0) = true := bne_iff_ne.mpr c2
  have c2b2 : ¬ (l0_0 = []) := fun h_ => c2 (by rw [h_]; rfl)
  by_cases c5 : (l0_0.length : Int) > 12
  ·rw [if_pos c5] at H
   have c5b0 : decide (12 < (l0_0.length : Int)) = true := decide_eq_true c5
   have c5b1 : decide (12 < l0_0.length) = true := decide_eq_true (by omega)
   clear c5
   simp only [Option.some.injEq, Prod.mk.injEq] at H
   obtain ⟨rfl, rfl⟩ := H
   go_enter Try.func14, Try.ntmps14
   go_wp2_with (first | ((with_reducible refine gate_dst (N := 1) rfl ?_); (try (refine gate_guard (by rfl) ?_; dsimp only)); refine box_event ?hg (N := 1) ?hd (cs := #[.slice A0_0 l0_0.length c0_0, .slice A0_1 l0_1.length c0_1]) (t := 25) ?hr ?_; (case hd => rfl); (case hg => rfl); (case hr => first | (go_simp; done) | (go_simp; rfl)); intro gb177 hg w6 hbox hb; have BK177 := Aside0.mk (hbox); have GW177 := bsz HB hg; have GE177 := bsz HB hg; replace HB := bstep HB hb; clear hb hbox hg; obtain ⟨hcz7_0, hcz7_1, hfz7_0, hfz7_1⟩ := cz2 BK177))
   go_ret2
   exact ⟨erf, bb HB⟩
  ·rw [if_neg c5] at H
   have c5b0 : decide (12 < (l0_0.length : Int)) = false := decide_eq_false c5
   have c5b1 : decide (12 < l0_0.length) = false := decide_eq_false (by omega)
   clear c5
   by_cases c8 : (l0_1.length : Int) > 20
   ·rw [if_pos c8] at H
    have c8b0 : decide (20 < (l0_1.length : Int)) = true := decide_eq_true c8
    have c8b1 : decide (20 < l0_1.length) = true := decide_eq_true (by omega)
    clear c8
    simp only [Option.some.injEq, Prod.mk.injEq] at H
    obtain ⟨rfl, rfl⟩ := H
    go_enter Try.func14, Try.ntmps14
    go_wp2_with (first | ((with_reducible refine gate_dst (N := 1) rfl ?_); (try (refine gate_guard (by rfl) ?_; dsimp only)); refine box_event ?hg (N := 1) ?hd (cs := #[.slice A0_0 l0_0.length c0_0, .slice A0_1 l0_1.length c0_1]) (t := 25) ?hr ?_; (case hd => rfl); (case hg => rfl); (case hr => first | (go_simp; done) | (go_simp; rfl)); intro gb177 hg w9 hbox hb; have BK177 := Aside0.mk (hbox); have GW177 := bsz HB hg; have GE177 := bsz HB hg; replace HB := bstep HB hb; clear hb hbox hg; obtain ⟨hcz10_0, hcz10_1, hfz10_0, hfz10_1⟩ := cz2 BK177))
    go_ret2
    exact ⟨erf, bb HB⟩
   ·rw [if_neg c8] at H
    have c8b0 : decide (20 < (l0_1.length : Int)) = false := decide_eq_false c8
    have c8b1 : decide (20 < l0_1.length) = false := decide_eq_false (by omega)
    clear c8
    have H' := Aside0.mk H
    clear H
    go_enter Try.func14, Try.ntmps14
    go_wp2_with (first | ((with_reducible refine gate_dst (N := 1) rfl ?_); (try (refine gate_guard (by rfl) ?_; dsimp only)); refine box_event ?hg (N := 1) ?hd (cs := #[.slice A0_0 l0_0.length c0_0, .slice A0_1 l0_1.length c0_1]) (t := 25) ?hr ?_; (case hd => rfl); (case hg => rfl); (case hr => first | (go_simp; done) | (go_simp; rfl)); intro gb177 hg w11 hbox hb; have BK177 := Aside0.mk (hbox); have GW177 := bsz HB hg; have GE177 := bsz HB hg; replace HB := bstep HB hb; clear hb hbox hg; obtain ⟨hcz12_0, hcz12_1, hfz12_0, hfz12_1⟩ := cz2 BK177))
    go_loopg [29] k (fun kq v29 w' => ∃ (x29_1 : Int), v29 = .int .i64 x29_1 ∧ Aside0 (types_Valid.l0 kq l0_0 (l0_0.length : Int) x29_1 l0_0 l0_1 = some (r1, r2)) ∧ Aside0 (kq ≤ k) ∧ Aside0 (w'.heap[gb177]? = some (.cells #[(.slice A0_0 l0_0.length c0_0), (.slice A0_1 l0_1.length c0_1)] 25 (0, 0))) ∧ Aside0 (Below w.heap.size w w'))
    case atStart => exact ⟨(0), eqs, H', ⟨Nat.le_refl _⟩, ⟨bk BK177⟩, ⟨bb HB⟩⟩
    case round =>
     clear H'
     try clear c1
     try clear c2
     try clear c2b0
     try clear c2b1
     try clear c2b2
     try clear p2
     try clear c5
     try clear c5b0
     try clear c5b1
     try clear c8
     try clear c8b0
     try clear c8b1
     try clear hcz10_0
     try clear hcz10_1
     try clear hcz12_0
     try clear hcz12_1
     try clear hcz4_0
     try clear hcz4_1
     try clear hcz7_0
     try clear hcz7_1
     try clear hfz10_0
     try clear hfz10_1
     try clear hfz12_0
     try clear hfz12_1
     try clear hfz4_0
     try clear hfz4_1
     try clear hfz7_0
     try clear hfz7_1
     obtain ⟨x29_1, rfl, HA, HK1, BK177, HB⟩ := hrel
     cases gk with
     | zero => exact absurd HA.out (by simp [types_Valid.l0])
     | succ k1 =>
      have H := HA.out
      clear HA
      simp only [types_Valid.l0] at H
      by_cases c13 : x29_1 < (l0_0.length : Int)
      ·rw [if_pos c13] at H
       have c13b0 : decide (x29_1 < (l0_0.length : Int)) = true := decide_eq_true c13
       clear c13
       by_cases c14 : 0 ≤ x29_1
       ·rw [if_pos c14] at H
        have c14b0 : decide (0 ≤ x29_1) = true := decide_eq_true c14
        clear c14
        by_cases c15 : x29_1 < (l0_0.length : Int)
        ·rw [if_pos c15] at H
         have c15b0 : decide (x29_1 < (l0_0.length : Int)) = true := decide_eq_true c15
         clear c15
         replace H := Option.bind_eq_some_iff.mp H
         obtain ⟨t180, A160, H⟩ := H
         replace H : (if t180 = 0 then (types_Valid.l0 k1 l0_0 (l0_0.length : Int) (wrap64 (x29_1 + 1)) l0_0 l0_1) else (some ((rd_T68 l0_0 x29_1).f0, t180))) = some (r1, r2) := H
         have A16 := Aside0.mk A160
         clear A160
         by_cases c17 : t180 = 0
         ·rw [if_pos c17] at H
          have c17b0 : (t180 == 0) = true := beq_iff_eq.mpr c17
          have c17b1 : (t180 != 0) = false := bne_eq_false_iff_eq.mpr c17
          clear c17
          have H' := Aside0.mk H
          clear H
          have p178 : 0 ≤ x29_1 := odt
          have q178 : x29_1 < (l0_0.length : Int) := odt
          obtain ⟨ad178, A178_3, c178_3, e178, hx178_0, hx178_1, hx178_2, hx178_3, hl178_3, hi178_3⟩ := at_T68 HR0_0.out x29_1 p178 q178
          cases e178
          replace hx178_0 := hxc HB hx178_0
          replace hx178_1 := hxc HB hx178_1
          replace hx178_2 := hxc HB hx178_2
          replace hx178_3 := hxc HB hx178_3
          have HR178_3 := Aside0.mk hi178_3
          have HC178_3 := Aside0.mk hl178_3
          clear hi178_3 hl178_3
          replace p178 := eq_true p178
          replace q178 := eq_true q178
          go_wp2_with (first | ((with_reducible refine gate_dst (N := 5) rfl ?_); (try (refine gate_guard (by rfl) ?_; dsimp only)); refine box_event ?hg (N := 5) ?hd (cs := #[.string (⟨#[]⟩ : ByteArray), .int .i64 0, .bool false, .slice none 0 0]) (t := 68) ?hr ?_; (case hd => rfl); (case hg => rfl); (case hr => first | (go_simp; done) | (go_simp; rfl)); intro gb179 hg w18 hbox hb; have BK179 := Aside0.mk (hbox); have GW179 := bsz HB hg; have GE179 := bsz HB hg; replace HB := bstep HB hb; have NB177_179 := blt BK177 hg; have NB179_177 := bgt BK177 hg; replace BK177 := bkb BK177 hb; clear hb hbox hg; have hnb19 := NB179_177.out; have hnc19 := NB177_179.out; obtain ⟨hcz20_0, hcz20_1, hcz20_2, hcz20_3, hfz20_0, hfz20_1, hfz20_2, hfz20_3⟩ := cz4 BK179; obtain ⟨hcz21_0, hcz21_1, hfz21_0, hfz21_1⟩ := cz2 BK177) | ((with_reducible refine gate_callee (f := 39) rfl ?_); refine gl 36 Try.func39 #[.agg #[.slice (some ad178) l0_0.length c0_0, .slice A0_1 l0_1.length c0_1], .int .i64 x29_1] (h := ?_); (with_reducible refine (types_node.calls k1 _ _ l0_0 _ _ l0_1 x29_1 t180 _ ?side1 ?side2 ?side3 ?side4 A16.out).mono ?_); (case side1 => exact Kd.C_below HR0_0.out (bb HB)); (case side2 => exact HC0_0.out); (case side3 => exact Kd.C_below HR0_1.out (bb HB)); (case side4 => exact HC0_1.out); rintro e w22 ⟨rfl, hb⟩; refine ⟨_, rfl, ?_⟩; replace BK177 := Aside0.mk (blk_below (g := gb177) (o := .cells #[.slice (some ad178) l0_0.length c0_0, .slice A0_1 l0_1.length c0_1] 25 (0, 0)) (by (with_reducible repeat (first | refine blk_drewN ?_ _ | refine blk_drew ?_ | refine blk_alloc ?_ _)); refine blk_far ?_ NB177_179.out _; (with_reducible repeat (first | refine blk_drewN ?_ _ | refine blk_drew ?_ | refine blk_alloc ?_ _)); refine blk_far ?_ NB177_179.out _; (with_reducible repeat (first | refine blk_drewN ?_ _ | refine blk_drew ?_ | refine blk_alloc ?_ _)); refine blk_far ?_ NB177_179.out _; (with_reducible repeat (first | refine blk_drewN ?_ _ | refine blk_drew ?_ | refine blk_alloc ?_ _)); refine blk_far ?_ NB177_179.out _; (with_reducible repeat (first | refine blk_drewN ?_ _ | refine blk_drew ?_ | refine blk_alloc ?_ _)); exact BK177.out) hb); replace BK179 := Aside0.mk (blk_below (g := gb179) (o := .cells #[.string ((rd_T68 l0_0 x29_1).f0), .int .i64 ((rd_T68 l0_0 x29_1).f1), .bool ((rd_T68 l0_0 x29_1).f2), .slice A178_3 ((rd_T68 l0_0 x29_1).f3).length c178_3] 68 (0, 0)) (by (with_reducible repeat (first | refine blk_drewN ?_ _ | refine blk_drew ?_ | refine blk_alloc ?_ _)); refine blk_put (cs := #[.string ((rd_T68 l0_0 x29_1).f0), .int .i64 ((rd_T68 l0_0 x29_1).f1), .bool ((rd_T68 l0_0 x29_1).f2), .slice none 0 0]) ?_ 3 _ rfl; (with_reducible repeat (first | refine blk_drewN ?_ _ | refine blk_drew ?_ | refine blk_alloc ?_ _)); refine blk_put (cs := #[.string ((rd_T68 l0_0 x29_1).f0), .int .i64 ((rd_T68 l0_0 x29_1).f1), .bool false, .slice none 0 0]) ?_ 2 _ rfl; (with_reducible repeat (first | refine blk_drewN ?_ _ | refine blk_drew ?_ | refine blk_alloc ?_ _)); refine blk_put (cs := #[.string ((rd_T68 l0_0 x29_1).f0), .int .i64 0, .bool false, .slice none 0 0]) ?_ 1 _ rfl; (with_reducible repeat (first | refine blk_drewN ?_ _ | refine blk_drew ?_ | refine blk_alloc ?_ _)); refine blk_put (cs := #[.string (⟨#[]⟩ : ByteArray), .int .i64 0, .bool false, .slice none 0 0]) ?_ 0 _ rfl; (with_reducible repeat (first | refine blk_drewN ?_ _ | refine blk_drew ?_ | refine blk_alloc ?_ _)); exact BK179.out) hb); replace HB := bstep HB hb; (try clear hb); (try clear hb2); (try clear hk); (try clear hi)))
          go_roundg k1
          case measure => have := HK1.out; omega
          case rel => exact ⟨(wrap64 (x29_1 + 1)), eqs, H', ⟨by have := HK1.out; omega⟩, ⟨bk BK177⟩, ⟨bb HB⟩⟩
         ·rw [if_neg c17] at H
          have c17b0 : (t180 == 0) = false := beq_eq_false_iff_ne.mpr c17
          have c17b1 : (t180 != 0) = true := bne_iff_ne.mpr c17
          simp only [Option.some.injEq, Prod.mk.injEq] at H
          obtain ⟨rfl, rfl⟩ := H
          have p178 : 0 ≤ x29_1 := odt
          have q178 : x29_1 < (l0_0.length : Int) := odt
          obtain ⟨ad178, A178_3, c178_3, e178, hx178_0, hx178_1, hx178_2, hx178_3, hl178_3, hi178_3⟩ := at_T68 HR0_0.out x29_1 p178 q178
          cases e178
          replace hx178_0 := hxc HB hx178_0
          replace hx178_1 := hxc HB hx178_1
          replace hx178_2 := hxc HB hx178_2
          replace hx178_3 := hxc HB hx178_3
          have HR178_3 := Aside0.mk hi178_3
          have HC178_3 := Aside0.mk hl178_3
          clear hi178_3 hl178_3
          replace p178 := eq_true p178
          replace q178 := eq_true q178
          go_wp2_with (first | ((with_reducible refine gate_dst (N := 5) rfl ?_); (try (refine gate_guard (by rfl) ?_; dsimp only)); refine box_event ?hg (N := 5) ?hd (cs := #[.string (⟨#[]⟩ : ByteArray), .int .i64 0, .bool false, .slice none 0 0]) (t := 68) ?hr ?_; (case hd => rfl); (case hg => rfl); (case hr => first | (go_simp; done) | (go_simp; rfl)); intro gb179 hg w23 hbox hb; have BK179 := Aside0.mk (hbox); have GW179 := bsz HB hg; have GE179 := bsz HB hg; replace HB := bstep HB hb; have NB177_179 := blt BK177 hg; have NB179_177 := bgt BK177 hg; replace BK177 := bkb BK177 hb; clear hb hbox hg; have hnb24 := NB179_177.out; have hnc24 := NB177_179.out; obtain ⟨hcz25_0, hcz25_1, hcz25_2, hcz25_3, hfz25_0, hfz25_1, hfz25_2, hfz25_3⟩ := cz4 BK179; obtain ⟨hcz26_0, hcz26_1, hfz26_0, hfz26_1⟩ := cz2 BK177) | ((with_reducible refine gate_callee (f := 39) rfl ?_); refine gl 36 Try.func39 #[.agg #[.slice (some ad178) l0_0.length c0_0, .slice A0_1 l0_1.length c0_1], .int .i64 x29_1] (h := ?_); (with_reducible refine (types_node.calls k1 _ _ l0_0 _ _ l0_1 x29_1 t180 _ ?side1 ?side2 ?side3 ?side4 A16.out).mono ?_); (case side1 => exact Kd.C_below HR0_0.out (bb HB)); (case side2 => exact HC0_0.out); (case side3 => exact Kd.C_below HR0_1.out (bb HB)); (case side4 => exact HC0_1.out); rintro e w27 ⟨rfl, hb⟩; refine ⟨_, rfl, ?_⟩; replace BK177 := Aside0.mk (blk_below (g := gb177) (o := .cells #[.slice (some ad178) l0_0.length c0_0, .slice A0_1 l0_1.length c0_1] 25 (0, 0)) (by (with_reducible repeat (first | refine blk_drewN ?_ _ | refine blk_drew ?_ | refine blk_alloc ?_ _)); refine blk_far ?_ NB177_179.out _; (with_reducible repeat (first | refine blk_drewN ?_ _ | refine blk_drew ?_ | refine blk_alloc ?_ _)); refine blk_far ?_ NB177_179.out _; (with_reducible repeat (first | refine blk_drewN ?_ _ | refine blk_drew ?_ | refine blk_alloc ?_ _)); refine blk_far ?_ NB177_179.out _; (with_reducible repeat (first | refine blk_drewN ?_ _ | refine blk_drew ?_ | refine blk_alloc ?_ _)); refine blk_far ?_ NB177_179.out _; (with_reducible repeat (first | refine blk_drewN ?_ _ | refine blk_drew ?_ | refine blk_alloc ?_ _)); exact BK177.out) hb); replace BK179 := Aside0.mk (blk_below (g := gb179) (o := .cells #[.string ((rd_T68 l0_0 x29_1).f0), .int .i64 ((rd_T68 l0_0 x29_1).f1), .bool ((rd_T68 l0_0 x29_1).f2), .slice A178_3 ((rd_T68 l0_0 x29_1).f3).length c178_3] 68 (0, 0)) (by (with_reducible repeat (first | refine blk_drewN ?_ _ | refine blk_drew ?_ | refine blk_alloc ?_ _)); refine blk_put (cs := #[.string ((rd_T68 l0_0 x29_1).f0), .int .i64 ((rd_T68 l0_0 x29_1).f1), .bool ((rd_T68 l0_0 x29_1).f2), .slice none 0 0]) ?_ 3 _ rfl; (with_reducible repeat (first | refine blk_drewN ?_ _ | refine blk_drew ?_ | refine blk_alloc ?_ _)); refine blk_put (cs := #[.string ((rd_T68 l0_0 x29_1).f0), .int .i64 ((rd_T68 l0_0 x29_1).f1), .bool false, .slice none 0 0]) ?_ 2 _ rfl; (with_reducible repeat (first | refine blk_drewN ?_ _ | refine blk_drew ?_ | refine blk_alloc ?_ _)); refine blk_put (cs := #[.string ((rd_T68 l0_0 x29_1).f0), .int .i64 0, .bool false, .slice none 0 0]) ?_ 1 _ rfl; (with_reducible repeat (first | refine blk_drewN ?_ _ | refine blk_drew ?_ | refine blk_alloc ?_ _)); refine blk_put (cs := #[.string (⟨#[]⟩ : ByteArray), .int .i64 0, .bool false, .slice none 0 0]) ?_ 0 _ rfl; (with_reducible repeat (first | refine blk_drewN ?_ _ | refine blk_drew ?_ | refine blk_alloc ?_ _)); exact BK179.out) hb); replace HB := bstep HB hb; (try clear hb); (try clear hb2); (try clear hk); (try clear hi); obtain ⟨hcz28_0, hcz28_1, hcz28_2, hcz28_3, hfz28_0, hfz28_1, hfz28_2, hfz28_3⟩ := cz4 BK179))
          go_ret2
          exact ⟨erf, bb HB⟩
        ·rw [if_neg c15] at H
         exact absurd H (by simp)
       ·rw [if_neg c14] at H
        exact absurd H (by simp)
      ·rw [if_neg c13] at H
       have c13b0 : decide (x29_1 < (l0_0.length : Int)) = false := decide_eq_false c13
       clear c13
       have H' := Aside0.mk H
       clear H
       obtain ⟨hcz29_0, hcz29_1, hfz29_0, hfz29_1⟩ := cz2 BK177
       go_wp2
       go_loopg [46] k1 (fun kq v46 w' => ∃ (x46_2 : Int), v46 = .int .i64 x46_2 ∧ Aside0 (types_Valid.l1 kq l0_1 (l0_1.length : Int) x46_2 l0_0 l0_1 = some (r1, r2)) ∧ Aside0 (kq ≤ k1) ∧ Aside0 (w'.heap[gb177]? = some (.cells #[(.slice A0_0 l0_0.length c0_0), (.slice A0_1 l0_1.length c0_1)] 25 (0, 0))) ∧ Aside0 (Below w.heap.size w w'))
       case atStart => exact ⟨(0), eqs, H', ⟨Nat.le_refl _⟩, ⟨bk BK177⟩, ⟨bb HB⟩⟩
       case round =>
        clear H'
        try clear c1
        try clear p1
        try clear q1
        try clear hx1
        try clear c2
        try clear c2b0
        try clear c2b1
        try clear c2b2
        try clear p2
        try clear c3
        try clear c5
        try clear c5b0
        try clear c5b1
        try clear p6
        try clear c8
        try clear c8b0
        try clear c8b1
        try clear c13
        try clear c13b0
        try clear c14
        try clear c14b0
        try clear c15
        try clear c15b0
        try clear c17
        try clear c17b0
        try clear c17b1
        try clear p17
        try clear q17
        try clear hx17
        try clear c19
        try clear c24
        try clear hcz10_0
        try clear hcz10_1
        try clear hcz12_0
        try clear hcz12_1
        try clear hcz20_0
        try clear hcz20_1
        try clear hcz20_2
        try clear hcz20_3
        try clear hcz21_0
        try clear hcz21_1
        try clear hcz25_0
        try clear hcz25_1
        try clear hcz25_2
        try clear hcz25_3
        try clear hcz26_0
        try clear hcz26_1
        try clear hcz28_0
        try clear hcz28_1
        try clear hcz28_2
        try clear hcz28_3
        try clear hcz29_0
        try clear hcz29_1
        try clear hcz4_0
        try clear hcz4_1
        try clear hcz7_0
        try clear hcz7_1
        try clear hfz10_0
        try clear hfz10_1
        try clear hfz12_0
        try clear hfz12_1
        try clear hfz20_0
        try clear hfz20_1
        try clear hfz20_2
        try clear hfz20_3
        try clear hfz21_0
        try clear hfz21_1
        try clear hfz25_0
        try clear hfz25_1
        try clear hfz25_2
        try clear hfz25_3
        try clear hfz26_0
        try clear hfz26_1
        try clear hfz28_0
        try clear hfz28_1
        try clear hfz28_2
        try clear hfz28_3
        try clear hfz29_0
        try clear hfz29_1
        try clear hfz4_0
        try clear hfz4_1
        try clear hfz7_0
        try clear hfz7_1
        try clear hx178_0
        try clear hx178_1
        try clear hx178_2
        try clear hx178_3
        try clear p178
        try clear p2
        try clear q178
        obtain ⟨x46_2, rfl, HA, HK2, BK177, HB⟩ := hrel
        cases gk with
        | zero => exact absurd HA.out (by simp [types_Valid.l1])
        | succ k2 =>
         have H := HA.out
         clear HA
         simp only [types_Valid.l1] at H
         by_cases c30 : x46_2 < (l0_1.length : Int)
         ·rw [if_pos c30] at H
          have c30b0 : decide (x46_2 < (l0_1.length : Int)) = true := decide_eq_true c30
          clear c30
          by_cases c31 : 0 ≤ x46_2
          ·rw [if_pos c31] at H
           have c31b0 : decide (0 ≤ x46_2) = true := decide_eq_true c31
           clear c31
           by_cases c32 : x46_2 < (l0_1.length : Int)
           ·rw [if_pos c32] at H
            have c32b0 : decide (x46_2 < (l0_1.length : Int)) = true := decide_eq_true c32
            clear c32
            replace H := Option.bind_eq_some_iff.mp H
            obtain ⟨t183, A330, H⟩ := H
            replace H : (if t183 = 0 then (types_Valid.l1 k2 l0_1 (l0_1.length : Int) (wrap64 (x46_2 + 1)) l0_0 l0_1) else (some ((rd_T71 l0_1 x46_2).f0, t183))) = some (r1, r2) := H
            have A33 := Aside0.mk A330
            clear A330
            by_cases c34 : t183 = 0
            ·rw [if_pos c34] at H
             have c34b0 : (t183 == 0) = true := beq_iff_eq.mpr c34
             have c34b1 : (t183 != 0) = false := bne_eq_false_iff_eq.mpr c34
             clear c34
             have H' := Aside0.mk H
             clear H
             have p181 : 0 ≤ x46_2 := odt
             have q181 : x46_2 < (l0_1.length : Int) := odt
             obtain ⟨ad181, e181, hx181_0, hx181_1, hx181_2, hx181_3, hx181_4, hx181_5, hx181_6⟩ := at_T71 HR0_1.out x46_2 p181 q181
             cases e181
             replace hx181_0 := hxc HB hx181_0
             replace hx181_1 := hxc HB hx181_1
             replace hx181_2 := hxc HB hx181_2
             replace hx181_3 := hxc HB hx181_3
             replace hx181_4 := hxc HB hx181_4
             replace hx181_5 := hxc HB hx181_5
             replace hx181_6 := hxc HB hx181_6
             replace p181 := eq_true p181
             replace q181 := eq_true q181
             go_wp2_with (first | ((with_reducible refine gate_dst (N := 8) rfl ?_); (try (refine gate_guard (by rfl) ?_; dsimp only)); refine box_event ?hg (N := 8) ?hd (cs := #[.string (⟨#[]⟩ : ByteArray), .int .i64 0, .int .i64 0, .int .i64 0, .int .i64 0, .int .i64 0, .int .i64 0]) (t := 71) ?hr ?_; (case hd => rfl); (case hg => rfl); (case hr => first | (go_simp; done) | (go_simp; rfl)); intro gb182 hg w35 hbox hb; have BK182 := Aside0.mk (hbox); have GW182 := bsz HB hg; have GE182 := bsz HB hg; replace HB := bstep HB hb; have NB177_182 := blt BK177 hg; have NB182_177 := bgt BK177 hg; replace BK177 := bkb BK177 hb; clear hb hbox hg; have hnb36 := NB182_177.out; have hnc36 := NB177_182.out; obtain ⟨hcz37_0, hcz37_1, hcz37_2, hcz37_3, hcz37_4, hcz37_5, hcz37_6, hfz37_0, hfz37_1, hfz37_2, hfz37_3, hfz37_4, hfz37_5, hfz37_6⟩ := cz7 BK182; obtain ⟨hcz38_0, hcz38_1, hfz38_0, hfz38_1⟩ := cz2 BK177) | ((with_reducible refine gate_callee (f := 40) rfl ?_); refine gl 53 Try.func40 #[.agg #[.slice A0_0 l0_0.length c0_0, .slice (some ad181) l0_1.length c0_1], .int .i64 x46_2] (h := ?_); (with_reducible refine (types_edge.calls k2 _ _ l0_0 _ _ l0_1 x46_2 t183 _ ?side1 ?side2 ?side3 ?side4 A33.out).mono ?_); (case side1 => exact Kd.C_below HR0_0.out (bb HB)); (case side2 => exact HC0_0.out); (case side3 => exact Kd.C_below HR0_1.out (bb HB)); (case side4 => exact HC0_1.out); rintro e w39 ⟨rfl, hb⟩; refine ⟨_, rfl, ?_⟩; replace BK177 := Aside0.mk (blk_below (g := gb177) (o := .cells #[.slice A0_0 l0_0.length c0_0, .slice (some ad181) l0_1.length c0_1] 25 (0, 0)) (by (with_reducible repeat (first | refine blk_drewN ?_ _ | refine blk_drew ?_ | refine blk_alloc ?_ _)); refine blk_far ?_ NB177_182.out _; (with_reducible repeat (first | refine blk_drewN ?_ _ | refine blk_drew ?_ | refine blk_alloc ?_ _)); refine blk_far ?_ NB177_182.out _; (with_reducible repeat (first | refine blk_drewN ?_ _ | refine blk_drew ?_ | refine blk_alloc ?_ _)); refine blk_far ?_ NB177_182.out _; (with_reducible repeat (first | refine blk_drewN ?_ _ | refine blk_drew ?_ | refine blk_alloc ?_ _)); refine blk_far ?_ NB177_182.out _; (with_reducible repeat (first | refine blk_drewN ?_ _ | refine blk_drew ?_ | refine blk_alloc ?_ _)); refine blk_far ?_ NB177_182.out _; (with_reducible repeat (first | refine blk_drewN ?_ _ | refine blk_drew ?_ | refine blk_alloc ?_ _)); refine blk_far ?_ NB177_182.out _; (with_reducible repeat (first | refine blk_drewN ?_ _ | refine blk_drew ?_ | refine blk_alloc ?_ _)); refine blk_far ?_ NB177_182.out _; (with_reducible repeat (first | refine blk_drewN ?_ _ | refine blk_drew ?_ | refine blk_alloc ?_ _)); exact BK177.out) hb); replace BK182 := Aside0.mk (blk_below (g := gb182) (o := .cells #[.string ((rd_T71 l0_1 x46_2).f0), .int .i64 ((rd_T71 l0_1 x46_2).f1), .int .i64 ((rd_T71 l0_1 x46_2).f2), .int .i64 ((rd_T71 l0_1 x46_2).f3), .int .i64 ((rd_T71 l0_1 x46_2).f4), .int .i64 ((rd_T71 l0_1 x46_2).f5), .int .i64 ((rd_T71 l0_1 x46_2).f6)] 71 (0, 0)) (by (with_reducible repeat (first | refine blk_drewN ?_ _ | refine blk_drew ?_ | refine blk_alloc ?_ _)); refine blk_put (cs := #[.string ((rd_T71 l0_1 x46_2).f0), .int .i64 ((rd_T71 l0_1 x46_2).f1), .int .i64 ((rd_T71 l0_1 x46_2).f2), .int .i64 ((rd_T71 l0_1 x46_2).f3), .int .i64 ((rd_T71 l0_1 x46_2).f4), .int .i64 ((rd_T71 l0_1 x46_2).f5), .int .i64 0]) ?_ 6 _ rfl; (with_reducible repeat (first | refine blk_drewN ?_ _ | refine blk_drew ?_ | refine blk_alloc ?_ _)); refine blk_put (cs := #[.string ((rd_T71 l0_1 x46_2).f0), .int .i64 ((rd_T71 l0_1 x46_2).f1), .int .i64 ((rd_T71 l0_1 x46_2).f2), .int .i64 ((rd_T71 l0_1 x46_2).f3), .int .i64 ((rd_T71 l0_1 x46_2).f4), .int .i64 0, .int .i64 0]) ?_ 5 _ rfl; (with_reducible repeat (first | refine blk_drewN ?_ _ | refine blk_drew ?_ | refine blk_alloc ?_ _)); refine blk_put (cs := #[.string ((rd_T71 l0_1 x46_2).f0), .int .i64 ((rd_T71 l0_1 x46_2).f1), .int .i64 ((rd_T71 l0_1 x46_2).f2), .int .i64 ((rd_T71 l0_1 x46_2).f3), .int .i64 0, .int .i64 0, .int .i64 0]) ?_ 4 _ rfl; (with_reducible repeat (first | refine blk_drewN ?_ _ | refine blk_drew ?_ | refine blk_alloc ?_ _)); refine blk_put (cs := #[.string ((rd_T71 l0_1 x46_2).f0), .int .i64 ((rd_T71 l0_1 x46_2).f1), .int .i64 ((rd_T71 l0_1 x46_2).f2), .int .i64 0, .int .i64 0, .int .i64 0, .int .i64 0]) ?_ 3 _ rfl; (with_reducible repeat (first | refine blk_drewN ?_ _ | refine blk_drew ?_ | refine blk_alloc ?_ _)); refine blk_put (cs := #[.string ((rd_T71 l0_1 x46_2).f0), .int .i64 ((rd_T71 l0_1 x46_2).f1), .int .i64 0, .int .i64 0, .int .i64 0, .int .i64 0, .int .i64 0]) ?_ 2 _ rfl; (with_reducible repeat (first | refine blk_drewN ?_ _ | refine blk_drew ?_ | refine blk_alloc ?_ _)); refine blk_put (cs := #[.string ((rd_T71 l0_1 x46_2).f0), .int .i64 0, .int .i64 0, .int .i64 0, .int .i64 0, .int .i64 0, .int .i64 0]) ?_ 1 _ rfl; (with_reducible repeat (first | refine blk_drewN ?_ _ | refine blk_drew ?_ | refine blk_alloc ?_ _)); refine blk_put (cs := #[.string (⟨#[]⟩ : ByteArray), .int .i64 0, .int .i64 0, .int .i64 0, .int .i64 0, .int .i64 0, .int .i64 0]) ?_ 0 _ rfl; (with_reducible repeat (first | refine blk_drewN ?_ _ | refine blk_drew ?_ | refine blk_alloc ?_ _)); exact BK182.out) hb); replace HB := bstep HB hb; (try clear hb); (try clear hb2); (try clear hk); (try clear hi)))
             go_roundg k2
             case measure => have := HK1.out; have := HK2.out; omega
             case rel => exact ⟨(wrap64 (x46_2 + 1)), eqs, H', ⟨by have := HK1.out; have := HK2.out; omega⟩, ⟨bk BK177⟩, ⟨bb HB⟩⟩
            ·rw [if_neg c34] at H
             have c34b0 : (t183 == 0) = false := beq_eq_false_iff_ne.mpr c34
             have c34b1 : (t183 != 0) = true := bne_iff_ne.mpr c34
             simp only [Option.some.injEq, Prod.mk.injEq] at H
             obtain ⟨rfl, rfl⟩ := H
             have p181 : 0 ≤ x46_2 := odt
             have q181 : x46_2 < (l0_1.length : Int) := odt
             obtain ⟨ad181, e181, hx181_0, hx181_1, hx181_2, hx181_3, hx181_4, hx181_5, hx181_6⟩ := at_T71 HR0_1.out x46_2 p181 q181
             cases e181
             replace hx181_0 := hxc HB hx181_0
             replace hx181_1 := hxc HB hx181_1
             replace hx181_2 := hxc HB hx181_2
             replace hx181_3 := hxc HB hx181_3
             replace hx181_4 := hxc HB hx181_4
             replace hx181_5 := hxc HB hx181_5
             replace hx181_6 := hxc HB hx181_6
             replace p181 := eq_true p181
             replace q181 := eq_true q181
             go_wp2_with (first | ((with_reducible refine gate_dst (N := 8) rfl ?_); (try (refine gate_guard (by rfl) ?_; dsimp only)); refine box_event ?hg (N := 8) ?hd (cs := #[.string (⟨#[]⟩ : ByteArray), .int .i64 0, .int .i64 0, .int .i64 0, .int .i64 0, .int .i64 0, .int .i64 0]) (t := 71) ?hr ?_; (case hd => rfl); (case hg => rfl); (case hr => first | (go_simp; done) | (go_simp; rfl)); intro gb182 hg w40 hbox hb; have BK182 := Aside0.mk (hbox); have GW182 := bsz HB hg; have GE182 := bsz HB hg; replace HB := bstep HB hb; have NB177_182 := blt BK177 hg; have NB182_177 := bgt BK177 hg; replace BK177 := bkb BK177 hb; clear hb hbox hg; have hnb41 := NB182_177.out; have hnc41 := NB177_182.out; obtain ⟨hcz42_0, hcz42_1, hcz42_2, hcz42_3, hcz42_4, hcz42_5, hcz42_6, hfz42_0, hfz42_1, hfz42_2, hfz42_3, hfz42_4, hfz42_5, hfz42_6⟩ := cz7 BK182; obtain ⟨hcz43_0, hcz43_1, hfz43_0, hfz43_1⟩ := cz2 BK177) | ((with_reducible refine gate_callee (f := 40) rfl ?_); refine gl 53 Try.func40 #[.agg #[.slice A0_0 l0_0.length c0_0, .slice (some ad181) l0_1.length c0_1], .int .i64 x46_2] (h := ?_); (with_reducible refine (types_edge.calls k2 _ _ l0_0 _ _ l0_1 x46_2 t183 _ ?side1 ?side2 ?side3 ?side4 A33.out).mono ?_); (case side1 => exact Kd.C_below HR0_0.out (bb HB)); (case side2 => exact HC0_0.out); (case side3 => exact Kd.C_below HR0_1.out (bb HB)); (case side4 => exact HC0_1.out); rintro e w44 ⟨rfl, hb⟩; refine ⟨_, rfl, ?_⟩; replace BK177 := Aside0.mk (blk_below (g := gb177) (o := .cells #[.slice A0_0 l0_0.length c0_0, .slice (some ad181) l0_1.length c0_1] 25 (0, 0)) (by (with_reducible repeat (first | refine blk_drewN ?_ _ | refine blk_drew ?_ | refine blk_alloc ?_ _)); refine blk_far ?_ NB177_182.out _; (with_reducible repeat (first | refine blk_drewN ?_ _ | refine blk_drew ?_ | refine blk_alloc ?_ _)); refine blk_far ?_ NB177_182.out _; (with_reducible repeat (first | refine blk_drewN ?_ _ | refine blk_drew ?_ | refine blk_alloc ?_ _)); refine blk_far ?_ NB177_182.out _; (with_reducible repeat (first | refine blk_drewN ?_ _ | refine blk_drew ?_ | refine blk_alloc ?_ _)); refine blk_far ?_ NB177_182.out _; (with_reducible repeat (first | refine blk_drewN ?_ _ | refine blk_drew ?_ | refine blk_alloc ?_ _)); refine blk_far ?_ NB177_182.out _; (with_reducible repeat (first | refine blk_drewN ?_ _ | refine blk_drew ?_ | refine blk_alloc ?_ _)); refine blk_far ?_ NB177_182.out _; (with_reducible repeat (first | refine blk_drewN ?_ _ | refine blk_drew ?_ | refine blk_alloc ?_ _)); refine blk_far ?_ NB177_182.out _; (with_reducible repeat (first | refine blk_drewN ?_ _ | refine blk_drew ?_ | refine blk_alloc ?_ _)); exact BK177.out) hb); replace BK182 := Aside0.mk (blk_below (g := gb182) (o := .cells #[.string ((rd_T71 l0_1 x46_2).f0), .int .i64 ((rd_T71 l0_1 x46_2).f1), .int .i64 ((rd_T71 l0_1 x46_2).f2), .int .i64 ((rd_T71 l0_1 x46_2).f3), .int .i64 ((rd_T71 l0_1 x46_2).f4), .int .i64 ((rd_T71 l0_1 x46_2).f5), .int .i64 ((rd_T71 l0_1 x46_2).f6)] 71 (0, 0)) (by (with_reducible repeat (first | refine blk_drewN ?_ _ | refine blk_drew ?_ | refine blk_alloc ?_ _)); refine blk_put (cs := #[.string ((rd_T71 l0_1 x46_2).f0), .int .i64 ((rd_T71 l0_1 x46_2).f1), .int .i64 ((rd_T71 l0_1 x46_2).f2), .int .i64 ((rd_T71 l0_1 x46_2).f3), .int .i64 ((rd_T71 l0_1 x46_2).f4), .int .i64 ((rd_T71 l0_1 x46_2).f5), .int .i64 0]) ?_ 6 _ rfl; (with_reducible repeat (first | refine blk_drewN ?_ _ | refine blk_drew ?_ | refine blk_alloc ?_ _)); refine blk_put (cs := #[.string ((rd_T71 l0_1 x46_2).f0), .int .i64 ((rd_T71 l0_1 x46_2).f1), .int .i64 ((rd_T71 l0_1 x46_2).f2), .int .i64 ((rd_T71 l0_1 x46_2).f3), .int .i64 ((rd_T71 l0_1 x46_2).f4), .int .i64 0, .int .i64 0]) ?_ 5 _ rfl; (with_reducible repeat (first | refine blk_drewN ?_ _ | refine blk_drew ?_ | refine blk_alloc ?_ _)); refine blk_put (cs := #[.string ((rd_T71 l0_1 x46_2).f0), .int .i64 ((rd_T71 l0_1 x46_2).f1), .int .i64 ((rd_T71 l0_1 x46_2).f2), .int .i64 ((rd_T71 l0_1 x46_2).f3), .int .i64 0, .int .i64 0, .int .i64 0]) ?_ 4 _ rfl; (with_reducible repeat (first | refine blk_drewN ?_ _ | refine blk_drew ?_ | refine blk_alloc ?_ _)); refine blk_put (cs := #[.string ((rd_T71 l0_1 x46_2).f0), .int .i64 ((rd_T71 l0_1 x46_2).f1), .int .i64 ((rd_T71 l0_1 x46_2).f2), .int .i64 0, .int .i64 0, .int .i64 0, .int .i64 0]) ?_ 3 _ rfl; (with_reducible repeat (first | refine blk_drewN ?_ _ | refine blk_drew ?_ | refine blk_alloc ?_ _)); refine blk_put (cs := #[.string ((rd_T71 l0_1 x46_2).f0), .int .i64 ((rd_T71 l0_1 x46_2).f1), .int .i64 0, .int .i64 0, .int .i64 0, .int .i64 0, .int .i64 0]) ?_ 2 _ rfl; (with_reducible repeat (first | refine blk_drewN ?_ _ | refine blk_drew ?_ | refine blk_alloc ?_ _)); refine blk_put (cs := #[.string ((rd_T71 l0_1 x46_2).f0), .int .i64 0, .int .i64 0, .int .i64 0, .int .i64 0, .int .i64 0, .int .i64 0]) ?_ 1 _ rfl; (with_reducible repeat (first | refine blk_drewN ?_ _ | refine blk_drew ?_ | refine blk_alloc ?_ _)); refine blk_put (cs := #[.string (⟨#[]⟩ : ByteArray), .int .i64 0, .int .i64 0, .int .i64 0, .int .i64 0, .int .i64 0, .int .i64 0]) ?_ 0 _ rfl; (with_reducible repeat (first | refine blk_drewN ?_ _ | refine blk_drew ?_ | refine blk_alloc ?_ _)); exact BK182.out) hb); replace HB := bstep HB hb; (try clear hb); (try clear hb2); (try clear hk); (try clear hi); obtain ⟨hcz45_0, hcz45_1, hcz45_2, hcz45_3, hcz45_4, hcz45_5, hcz45_6, hfz45_0, hfz45_1, hfz45_2, hfz45_3, hfz45_4, hfz45_5, hfz45_6⟩ := cz7 BK182))
             go_ret2
             exact ⟨erf, bb HB⟩
           ·rw [if_neg c32] at H
            exact absurd H (by simp)
          ·rw [if_neg c31] at H
           exact absurd H (by simp)
         ·rw [if_neg c30] at H
          have c30b0 : decide (x46_2 < (l0_1.length : Int)) = false := decide_eq_false c30
          clear c30
          simp only [Option.some.injEq, Prod.mk.injEq] at H
          obtain ⟨rfl, rfl⟩ := H
          go_wp2
          go_ret2
          exact ⟨erf, bb HB⟩
def types_given.f (k : Nat) (l0_0 : List (S68)) (l0_1 : List (S71)) (l1 : List Int) : Option (Int) := (types_Valid.f k l0_0 l0_1).bind fun bt185 => (if bt185.2 = 0 then ((any_given.f l1 l0_0).bind fun t187 => (if t187 = true then (some 6) else (some 0))) else (some bt185.2))
theorem types_given.mono : ∀ a0 a1 a2 k, LeO (types_given.f k a0 a1 a2) (types_given.f (k + 1) a0 a1 a2) := by
 intro a0 a1 a2 k
 unfold types_given.f
 repeat' first
   | (with_reducible exact types_Valid.mono _ _ _)
   | (with_reducible exact LeO.refl _)
   | (with_reducible exact LeO.none _)
   | (with_reducible refine LeO.ite ?_ ?_)
   | (with_reducible refine LeO.bind ?_ (fun _ => ?_))
   | exact types_Valid.mono _ _ _
   | exact LeO.none _
   | refine LeO.ite ?_ ?_
   | refine LeO.bind ?_ (fun _ => ?_)
set_option maxHeartbeats 8000000 in
set_option maxRecDepth 100000 in
theorem types_given.calls (k : Nat) (A0_0 : Option Addr) (c0_0 : Nat) (l0_0 : List (S68)) (A0_1 : Option Addr) (c0_1 : Nat) (l0_1 : List (S71)) (A1 : Option Addr) (c1 : Nat) (l1 : List Int) (r : Int) (w : World) (hr0_0 : Kd.C k68 w A0_0 l0_0.length l0_0) (hc0_0 : l0_0.length ≤ c0_0) (hr0_1 : Kd.C k71 w A0_1 l0_1.length l0_1) (hc0_1 : l0_1.length ≤ c0_1) (hr1 : Kd.C (Kd.int .i64) w A1 l1.length l1) (hc1 : l1.length ≤ c1) (h : types_given.f k l0_0 l0_1 l1 = some r) :
  Calls Try.prog 43 #[.agg #[.slice A0_0 l0_0.length c0_0, .slice A0_1 l0_1.length c0_1], .slice A1 l1.length c1] w fun e w' => e = .returned (.int .i64 r) ∧ Below w.heap.size w w' := by
 have hu25 := Try.underlying25
 have HR0_0 := Aside0.mk hr0_0
 have HC0_0 := Aside0.mk hc0_0
 clear hr0_0 hc0_0
 have HR0_1 := Aside0.mk hr0_1
 have HC0_1 := Aside0.mk hc0_1
 clear hr0_1 hc0_1
 have HR1 := Aside0.mk hr1
 have HC1 := Aside0.mk hc1
 clear hr1 hc1
 have HB := Aside0.mk (Below.refl w.heap.size w)
 have H : ((types_Valid.f k l0_0 l0_1).bind fun bt185 => (if bt185.2 = 0 then ((any_given.f l1 l0_0).bind fun t187 => (if t187 = true then (some 6) else (some 0))) else (some bt185.2))) = some r := h
 clear h
 replace H := Option.bind_eq_some_iff.mp H
 obtain ⟨⟨t185, t186⟩, A30, H⟩ := H
 replace H : (if t186 = 0 then ((any_given.f l1 l0_0).bind fun t187 => (if t187 = true then (some 6) else (some 0))) else (some t186)) = some r := H
 have A3 := Aside0.mk A30
 clear A30
 by_cases c4 : t186 = 0
 ·rw [if_pos c4] at H
  have c4b0 : (t186 == 0) = true := beq_iff_eq.mpr c4
  have c4b1 : (t186 != 0) = false := bne_eq_false_iff_eq.mpr c4
  clear c4
  replace H := Option.bind_eq_some_iff.mp H
  obtain ⟨t187, A50, H⟩ := H
  replace H : (if t187 = true then (some 6) else (some 0)) = some r := H
  have A5 := Aside0.mk A50
  clear A50
  by_cases c6 : t187 = true
  ·subst c6
   replace H := ift H
   obtain rfl := Option.some.inj H
   go_enter Try.func43, Try.ntmps43
   go_wp2_with (first | ((with_reducible refine gate_dst (N := 2) rfl ?_); refine box_event ?hg (N := 2) ?hd (cs := #[.slice A0_0 l0_0.length c0_0, .slice A0_1 l0_1.length c0_1]) (t := 25) ?hr ?_; (case hd => rfl); (case hg => rfl); (case hr => first | (go_simp; done) | (go_simp; rfl)); intro gb184 hg w7 hbox hb; have BK184 := Aside0.mk (hbox); have GW184 := bsz HB hg; have GE184 := bsz HB hg; replace HB := bstep HB hb; clear hb hbox hg; obtain ⟨hcz8_0, hcz8_1, hfz8_0, hfz8_1⟩ := cz2 BK184) | ((with_reducible refine gate_callee (f := 14) rfl ?_); refine gl 9 Try.func14 #[.agg #[.slice A0_0 l0_0.length c0_0, .slice A0_1 l0_1.length c0_1]] (h := ?_); (with_reducible refine (types_Valid.calls k _ _ l0_0 _ _ l0_1 t185 t186 _ ?side1 ?side2 ?side3 ?side4 A3.out).mono ?_); (case side1 => exact cb HR0_0 HB); (case side2 => exact HC0_0.out); (case side3 => exact cb HR0_1 HB); (case side4 => exact HC0_1.out); rintro e w9 ⟨rfl, hb⟩; refine ⟨_, rfl, ?_⟩; replace BK184 := bkb BK184 hb; replace HB := bstep HB hb; (try clear hb); (try clear hb2); (try clear hk); (try clear hi)) | ((with_reducible refine gate_callee (f := 70) rfl ?_); refine gl 17 Try.func70 #[.slice A1 l1.length c1, .func (.func 71) #[] #[.pointer (some ⟨gb184, 0, none⟩)]] (h := ?_); (with_reducible refine (any_given.calls _ _ l1 gb184 A0_0 c0_0 l0_0 (.slice A0_1 l0_1.length c0_1) true _ ?side1 ?side2 ?side3 A5.out).mono ?_); (case side1 => exact cb HR1 HB); (case side2 => exact HC1.out); (case side3 => exact (bk BK184)); rintro e w10 ⟨rfl, hb⟩; refine ⟨_, rfl, ?_⟩; replace BK184 := bkb BK184 hb; replace HB := bstep HB hb; (try clear hb); (try clear hb2); (try clear hk); (try clear hi)))
   go_ret
   exact ⟨erf, bb HB⟩
  ·replace c6 := Bool.eq_false_iff.mpr c6
   subst c6
   replace H := iff_ H
   obtain rfl := Option.some.inj H
   go_enter Try.func43, Try.ntmps43
   go_wp2_with (first | ((with_reducible refine gate_dst (N := 2) rfl ?_); refine box_event ?hg (N := 2) ?hd (cs := #[.slice A0_0 l0_0.length c0_0, .slice A0_1 l0_1.length c0_1]) (t := 25) ?hr ?_; (case hd => rfl); (case hg => rfl); (case hr => first | (go_simp; done) | (go_simp; rfl)); intro gb184 hg w11 hbox hb; have BK184 := Aside0.mk (hbox); have GW184 := bsz HB hg; have GE184 := bsz HB hg; replace HB := bstep HB hb; clear hb hbox hg; obtain ⟨hcz12_0, hcz12_1, hfz12_0, hfz12_1⟩ := cz2 BK184) | ((with_reducible refine gate_callee (f := 14) rfl ?_); refine gl 9 Try.func14 #[.agg #[.slice A0_0 l0_0.length c0_0, .slice A0_1 l0_1.length c0_1]] (h := ?_); (with_reducible refine (types_Valid.calls k _ _ l0_0 _ _ l0_1 t185 t186 _ ?side1 ?side2 ?side3 ?side4 A3.out).mono ?_); (case side1 => exact cb HR0_0 HB); (case side2 => exact HC0_0.out); (case side3 => exact cb HR0_1 HB); (case side4 => exact HC0_1.out); rintro e w13 ⟨rfl, hb⟩; refine ⟨_, rfl, ?_⟩; replace BK184 := bkb BK184 hb; replace HB := bstep HB hb; (try clear hb); (try clear hb2); (try clear hk); (try clear hi)) | ((with_reducible refine gate_callee (f := 70) rfl ?_); refine gl 17 Try.func70 #[.slice A1 l1.length c1, .func (.func 71) #[] #[.pointer (some ⟨gb184, 0, none⟩)]] (h := ?_); (with_reducible refine (any_given.calls _ _ l1 gb184 A0_0 c0_0 l0_0 (.slice A0_1 l0_1.length c0_1) false _ ?side1 ?side2 ?side3 A5.out).mono ?_); (case side1 => exact cb HR1 HB); (case side2 => exact HC1.out); (case side3 => exact (bk BK184)); rintro e w14 ⟨rfl, hb⟩; refine ⟨_, rfl, ?_⟩; replace BK184 := bkb BK184 hb; replace HB := bstep HB hb; (try clear hb); (try clear hb2); (try clear hk); (try clear hi)))
   go_ret
   exact ⟨erf, bb HB⟩
 ·rw [if_neg c4] at H
  have c4b0 : (t186 == 0) = false := beq_eq_false_iff_ne.mpr c4
  have c4b1 : (t186 != 0) = true := bne_iff_ne.mpr c4
  obtain rfl := Option.some.inj H
  go_enter Try.func43, Try.ntmps43
  go_wp2_with (first | ((with_reducible refine gate_dst (N := 2) rfl ?_); refine box_event ?hg (N := 2) ?hd (cs := #[.slice A0_0 l0_0.length c0_0, .slice A0_1 l0_1.length c0_1]) (t := 25) ?hr ?_; (case hd => rfl); (case hg => rfl); (case hr => first | (go_simp; done) | (go_simp; rfl)); intro gb184 hg w15 hbox hb; have BK184 := Aside0.mk (hbox); have GW184 := bsz HB hg; have GE184 := bsz HB hg; replace HB := bstep HB hb; clear hb hbox hg; obtain ⟨hcz16_0, hcz16_1, hfz16_0, hfz16_1⟩ := cz2 BK184) | ((with_reducible refine gate_callee (f := 14) rfl ?_); refine gl 9 Try.func14 #[.agg #[.slice A0_0 l0_0.length c0_0, .slice A0_1 l0_1.length c0_1]] (h := ?_); (with_reducible refine (types_Valid.calls k _ _ l0_0 _ _ l0_1 t185 t186 _ ?side1 ?side2 ?side3 ?side4 A3.out).mono ?_); (case side1 => exact cb HR0_0 HB); (case side2 => exact HC0_0.out); (case side3 => exact cb HR0_1 HB); (case side4 => exact HC0_1.out); rintro e w17 ⟨rfl, hb⟩; refine ⟨_, rfl, ?_⟩; replace BK184 := bkb BK184 hb; replace HB := bstep HB hb; (try clear hb); (try clear hb2); (try clear hk); (try clear hi)))
  go_ret
  exact ⟨erf, bb HB⟩
end Go.Proofs.Ytfpianecohobjaa.P
