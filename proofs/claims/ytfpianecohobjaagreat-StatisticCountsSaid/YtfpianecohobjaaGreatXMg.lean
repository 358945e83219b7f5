/- StatisticOf: a part of its proof. No condition. -/
import Derived.Test.YtfpianecohobjaaGreatXPx0
import Derived.Test.YtfpianecohobjaaGreatXMc
import Derived.Test.YtfpianecohobjaaGreatXH0
namespace Go.Proofs.YtfpianecohobjaaGreat.P
open Go.RowKit Go.Proofs.YtfpianecohobjaaGreatW.PrintWords Go.Proofs.YtfpianecohobjaaGreatW.PrintLast Go.Proofs.YtfpianecohobjaaGreatW.PrintMore
set_option maxHeartbeats 8000000
set_option maxRecDepth 100000
set_option linter.unusedVariables false
set_option linter.unusedSimpArgs false
mutual
def types_node.j0 : Nat → Int → Bool → List (S96) → List (S101) → ByteArray → Int → Bool → List (S99) → Option (Int)
 | 0, _, _, _, _, _, _, _, _ => none
 | k + 1, x1, G6, p3, p2, w7, w6, w5, h8 => if G6 = true then (some 6) else (if (h8.length : Int) > 4 then (some 3) else ((types_attrs.f k p3 p2 x1).bind fun a6 => (if (a6.length : Int) > 8 then (some 3) else (types_node.l0 k a6 (wrap64 ((a6.length : Int) - (h8.length : Int)))))))
def types_node.l0 : Nat → List (S99) → Int → Option (Int)
 | 0, _, _ => none
 | k + 1, x6, x7 => if x7 < (x6.length : Int) then (if 0 ≤ x7 then (if x7 ≤ (x6.length : Int) then ((types_attribute.f k ((rd_T99 x6 x7).f0) ((rd_T99 x6 x7).f1) ((rd_T99 x6 x7).f2) ((rd_T99 x6 x7).f3) (x6.take (x7 : Int).toNat)).bind fun e6 => (if e6 = 0 then (types_node.l0 k x6 (wrap64 (x7 + 1))) else (some e6))) else (none)) else (none)) else (some 0)
end
def types_node.f (k : Nat) (a3 : List (S96)) (a9 : List (S101)) (a1 : Int) : Option (Int) := if 0 ≤ a1 then (if a1 < (a3.length : Int) then ((token_IsName.f k ((rd_T96 a3 a1).f0)).bind fun h4 => (if h4 = true then (if a1 ≤ (a3.length : Int) then ((any_node.f (a3.take (a1 : Int).toNat) ((rd_T96 a3 a1).f0)).bind fun g2 => (if g2 = true then (some 5) else (if ((rd_T96 a3 a1).f1) < (-1) then (types_node.j0 k a1 true a3 a9 ((rd_T96 a3 a1).f0) ((rd_T96 a3 a1).f1) ((rd_T96 a3 a1).f2) ((rd_T96 a3 a1).f3)) else (types_node.j0 k a1 (decide (((rd_T96 a3 a1).f1) ≥ a1)) a3 a9 ((rd_T96 a3 a1).f0) ((rd_T96 a3 a1).f1) ((rd_T96 a3 a1).f2) ((rd_T96 a3 a1).f3))))) else (none)) else (some 2))) else (none)) else (none)
theorem types_node.mono_l : ∀ k, (∀ y0 y1 y2 y3 y4 y5 y6 y7, LeO (types_node.j0 k y0 y1 y2 y3 y4 y5 y6 y7) (types_node.j0 (k + 1) y0 y1 y2 y3 y4 y5 y6 y7)) ∧ (∀ y0 y1, LeO (types_node.l0 k y0 y1) (types_node.l0 (k + 1) y0 y1))
 | 0 => ⟨fun _ _ _ _ _ _ _ _ r h => by simp [types_node.j0] at h, fun _ _ r h => by simp [types_node.l0] at h⟩
 | k + 1 => by
  obtain ⟨ih0, ih1⟩ := types_node.mono_l k
  refine ⟨?_, ?_⟩
  ·intro y0 y1 y2 y3 y4 y5 y6 y7
   unfold types_node.j0
   repeat' first
   | (with_reducible exact ih0 _ _ _ _ _ _ _ _)
   | (with_reducible exact ih1 _ _)
   | (with_reducible exact token_IsName.mono _ _)
   | (with_reducible exact types_attribute.mono _ _ _ _ _ _)
   | (with_reducible exact types_attrs.mono _ _ _ _)
   | (with_reducible exact LeO.refl _)
   | (with_reducible exact LeO.none _)
   | (with_reducible refine LeO.ite ?_ ?_)
   | (with_reducible refine LeO.bind ?_ (fun _ => ?_))
  ·intro y0 y1
   unfold types_node.l0
   repeat' first
   | (with_reducible exact ih0 _ _ _ _ _ _ _ _)
   | (with_reducible exact ih1 _ _)
   | (with_reducible exact token_IsName.mono _ _)
   | (with_reducible exact types_attribute.mono _ _ _ _ _ _)
   | (with_reducible exact types_attrs.mono _ _ _ _)
   | (with_reducible exact LeO.refl _)
   | (with_reducible exact LeO.none _)
   | (with_reducible refine LeO.ite ?_ ?_)
   | (with_reducible refine LeO.bind ?_ (fun _ => ?_))
theorem types_node.mono : ∀ a0 a1 a2 k, LeO (types_node.f k a0 a1 a2) (types_node.f (k + 1) a0 a1 a2) := by
 intro a0 a1 a2 k
 obtain ⟨ih0, ih1⟩ := types_node.mono_l k
 unfold types_node.f
 repeat' first
   | (with_reducible exact ih0 _ _ _ _ _ _ _ _)
   | (with_reducible exact ih1 _ _)
   | (with_reducible exact token_IsName.mono _ _)
   | (with_reducible exact types_attribute.mono _ _ _ _ _ _)
   | (with_reducible exact types_attrs.mono _ _ _ _)
   | (with_reducible exact LeO.refl _)
   | (with_reducible exact LeO.none _)
   | (with_reducible refine LeO.ite ?_ ?_)
   | (with_reducible refine LeO.bind ?_ (fun _ => ?_))
def types_node.T16 : Bool × List (List Nat × List Nat) := (true, [([], []), ([], []), ([0, 1], [0, 1]), ([2], [2]), ([], []), ([], []), ([4, 5], [4, 5]), ([3, 6], [3, 6]), ([7, 7, 0, 1, 2, 3, 4, 5, 6, 7], [7])])
def types_node.B16 : List Nat := [0, 0, 3, 7, 0, 0, 48, 127, 255]
theorem types_node.tab16 : rtab .any (opsOf Tryz.f83 16) = types_node.T16 := by kernel_rfl
theorem types_node.bits16 : waitsOk types_node.T16.2 types_node.B16 = true := by kernel_rfl
theorem types_node.calls (k : Nat) (h7 : Option Addr) (b2 : Nat) (a3 : List (S96)) (d4 : Option Addr) (d2 : Nat) (a9 : List (S101)) (a1 : Int) (r : Int) (w : World) (n7 : Kd.C k96 w h7 a3.length a3) (o3 : a3.length ≤ b2) (n6 : Kd.C k101 w d4 a9.length a9) (o2 : a9.length ≤ d2) (h : types_node.f k a3 a9 a1 = some r) :
  Calls Tryz.prog 83 #[.agg #[.slice h7 a3.length b2, .slice d4 a9.length d2], .int .i64 a1] w fun e w' => e = .returned (.int .i64 r) ∧ Below w.heap.size w w' := by
 have hu31 := Tryz.underlying31
 have hu96 := Tryz.underlying96
 have hu99 := Tryz.underlying99
 have e9 := am n7
 have h1 := am o3
 clear n7 o3
 have p0 := am n6
 have p1 := am o2
 clear n6 o2
 have HB := am (Below.refl w.heap.size w)
 have H : (if 0 ≤ a1 then (if a1 < (a3.length : Int) then ((token_IsName.f k ((rd_T96 a3 a1).f0)).bind fun h4 => (if h4 = true then (if a1 ≤ (a3.length : Int) then ((any_node.f (a3.take (a1 : Int).toNat) ((rd_T96 a3 a1).f0)).bind fun g2 => (if g2 = true then (some 5) else (if ((rd_T96 a3 a1).f1) < (-1) then (types_node.j0 k a1 true a3 a9 ((rd_T96 a3 a1).f0) ((rd_T96 a3 a1).f1) ((rd_T96 a3 a1).f2) ((rd_T96 a3 a1).f3)) else (types_node.j0 k a1 (decide (((rd_T96 a3 a1).f1) ≥ a1)) a3 a9 ((rd_T96 a3 a1).f0) ((rd_T96 a3 a1).f1) ((rd_T96 a3 a1).f2) ((rd_T96 a3 a1).f3))))) else (none)) else (some 2))) else (none)) else (none)) = some r := h
 clear h
 obtain ⟨c3, H⟩ := itn H
 have w3 := decide_eq_true c3
 clear c3
 obtain ⟨c4, H⟩ := itn H
 have w2 := decide_eq_true c4
 clear c4
 obtain ⟨h4, A5, H⟩ := obA H
 by_cases c6 : h4 = true
 rotate_left
 ·replace c6 := Bool.eq_false_iff.mpr c6
  subst c6
  replace H := iff_ H
  obtain rfl := Option.some.inj H
  go_enter Tryz.func83, Tryz.ntmps83
  go_wp2_with (first | ((with_reducible refine gate_dst (N := 2) rfl ?_); refine be 2 #[.slice h7 a3.length b2, .slice d4 a9.length d2] 31 ?_; intro c2 hg J2 hbox hb; have a5 := am (hbox); have h3 := bsz HB hg; replace HB := bstep HB hb; clear hb hbox hg; obtain ⟨D9, D8, x5, x4⟩ := cz2 a5; have d8 : 0 ≤ a1 := odt; have d7 : a1 < (a3.length : Int) := odt; obtain ⟨b3, b6, b5, h5, c0, b9, b8, b7, c5, c7⟩ := at_T96 e9.out a1 d8 d7; cases h5; replace c0 := hxc HB c0; replace b9 := hxc HB b9; replace b8 := hxc HB b8; replace b7 := hxc HB b7; have j4 := am c7; have j5 := am c5; clear c7 c5; replace d8 := eq_true d8; replace d7 := eq_true d7) | ((with_reducible refine gate_dst (N := 5) rfl ?_); refine be 5 #[.string (⟨#[]⟩ : ByteArray), .int .i64 0, .bool false, .slice none 0 0] 96 ?_; intro b4 hg J1 hbox hb; have a7 := am (hbox); have h2 := bsz HB hg; replace HB := bstep HB hb; have b1 := blt a5 hg; have b0 := bgt a5 hg; replace a5 := bkb a5 hb; clear hb hbox hg; have H6 := b0.out; have G8 := b1.out; obtain ⟨D7, D6, D5, D4, x2, x0, w9, w8⟩ := cz4 a7) | ((with_reducible refine gate_callee (f := 100) rfl ?_); refine gl 17 Tryz.func100 #[.string ((rd_T96 a3 a1).f0)] (h := ?_); (with_reducible refine (token_IsName.calls k ((rd_T96 a3 a1).f0) false _ A5.out).mono ?_); rintro e J0 ⟨rfl, hb⟩; refine ⟨_, rfl, ?_⟩; replace a5 := am (blk_below (g := c2) (o := .cells #[.slice (some b3) a3.length b2, .slice d4 a9.length d2] 31 (0, 0)) (bkF a5) hb); replace a7 := am (blk_below (g := b4) (o := .cells #[.string ((rd_T96 a3 a1).f0), .int .i64 ((rd_T96 a3 a1).f1), .bool ((rd_T96 a3 a1).f2), .slice b6 ((rd_T96 a3 a1).f3).length b5] 96 (0, 0)) (by (with_reducible repeat (first | refine dN ?_ _ | refine dR ?_ | refine dA ?_ _)); refine blk_put (cs := #[.string ((rd_T96 a3 a1).f0), .int .i64 ((rd_T96 a3 a1).f1), .bool ((rd_T96 a3 a1).f2), .slice none 0 0]) ?_ 3 _ rfl; refine blk_put (cs := #[.string ((rd_T96 a3 a1).f0), .int .i64 ((rd_T96 a3 a1).f1), .bool false, .slice none 0 0]) ?_ 2 _ rfl; refine blk_put (cs := #[.string ((rd_T96 a3 a1).f0), .int .i64 0, .bool false, .slice none 0 0]) ?_ 1 _ rfl; refine blk_put (cs := #[.string (⟨#[]⟩ : ByteArray), .int .i64 0, .bool false, .slice none 0 0]) ?_ 0 _ rfl; (with_reducible repeat (first | refine dN ?_ _ | refine dR ?_ | refine dA ?_ _)); exact a7.out) hb); replace HB := bstep HB hb; (try clear hb); (try clear hb2); (try clear hk); (try clear hi)))
  go_ret
  exact ⟨erf, bb HB⟩
 subst c6
 replace H := ift H
 have w1 := eq_true (odt : 0 ≤ a1)
 obtain ⟨c8, H⟩ := itn H
 have w0 := eq_true c8
 have v9 := decide_eq_true c8
 clear c8
 obtain ⟨e5, g9⟩ := leq (α := List (S96)) (a3.take (a1 : Int).toNat)
 rw [← g9.out] at H
 obtain ⟨g2, A9, H⟩ := obA H
 by_cases o9 : g2 = true
 ·subst o9
  replace H := ift H
  obtain rfl := Option.some.inj H
  go_enter Tryz.func83, Tryz.ntmps83
  go_wp2_with (first | ((with_reducible refine gate_dst (N := 2) rfl ?_); refine be 2 #[.slice h7 a3.length b2, .slice d4 a9.length d2] 31 ?_; intro c2 hg L6 hbox hb; have a5 := am (hbox); have h3 := bsz HB hg; replace HB := bstep HB hb; clear hb hbox hg; obtain ⟨G5, G4, D3, D2⟩ := cz2 a5; have d8 : 0 ≤ a1 := odt; have d7 : a1 < (a3.length : Int) := odt; obtain ⟨b3, b6, b5, h5, c0, b9, b8, b7, c5, c7⟩ := at_T96 e9.out a1 d8 d7; cases h5; replace c0 := hxc HB c0; replace b9 := hxc HB b9; replace b8 := hxc HB b8; replace b7 := hxc HB b7; have j4 := am c7; have j5 := am c5; clear c7 c5; replace d8 := eq_true d8; replace d7 := eq_true d7) | ((with_reducible refine gate_dst (N := 5) rfl ?_); refine be 5 #[.string (⟨#[]⟩ : ByteArray), .int .i64 0, .bool false, .slice none 0 0] 96 ?_; intro b4 hg L5 hbox hb; have a7 := am (hbox); have h2 := bsz HB hg; replace HB := bstep HB hb; have b1 := blt a5 hg; have b0 := bgt a5 hg; replace a5 := bkb a5 hb; clear hb hbox hg; have I3 := b0.out; have H5 := b1.out; obtain ⟨G3, G2, G1, G0, D1, D0, C9, C8⟩ := cz4 a7) | ((with_reducible refine gate_callee (f := 100) rfl ?_); refine gl 17 Tryz.func100 #[.string ((rd_T96 a3 a1).f0)] (h := ?_); (with_reducible refine (token_IsName.calls k ((rd_T96 a3 a1).f0) true _ A5.out).mono ?_); rintro e L4 ⟨rfl, hb⟩; refine ⟨_, rfl, ?_⟩; replace a5 := am (blk_below (g := c2) (o := .cells #[.slice (some b3) a3.length b2, .slice d4 a9.length d2] 31 (0, 0)) (bkF a5) hb); replace a7 := am (blk_below (g := b4) (o := .cells #[.string ((rd_T96 a3 a1).f0), .int .i64 ((rd_T96 a3 a1).f1), .bool ((rd_T96 a3 a1).f2), .slice b6 ((rd_T96 a3 a1).f3).length b5] 96 (0, 0)) (by (with_reducible repeat (first | refine dN ?_ _ | refine dR ?_ | refine dA ?_ _)); refine blk_put (cs := #[.string ((rd_T96 a3 a1).f0), .int .i64 ((rd_T96 a3 a1).f1), .bool ((rd_T96 a3 a1).f2), .slice none 0 0]) ?_ 3 _ rfl; refine blk_put (cs := #[.string ((rd_T96 a3 a1).f0), .int .i64 ((rd_T96 a3 a1).f1), .bool false, .slice none 0 0]) ?_ 2 _ rfl; refine blk_put (cs := #[.string ((rd_T96 a3 a1).f0), .int .i64 0, .bool false, .slice none 0 0]) ?_ 1 _ rfl; refine blk_put (cs := #[.string (⟨#[]⟩ : ByteArray), .int .i64 0, .bool false, .slice none 0 0]) ?_ 0 _ rfl; (with_reducible repeat (first | refine dN ?_ _ | refine dR ?_ | refine dA ?_ _)); exact a7.out) hb); replace HB := bstep HB hb; (try clear hb); (try clear hb2); (try clear hk); (try clear hi); obtain ⟨F9, F8, C7, C6⟩ := cz2 a5; have t6 : (a1 : Int) ≤ ((a3.length : Int) : Int) := odt; obtain ⟨i018, o1, _, hsz18, _⟩ := info_parts info96; have hroom18 : a3.length ≤ b2 := h1.out; have hC18 : Kd.C k96 _ (some b3) a3.length a3 := e9.out; have hcut18 := cut_to (P := Tryz.prog) 28 96 .i64 Tryz.underlying28 o1 (some b3) a3.length b2 a1 (odt) t6 hroom18; have m8 := Kd.C_take (m := (a1 : Int).toNat) hC18 (by omega); have m4 : e5.length = (a1 : Int).toNat := (by rw [g9.out, List.length_take]; omega); rw [← g9.out] at m8; rw [← m4] at hcut18; have j8 := am m8; have j9 := am (show e5.length ≤ b2 from by omega); clear m8 hC18 hroom18 o1 hsz18; have KY18 := am m4; clear m4; replace t6 := eq_true t6) | ((with_reducible refine gate_callee (f := 101) rfl ?_); refine gl 25 Tryz.func101 #[.slice (some b3) e5.length b2, .func (.func 102) #[] #[.pointer (some ⟨b4, 0, none⟩)]] (h := ?_); (with_reducible refine (any_node.calls _ _ e5 b4 ((rd_T96 a3 a1).f0) (.int .i64 ((rd_T96 a3 a1).f1)) (.bool ((rd_T96 a3 a1).f2)) (.slice b6 ((rd_T96 a3 a1).f3).length b5) true _ ?d1 ?d0 ?c9 A9.out).mono ?_); (case d1 => exact cb j8 HB); (case d0 => exact j9.out); (case c9 => exact (bk a7)); rintro e L3 ⟨rfl, hb⟩; refine ⟨_, rfl, ?_⟩; replace a5 := bkb a5 hb; replace a7 := bkb a7 hb; replace HB := bstep HB hb; (try clear hb); (try clear hb2); (try clear hk); (try clear hi)))
  go_ret
  exact ⟨erf, bb HB⟩
 replace o9 := Bool.eq_false_iff.mpr o9
 subst o9
 replace H := iff_ H
 have n4 := am H
 clear H
 go_enter Tryz.func83, Tryz.ntmps83
 go_upto_region 6 with (first | ((with_reducible refine gate_dst (N := 2) rfl ?_); refine be 2 #[.slice h7 a3.length b2, .slice d4 a9.length d2] 31 ?_; intro c2 hg L2 hbox hb; have a5 := am (hbox); have h3 := bsz HB hg; replace HB := bstep HB hb; clear hb hbox hg; obtain ⟨t3, t2, r1, r0⟩ := cz2 a5; have d8 : 0 ≤ a1 := odt; have d7 : a1 < (a3.length : Int) := odt; obtain ⟨b3, b6, b5, h5, c0, b9, b8, b7, c5, c7⟩ := at_T96 e9.out a1 d8 d7; cases h5; replace c0 := hxc HB c0; replace b9 := hxc HB b9; replace b8 := hxc HB b8; replace b7 := hxc HB b7; have j4 := am c7; have j5 := am c5; clear c7 c5; replace d8 := eq_true d8; replace d7 := eq_true d7) | ((with_reducible refine gate_dst (N := 5) rfl ?_); refine be 5 #[.string (⟨#[]⟩ : ByteArray), .int .i64 0, .bool false, .slice none 0 0] 96 ?_; intro b4 hg L1 hbox hb; have a7 := am (hbox); have h2 := bsz HB hg; replace HB := bstep HB hb; have b1 := blt a5 hg; have b0 := bgt a5 hg; replace a5 := bkb a5 hb; clear hb hbox hg; have I2 := b0.out; have H4 := b1.out; obtain ⟨t1, t0, s9, s8, q9, q8, q7, q6⟩ := cz4 a7) | ((with_reducible refine gate_callee (f := 100) rfl ?_); refine gl 17 Tryz.func100 #[.string ((rd_T96 a3 a1).f0)] (h := ?_); (with_reducible refine (token_IsName.calls k ((rd_T96 a3 a1).f0) true _ A5.out).mono ?_); rintro e L0 ⟨rfl, hb⟩; refine ⟨_, rfl, ?_⟩; replace a5 := am (blk_below (g := c2) (o := .cells #[.slice (some b3) a3.length b2, .slice d4 a9.length d2] 31 (0, 0)) (bkF a5) hb); replace a7 := am (blk_below (g := b4) (o := .cells #[.string ((rd_T96 a3 a1).f0), .int .i64 ((rd_T96 a3 a1).f1), .bool ((rd_T96 a3 a1).f2), .slice b6 ((rd_T96 a3 a1).f3).length b5] 96 (0, 0)) (by (with_reducible repeat (first | refine dN ?_ _ | refine dR ?_ | refine dA ?_ _)); refine blk_put (cs := #[.string ((rd_T96 a3 a1).f0), .int .i64 ((rd_T96 a3 a1).f1), .bool ((rd_T96 a3 a1).f2), .slice none 0 0]) ?_ 3 _ rfl; refine blk_put (cs := #[.string ((rd_T96 a3 a1).f0), .int .i64 ((rd_T96 a3 a1).f1), .bool false, .slice none 0 0]) ?_ 2 _ rfl; refine blk_put (cs := #[.string ((rd_T96 a3 a1).f0), .int .i64 0, .bool false, .slice none 0 0]) ?_ 1 _ rfl; refine blk_put (cs := #[.string (⟨#[]⟩ : ByteArray), .int .i64 0, .bool false, .slice none 0 0]) ?_ 0 _ rfl; (with_reducible repeat (first | refine dN ?_ _ | refine dR ?_ | refine dA ?_ _)); exact a7.out) hb); replace HB := bstep HB hb; (try clear hb); (try clear hb2); (try clear hk); (try clear hi); obtain ⟨s7, s6, q5, q4⟩ := cz2 a5; have n5 : (a1 : Int) ≤ ((a3.length : Int) : Int) := odt; obtain ⟨i028, o0, _, hsz28, _⟩ := info_parts info96; have hroom28 : a3.length ≤ b2 := h1.out; have hC28 : Kd.C k96 _ (some b3) a3.length a3 := e9.out; have hcut28 := cut_to (P := Tryz.prog) 28 96 .i64 Tryz.underlying28 o0 (some b3) a3.length b2 a1 (odt) n5 hroom28; have m7 := Kd.C_take (m := (a1 : Int).toNat) hC28 (by omega); have m3 : e5.length = (a1 : Int).toNat := (by rw [g9.out, List.length_take]; omega); rw [← g9.out] at m7; rw [← m3] at hcut28; have j8 := am m7; have j9 := am (show e5.length ≤ b2 from by omega); clear m7 hC28 hroom28 o0 hsz28; have KY28 := am m3; clear m3; replace n5 := eq_true n5) | ((with_reducible refine gate_callee (f := 101) rfl ?_); refine gl 25 Tryz.func101 #[.slice (some b3) e5.length b2, .func (.func 102) #[] #[.pointer (some ⟨b4, 0, none⟩)]] (h := ?_); (with_reducible refine (any_node.calls _ _ e5 b4 ((rd_T96 a3 a1).f0) (.int .i64 ((rd_T96 a3 a1).f1)) (.bool ((rd_T96 a3 a1).f2)) (.slice b6 ((rd_T96 a3 a1).f3).length b5) false _ ?d1 ?d0 ?c9 A9.out).mono ?_); (case d1 => exact cb j8 HB); (case d0 => exact j9.out); (case c9 => exact (bk a7)); rintro e J9 ⟨rfl, hb⟩; refine ⟨_, rfl, ?_⟩; replace a5 := bkb a5 hb; replace a7 := bkb a7 hb; replace HB := bstep HB hb; (try clear hb); (try clear hb2); (try clear hk); (try clear hi)))
 (try simp only [Act.put, List.setIfInBounds_toArray, List.set_cons_zero, List.set_cons_succ])
 go_cut [26] (fun G7 wc => ∃ (kq : Nat) (g3 : Bool), G7 = .bool g3 ∧ Aside0 (types_node.j0 kq a1 g3 a3 a9 ((rd_T96 a3 a1).f0) ((rd_T96 a3 a1).f1) ((rd_T96 a3 a1).f2) ((rd_T96 a3 a1).f3) = some r) ∧ Aside0 (kq ≤ k) ∧ Aside0 (wc.heap[c2]? = some (.cells #[(.slice (some b3) a3.length b2), (.slice d4 a9.length d2)] 31 (0, 0))) ∧ Aside0 (wc.heap[b4]? = some (.cells #[.string ((rd_T96 a3 a1).f0), .int .i64 ((rd_T96 a3 a1).f1), .bool ((rd_T96 a3 a1).f2), (.slice b6 ((rd_T96 a3 a1).f3).length b5)] 96 (0, 0))) ∧ Aside0 (Below w.heap.size w wc))
 case first =>
  have H := n4.out
  clear n4
  by_cases j3 : ((rd_T96 a3 a1).f1) < (-1)
  rotate_left
  ·rw [if_neg j3] at H
   have g6 := decide_eq_false j3
   clear j3
   (first | rw [g6] | (simp only [i64_w, i32_w]; rw [g6]) | skip)
   have H' := am H
   clear H
   have I0 := b0.out
   have H2 := b1.out
   obtain ⟨F3, F2, F1, F0, C1, C0, A8, A7⟩ := cz4 a7
   go_wp2
   go_meet
   case rel => exact ⟨_, (decide (((rd_T96 a3 a1).f1) ≥ a1)), eqs, H', ⟨by first | omega | exact Nat.le_refl _⟩, ⟨bk a5⟩, ⟨bk a7⟩, ⟨bb HB⟩⟩
  rw [if_pos j3] at H
  have g6 := decide_eq_true j3
  clear j3
  (first | rw [g6] | (simp only [i64_w, i32_w]; rw [g6]) | skip)
  have H' := am H
  clear H
  have I1 := b0.out
  have H3 := b1.out
  obtain ⟨F7, F6, F5, F4, C5, C4, C3, C2⟩ := cz4 a7
  go_wp2
  go_meet
  case rel => exact ⟨_, (true), eqs, H', ⟨by first | omega | exact Nat.le_refl _⟩, ⟨bk a5⟩, ⟨bk a7⟩, ⟨bb HB⟩⟩
 case rest =>
  clear n4
  clear w3
  clear w2
  clear w1
  clear w0
  clear v9
  clear n5
  clear t3
  clear t2
  clear t1
  clear t0
  clear s9
  clear s8
  clear s7
  clear s6
  clear r1
  clear r0
  clear q9
  clear q8
  clear q7
  clear q6
  clear q5
  clear q4
  clear c0
  clear b9
  clear b8
  clear b7
  clear d8
  clear d7
  obtain ⟨kq, g3, rfl, HA, t8, a5, a7, HB⟩ := hcut
  cases kq with
  | zero => exact absurd HA.out (by simp [types_node.j0])
  | succ j7 =>
   have H := HA.out
   clear HA
   simp only [types_node.j0] at H
   by_cases o8 : g3 = true
   ·subst o8
    replace H := ift H
    obtain rfl := Option.some.inj H
    go_wp2
    go_ret
    exact ⟨erf, bb HB⟩
   replace o8 := Bool.eq_false_iff.mpr o8
   subst o8
   replace H := iff_ H
   by_cases j2 : (((rd_T96 a3 a1).f3).length : Int) > 4
   ·rw [if_pos j2] at H
    have o7 : decide (4 < (((rd_T96 a3 a1).f3).length : Int)) = true := decide_eq_true j2
    have o6 : decide (4 < ((rd_T96 a3 a1).f3).length) = true := decide_eq_true (by omega)
    clear j2
    obtain rfl := Option.some.inj H
    have H9 := b0.out
    have H1 := b1.out
    obtain ⟨E9, E8, E7, E6, A6, A4, A3, A2⟩ := cz4 a7
    go_wp2
    go_ret
    exact ⟨erf, bb HB⟩
   rw [if_neg j2] at H
   have o7 : decide (4 < (((rd_T96 a3 a1).f3).length : Int)) = false := decide_eq_false j2
   have o6 : decide (4 < ((rd_T96 a3 a1).f3).length) = false := decide_eq_false (by omega)
   clear j2
   obtain ⟨a6, v6, H⟩ := obA H
   by_cases j1 : (a6.length : Int) > 8
   ·rw [if_pos j1] at H
    have o5 : decide (8 < (a6.length : Int)) = true := decide_eq_true j1
    have o4 : decide (8 < a6.length) = true := decide_eq_true (by omega)
    clear j1
    obtain rfl := Option.some.inj H
    have H8 := b0.out
    have H0 := b1.out
    obtain ⟨E5, E4, E3, E2, A1, A0, y9, y8⟩ := cz4 a7
    obtain ⟨E1, E0, x9, x8⟩ := cz2 a5
    go_wp2_with ((with_reducible refine gate_callee (f := 103) rfl ?_); refine gl 43 Tryz.func103 #[.agg #[.slice (some b3) a3.length b2, .slice d4 a9.length d2], .int .i64 a1] (h := ?_); (with_reducible refine (types_attrs.calls j7 (fun k_ => k_ < w.heap.size) _ _ a3 _ _ a9 a1 a6 _ ?d1 ?d0 ?c9 v6.out).mono ?_); (case d1 => exact Kd.V_mk h1.out (Kd.F_below (Kd.C_F k96_heap e9.out) (bb HB))); (case d0 => exact cb p0 HB); (case c9 => exact p1.out); rintro e J8 ⟨v8, rfl, m0, hb⟩; refine ⟨_, rfl, ?_⟩; have h0 := am (Kd.N_lower (Kd.N_mono (ok' := fun k_ => k_ ≠ c2 ∧ k_ ≠ b4) m0 (fun k_ hk_ => ⟨Or.elim hk_ (fun hs_ => fun e_ => Nat.not_le.2 hs_ (by rw [e_]; exact h3.out)) (fun hn_ => (Kd.freshB (g := c2) (o := .cells #[.slice (some b3) a3.length b2, .slice d4 a9.length d2] 31 (0, 0)) (bk a5) k_ hn_)), Or.elim hk_ (fun hs_ => fun e_ => Nat.not_le.2 hs_ (by rw [e_]; exact h2.out)) (fun hn_ => (Kd.freshB (g := b4) (o := .cells #[.string ((rd_T96 a3 a1).f0), .int .i64 ((rd_T96 a3 a1).f1), .bool ((rd_T96 a3 a1).f2), .slice b6 ((rd_T96 a3 a1).f3).length b5] 96 (0, 0)) (bk a7) k_ hn_))⟩)) (below_size (bb HB))); replace a5 := bkb a5 hb; replace a7 := bkb a7 hb; replace HB := bstep HB hb; (try clear hb); (try clear hb2); (try clear hk); (try clear hi); (try clear m0); obtain ⟨I9, I8, eo45⟩ := Kd.N_slice h0.out; subst eo45)
    go_ret
    exact ⟨erf, bb HB⟩
   rw [if_neg j1] at H
   have o5 : decide (8 < (a6.length : Int)) = false := decide_eq_false j1
   have o4 : decide (8 < a6.length) = false := decide_eq_false (by omega)
   clear j1
   have H' := am H
   clear H
   have H7 := b0.out
   have G9 := b1.out
   obtain ⟨s5, s4, r9, r8, q3, q2, q1, q0⟩ := cz4 a7
   obtain ⟨r7, r6, p9, p8⟩ := cz2 a5
   go_wp2_with ((with_reducible refine gate_callee (f := 103) rfl ?_); refine gl 43 Tryz.func103 #[.agg #[.slice (some b3) a3.length b2, .slice d4 a9.length d2], .int .i64 a1] (h := ?_); (with_reducible refine (types_attrs.calls j7 (fun k_ => k_ < w.heap.size) _ _ a3 _ _ a9 a1 a6 _ ?d1 ?d0 ?c9 v6.out).mono ?_); (case d1 => exact Kd.V_mk h1.out (Kd.F_below (Kd.C_F k96_heap e9.out) (bb HB))); (case d0 => exact cb p0 HB); (case c9 => exact p1.out); rintro e J7 ⟨v8, rfl, m0, hb⟩; refine ⟨_, rfl, ?_⟩; have h0 := am (Kd.N_lower (Kd.N_mono (ok' := fun k_ => k_ ≠ c2 ∧ k_ ≠ b4) m0 (fun k_ hk_ => ⟨Or.elim hk_ (fun hs_ => fun e_ => Nat.not_le.2 hs_ (by rw [e_]; exact h3.out)) (fun hn_ => (Kd.freshB (g := c2) (o := .cells #[.slice (some b3) a3.length b2, .slice d4 a9.length d2] 31 (0, 0)) (bk a5) k_ hn_)), Or.elim hk_ (fun hs_ => fun e_ => Nat.not_le.2 hs_ (by rw [e_]; exact h2.out)) (fun hn_ => (Kd.freshB (g := b4) (o := .cells #[.string ((rd_T96 a3 a1).f0), .int .i64 ((rd_T96 a3 a1).f1), .bool ((rd_T96 a3 a1).f2), .slice b6 ((rd_T96 a3 a1).f3).length b5] 96 (0, 0)) (bk a7) k_ hn_))⟩)) (below_size (bb HB))); replace a5 := bkb a5 hb; replace a7 := bkb a7 hb; replace HB := bstep HB hb; (try clear hb); (try clear hb2); (try clear hk); (try clear hi); (try clear m0); obtain ⟨w4, d9, eo50⟩ := Kd.N_slice h0.out; subst eo50; obtain ⟨r5, r4, r3, r2, p7, p6, p5, p4⟩ := cz4 a7)
   go_loopg [7] j7 (fun kq v7 w' => ∃ (a4 : Int), v7 = .int .i64 a4 ∧ Aside0 (types_node.l0 kq a6 a4 = some r) ∧ Aside0 (kq ≤ j7) ∧ Aside0 (Kd.N k99 99 w' w.heap.size (fun k_ => k_ ≠ c2 ∧ k_ ≠ b4) (.slice w4 a6.length d9) a6) ∧ Aside0 (w'.heap[c2]? = some (.cells #[(.slice (some b3) a3.length b2), (.slice d4 a9.length d2)] 31 (0, 0))) ∧ Aside0 (w'.heap[b4]? = some (.cells #[.string ((rd_T96 a3 a1).f0), .int .i64 ((rd_T96 a3 a1).f1), .bool ((rd_T96 a3 a1).f2), (.slice b6 ((rd_T96 a3 a1).f3).length b5)] 96 (0, 0))) ∧ Aside0 (Below w.heap.size w w'))
   case atStart => exact ⟨(wrap64 ((a6.length : Int) - (((rd_T96 a3 a1).f3).length : Int))), eqs, H', ⟨Nat.le_refl _⟩, ⟨kN h0⟩, ⟨bk a5⟩, ⟨bk a7⟩, ⟨bb HB⟩⟩
   case round =>
    clear H'
    clear o7
    clear o6
    clear o5
    clear o4
    clear s5
    clear s4
    clear r9
    clear r8
    clear r7
    clear r6
    clear r5
    clear r4
    clear r3
    clear r2
    clear q3
    clear q2
    clear q1
    clear q0
    clear p9
    clear p8
    clear p7
    clear p6
    clear p5
    clear p4
    obtain ⟨a4, rfl, HA, v4, HO_6, a5, a7, HB⟩ := hrel
    cases gk with
    | zero => exact absurd HA.out (by simp [types_node.l0])
    | succ k2 =>
     have H := HA.out
     clear HA
     simp only [types_node.l0] at H
     by_cases h9 : a4 < (a6.length : Int)
     rotate_left
     ·rw [if_neg h9] at H
      have v1 := decide_eq_false h9
      clear h9
      obtain rfl := Option.some.inj H
      go_wp2
      go_ret
      exact ⟨erf, bb HB⟩
     rw [if_pos h9] at H
     have v1 := decide_eq_true h9
     clear h9
     obtain ⟨v3, H⟩ := itn H
     have I7 := decide_eq_true v3
     clear v3
     have I6 := eq_true (odt : 0 ≤ a4)
     obtain ⟨t7, H⟩ := itn H
     have I5 := eq_true t7
     have I4 := decide_eq_true t7
     clear t7
     obtain ⟨d5, g8⟩ := leq (α := List (S99)) (a6.take (a4 : Int).toNat)
     rw [← g8.out] at H
     obtain ⟨e6, v5, H⟩ := obA H
     by_cases h6 : e6 = 0
     rotate_left
     ·rw [if_neg h6] at H
      have v0 := beq_eq_false_iff_ne.mpr h6
      have t9 := bne_iff_ne.mpr h6
      obtain rfl := Option.some.inj H
      try go_wp2
      replace HO_6 := am (Kd.N_drew HO_6.out)
      replace a5 := am (blk_drew a5.out)
      replace a7 := am (blk_drew a7.out)
      replace HB := am (below_drew1 HB.out)
      have e8 : 0 ≤ a4 := odt
      have e7 : a4 < (a6.length : Int) := odt
      obtain ⟨a8, g1, g0, m9, e2, e1, e0, d6, e3, e4⟩ := at_T99 (Kd.N_reads' HO_6.out).2.2 a4 e8 e7
      cases m9
      obtain ⟨ce160, hce160, hMe160, hcc160⟩ := Kd.N_get HO_6.out z99 a4 e8 (by first | exact e7 | exact odt | (have e_ := (Kd.N_reads' HO_6.out).1; omega))
      obtain ⟨ua160_3, uc160_3, rfl, ul160_3, ge160_3⟩ := k99_openF hMe160
      have hv160_3 := hcc160 3 _ rfl
      rw [add_field _ _ 3 (by omega)] at hv160_3
      replace hv160_3 := Option.some.inj (hv160_3.symm.trans d6)
      injection hv160_3 with hva_ hvn_ hvc_
      rw [hva_] at ge160_3
      rw [hvc_] at ul160_3
      have HL160_3 := am (show Kd.V Kd.string 9 _ w.heap.size _ _ ((rd_T99 a6 a4).f3) from Kd.V_mk ul160_3 ge160_3)
      clear hva_ hvn_ hvc_ ge160_3 ul160_3 hcc160 hce160
      have c1 := am e4
      have g7 := am e3
      clear e4 e3
      replace e8 := eq_true e8
      replace e7 := eq_true e7
      have t4 : (a4 : Int) ≤ ((a6.length : Int) : Int) := odt
      obtain ⟨i062, n8, _, hsz62, _⟩ := info_parts info99
      have hroom62 : a6.length ≤ d9 := (Kd.N_reads' HO_6.out).2.1
      have hC62 : Kd.F k99 _ _ (some a8) a6.length a6 := (Kd.V_at (base := w.heap.size) (Kd.N_V HO_6.out)).2.2
      have hcut62 := cut_to (P := Tryz.prog) 94 99 .i64 Tryz.underlying94 n8 (some a8) a6.length d9 a4 (odt) t4 hroom62
      have m5 := Kd.F_take (m := (a4 : Int).toNat) hC62 (by omega)
      have m1 : d5.length = (a4 : Int).toNat := (by rw [g8.out, List.length_take]; omega)
      rw [← g8.out] at m5
      rw [← m1] at hcut62
      have d3 := am (show Kd.V k99 99 _ w.heap.size _ (.slice (some a8) d5.length d9) d5 from Kd.V_mk (by omega) m5)
      have v2 := am (show d5.length ≤ d9 from by omega)
      clear m5 hC62 hroom62 n8 hsz62
      have KY62 := am m1
      clear m1
      replace t4 := eq_true t4
      refine start_ (n := 9) (S := fun w' => w'.cell? (a8.add ((a4).toNat * 4)) = some (.string ((rd_T99 a6 a4).f0)) ∧ w'.cell? ⟨(a8.add ((a4).toNat * 4)).block, (a8.add ((a4).toNat * 4)).off + 1, none⟩ = some (.int .i64 ((rd_T99 a6 a4).f1)) ∧ w'.cell? ⟨(a8.add ((a4).toNat * 4)).block, (a8.add ((a4).toNat * 4)).off + 2, none⟩ = some (.int .i64 ((rd_T99 a6 a4).f2)) ∧ w'.cell? ⟨(a8.add ((a4).toNat * 4)).block, (a8.add ((a4).toNat * 4)).off + 3, none⟩ = some (.slice g1 ((rd_T99 a6 a4).f3).length g0)) (ds := []) #[false, false, false, false, false, false, false, false, false] (by kernel_rfl) rfl rfl ⟨e2, e1, e0, d6⟩ (fun hHeld => ?_); refine with_tabW types_node.tab16 types_node.bits16 (fun HT_ HW_ => ?_)
      generalize wr.drew = J4 at HO_6 a5 a7 HB HL160_3 d3 c1 e2 e1 e0 d6 hHeld ⊢
      refine pu 0 59 (bits 9 0x1) HT_ (h := ?_)
      refine pu 1 60 (bits 9 0x3) HT_ (h := ?_)
      refine pu 2 61 (bits 9 0x7) HT_ (h := ?_)
      refine pu 4 63 (bits 9 0x17) HT_ (h := ?_)
      refine pu 5 64 (bits 9 0x37) HT_ (h := ?_)
      refine pu 6 65 (bits 9 0x77) HT_ (h := ?_)
      refine tk 3 62 (bits 9 0x7f) HT_ HW_ hHeld (hy := by rintro w' ⟨s0, s1, s2, s3⟩; go_simp; with_reducible rfl) (h := ?_)
      refine one_ (i := 7) (N := some 66) #[true, true, true, true, true, true, true, true, false] rfl rfl (one_of HT_.out (by kernel_rfl)) (by decide) (fun K hK => ?_)
      refine goes_ Tryz.func104 (by kernel_rfl) rfl #[.agg #[.string ((rd_T99 a6 a4).f0), .int .i64 ((rd_T99 a6 a4).f1), .int .i64 ((rd_T99 a6 a4).f2), .slice g1 ((rd_T99 a6 a4).f3).length g0], .slice (some a8) d5.length d9] (by rfl) rfl rfl (by (try simp only [List.map_toArray, List.map_cons, List.map_nil]); first | done | rfl | (simp only [List.length_drop, List.length_take]; rfl)) ?_
      with_reducible refine (types_attribute.calls k2 ((rd_T99 a6 a4).f0) ((rd_T99 a6 a4).f1) ((rd_T99 a6 a4).f2) _ _ ((rd_T99 a6 a4).f3) _ _ d5 e6 _ ?d1 ?d0 ?c9 ?j6 v5.out).mono ?_
      (case d1 => repeat (first | exact (kC c1) | (with_reducible refine Kd.C_alloc ?_ _) | (with_reducible refine Kd.C_drewN ?_ _) | (with_reducible refine Kd.C_drew ?_)))
      (case d0 => exact g7.out)
      (case c9 => repeat (first | exact (Kd.V_reads' d3.out).2.2 | (with_reducible refine Kd.C_alloc ?_ _) | (with_reducible refine Kd.C_drewN ?_ _) | (with_reducible refine Kd.C_drew ?_)))
      (case j6 => exact (Kd.V_reads' d3.out).2.1)
      rintro e J3 ⟨rfl, hb⟩
      have n3 := (hb.cell (World.block_lt_of_cell? _ _ (hHeld.1))).trans (hHeld.1)
      have n2 := (hb.cell (World.block_lt_of_cell? _ _ (hHeld.2.1))).trans (hHeld.2.1)
      have n1 := (hb.cell (World.block_lt_of_cell? _ _ (hHeld.2.2.1))).trans (hHeld.2.2.1)
      have n0 := (hb.cell (World.block_lt_of_cell? _ _ (hHeld.2.2.2))).trans (hHeld.2.2.2)
      refine ⟨_, rfl, ?_⟩
      replace HO_6 := kNb HO_6 hb
      replace HL160_3 := kVb HL160_3 hb
      replace d3 := kVb d3 hb
      replace a5 := bkb a5 hb
      replace a7 := bkb a7 hb
      replace c1 := kCb c1 hb
      replace HB := bstep HB hb
      clear hb
      refine hK.out _ _ ⟨n3, n2, n1, n0⟩ (fun hHeld => ?_)
      clear hK K
      refine norm_ (a' := ?_) ?_ ?_
      rotate_left
      ·show Act.put _ (some 66) _ = _
       simp only [Act.put, List.setIfInBounds_toArray, List.set_cons_zero, List.set_cons_succ, i64_w, i32_w]
       rfl
      refine pu 8 8 (bits 9 0x1ff) HT_ (h := ?_)
      refine done_ (done_of HT_.out (by kernel_rfl)) ?_
      try go_wp2
      go_ret
      exact ⟨erf, bb HB⟩
     rw [if_pos h6] at H
     have v0 := beq_iff_eq.mpr h6
     have t9 := bne_eq_false_iff_eq.mpr h6
     clear h6
     have H' := am H
     clear H
     try go_wp2
     replace HO_6 := am (Kd.N_drew HO_6.out)
     replace a5 := am (blk_drew a5.out)
     replace a7 := am (blk_drew a7.out)
     replace HB := am (below_drew1 HB.out)
     have e8 : 0 ≤ a4 := odt
     have e7 : a4 < (a6.length : Int) := odt
     obtain ⟨a8, g1, g0, m9, e2, e1, e0, d6, e3, e4⟩ := at_T99 (Kd.N_reads' HO_6.out).2.2 a4 e8 e7
     cases m9
     obtain ⟨ce160, hce160, hMe160, hcc160⟩ := Kd.N_get HO_6.out z99 a4 e8 (by first | exact e7 | exact odt | (have e_ := (Kd.N_reads' HO_6.out).1; omega))
     obtain ⟨ua160_3, uc160_3, rfl, ul160_3, ge160_3⟩ := k99_openF hMe160
     have hv160_3 := hcc160 3 _ rfl
     rw [add_field _ _ 3 (by omega)] at hv160_3
     replace hv160_3 := Option.some.inj (hv160_3.symm.trans d6)
     injection hv160_3 with hva_ hvn_ hvc_
     rw [hva_] at ge160_3
     rw [hvc_] at ul160_3
     have HL160_3 := am (show Kd.V Kd.string 9 _ w.heap.size _ _ ((rd_T99 a6 a4).f3) from Kd.V_mk ul160_3 ge160_3)
     clear hva_ hvn_ hvc_ ge160_3 ul160_3 hcc160 hce160
     have c1 := am e4
     have g7 := am e3
     clear e4 e3
     replace e8 := eq_true e8
     replace e7 := eq_true e7
     have t5 : (a4 : Int) ≤ ((a6.length : Int) : Int) := odt
     obtain ⟨i059, n9, _, hsz59, _⟩ := info_parts info99
     have hroom59 : a6.length ≤ d9 := (Kd.N_reads' HO_6.out).2.1
     have hC59 : Kd.F k99 _ _ (some a8) a6.length a6 := (Kd.V_at (base := w.heap.size) (Kd.N_V HO_6.out)).2.2
     have hcut59 := cut_to (P := Tryz.prog) 94 99 .i64 Tryz.underlying94 n9 (some a8) a6.length d9 a4 (odt) t5 hroom59
     have m6 := Kd.F_take (m := (a4 : Int).toNat) hC59 (by omega)
     have m2 : d5.length = (a4 : Int).toNat := (by rw [g8.out, List.length_take]; omega)
     rw [← g8.out] at m6
     rw [← m2] at hcut59
     have d3 := am (show Kd.V k99 99 _ w.heap.size _ (.slice (some a8) d5.length d9) d5 from Kd.V_mk (by omega) m6)
     have v2 := am (show d5.length ≤ d9 from by omega)
     clear m6 hC59 hroom59 n9 hsz59
     have KY59 := am m2
     clear m2
     replace t5 := eq_true t5
     refine start_ (n := 9) (S := fun w' => w'.cell? (a8.add ((a4).toNat * 4)) = some (.string ((rd_T99 a6 a4).f0)) ∧ w'.cell? ⟨(a8.add ((a4).toNat * 4)).block, (a8.add ((a4).toNat * 4)).off + 1, none⟩ = some (.int .i64 ((rd_T99 a6 a4).f1)) ∧ w'.cell? ⟨(a8.add ((a4).toNat * 4)).block, (a8.add ((a4).toNat * 4)).off + 2, none⟩ = some (.int .i64 ((rd_T99 a6 a4).f2)) ∧ w'.cell? ⟨(a8.add ((a4).toNat * 4)).block, (a8.add ((a4).toNat * 4)).off + 3, none⟩ = some (.slice g1 ((rd_T99 a6 a4).f3).length g0)) (ds := []) #[false, false, false, false, false, false, false, false, false] (by kernel_rfl) rfl rfl ⟨e2, e1, e0, d6⟩ (fun hHeld => ?_); refine with_tabW types_node.tab16 types_node.bits16 (fun HT_ HW_ => ?_)
     generalize wr.drew = J6 at HO_6 a5 a7 HB HL160_3 d3 c1 e2 e1 e0 d6 hHeld ⊢
     refine pu 0 59 (bits 9 0x1) HT_ (h := ?_)
     refine pu 1 60 (bits 9 0x3) HT_ (h := ?_)
     refine pu 2 61 (bits 9 0x7) HT_ (h := ?_)
     refine pu 4 63 (bits 9 0x17) HT_ (h := ?_)
     refine pu 5 64 (bits 9 0x37) HT_ (h := ?_)
     refine pu 6 65 (bits 9 0x77) HT_ (h := ?_)
     refine tk 3 62 (bits 9 0x7f) HT_ HW_ hHeld (hy := by rintro w' ⟨s0, s1, s2, s3⟩; go_simp; with_reducible rfl) (h := ?_)
     refine one_ (i := 7) (N := some 66) #[true, true, true, true, true, true, true, true, false] rfl rfl (one_of HT_.out (by kernel_rfl)) (by decide) (fun K hK => ?_)
     refine goes_ Tryz.func104 (by kernel_rfl) rfl #[.agg #[.string ((rd_T99 a6 a4).f0), .int .i64 ((rd_T99 a6 a4).f1), .int .i64 ((rd_T99 a6 a4).f2), .slice g1 ((rd_T99 a6 a4).f3).length g0], .slice (some a8) d5.length d9] (by rfl) rfl rfl (by (try simp only [List.map_toArray, List.map_cons, List.map_nil]); first | done | rfl | (simp only [List.length_drop, List.length_take]; rfl)) ?_
     with_reducible refine (types_attribute.calls k2 ((rd_T99 a6 a4).f0) ((rd_T99 a6 a4).f1) ((rd_T99 a6 a4).f2) _ _ ((rd_T99 a6 a4).f3) _ _ d5 e6 _ ?d1 ?d0 ?c9 ?j6 v5.out).mono ?_
     (case d1 => repeat (first | exact (kC c1) | (with_reducible refine Kd.C_alloc ?_ _) | (with_reducible refine Kd.C_drewN ?_ _) | (with_reducible refine Kd.C_drew ?_)))
     (case d0 => exact g7.out)
     (case c9 => repeat (first | exact (Kd.V_reads' d3.out).2.2 | (with_reducible refine Kd.C_alloc ?_ _) | (with_reducible refine Kd.C_drewN ?_ _) | (with_reducible refine Kd.C_drew ?_)))
     (case j6 => exact (Kd.V_reads' d3.out).2.1)
     rintro e J5 ⟨rfl, hb⟩
     have n3 := (hb.cell (World.block_lt_of_cell? _ _ (hHeld.1))).trans (hHeld.1)
     have n2 := (hb.cell (World.block_lt_of_cell? _ _ (hHeld.2.1))).trans (hHeld.2.1)
     have n1 := (hb.cell (World.block_lt_of_cell? _ _ (hHeld.2.2.1))).trans (hHeld.2.2.1)
     have n0 := (hb.cell (World.block_lt_of_cell? _ _ (hHeld.2.2.2))).trans (hHeld.2.2.2)
     refine ⟨_, rfl, ?_⟩
     replace HO_6 := kNb HO_6 hb
     replace HL160_3 := kVb HL160_3 hb
     replace d3 := kVb d3 hb
     replace a5 := bkb a5 hb
     replace a7 := bkb a7 hb
     replace c1 := kCb c1 hb
     replace HB := bstep HB hb
     clear hb
     refine hK.out _ _ ⟨n3, n2, n1, n0⟩ (fun hHeld => ?_)
     clear hK K
     refine norm_ (a' := ?_) ?_ ?_
     rotate_left
     ·show Act.put _ (some 66) _ = _
      simp only [Act.put, List.setIfInBounds_toArray, List.set_cons_zero, List.set_cons_succ, i64_w, i32_w]
      rfl
     refine pu 8 8 (bits 9 0x1ff) HT_ (h := ?_)
     refine done_ (done_of HT_.out (by kernel_rfl)) ?_
     try go_wp2
     go_roundg k2
     case measure => have := t8.out; have := v4.out; omega
     case rel => exact ⟨(wrap64 (a4 + 1)), eqs, H', ⟨by have := t8.out; have := v4.out; omega⟩, ⟨kN HO_6⟩, ⟨bk a5⟩, ⟨bk a7⟩, ⟨bb HB⟩⟩
def types_bounded.f (a0 : Int) (a1 : Int) : Option (Bool) := if a0 ≥ 0 then (if a0 ≤ 40 then (if a1 = (-1) then (some true) else (if a1 ≥ a0 then (some (decide (a1 ≤ 40))) else (some false))) else (some false)) else (some false)
theorem types_bounded.calls (a0 : Int) (a1 : Int) (r : Bool) (w : World) (h : types_bounded.f a0 a1 = some r) :
  Calls Tryz.prog 108 #[.int .i64 a0, .int .i64 a1] w fun e w' => e = .returned (.bool r) ∧ Drawn0 w w' := by
 have H : (if a0 ≥ 0 then (if a0 ≤ 40 then (if a1 = (-1) then (some true) else (if a1 ≥ a0 then (some (decide (a1 ≤ 40))) else (some false))) else (some false)) else (some false)) = some r := h
 clear h
 by_cases c3 : a0 ≥ 0
 rotate_left
 ·rw [if_neg c3] at H
  have g2 : decide (0 ≤ a0) = false := decide_eq_false c3
  clear c3
  obtain rfl := Option.some.inj H
  go_enter Tryz.func108, Tryz.ntmps108
  go_wp2
  go_ret
  exact ⟨by first | rfl | (simp; done) | (simp [*]; done), drw⟩
 rw [if_pos c3] at H
 have g2 : decide (0 ≤ a0) = true := decide_eq_true c3
 clear c3
 by_cases c4 : a0 ≤ 40
 rotate_left
 ·rw [if_neg c4] at H
  have g1 := decide_eq_false c4
  clear c4
  obtain rfl := Option.some.inj H
  go_enter Tryz.func108, Tryz.ntmps108
  go_wp2
  go_ret
  exact ⟨by first | rfl | (simp; done) | (simp [*]; done), drw⟩
 rw [if_pos c4] at H
 have g1 := decide_eq_true c4
 clear c4
 by_cases c5 : a1 = (-1)
 ·rw [if_pos c5] at H
  have o5 := beq_iff_eq.mpr c5
  have o4 := bne_eq_false_iff_eq.mpr c5
  clear c5
  obtain rfl := Option.some.inj H
  go_enter Tryz.func108, Tryz.ntmps108
  go_wp2
  go_ret
  exact ⟨by first | rfl | (simp; done) | (simp [*]; done), drw⟩
 rw [if_neg c5] at H
 have o5 := beq_eq_false_iff_ne.mpr c5
 have o4 := bne_iff_ne.mpr c5
 by_cases c6 : a1 ≥ a0
 ·rw [if_pos c6] at H
  have o3 : decide (a0 ≤ a1) = true := decide_eq_true c6
  clear c6
  obtain rfl := Option.some.inj H
  go_enter Tryz.func108, Tryz.ntmps108
  go_wp2
  go_ret
  exact ⟨by first | rfl | (simp; done) | (simp [*]; done), drw⟩
 ·rw [if_neg c6] at H
  have o3 : decide (a0 ≤ a1) = false := decide_eq_false c6
  clear c6
  obtain rfl := Option.some.inj H
  go_enter Tryz.func108, Tryz.ntmps108
  go_wp2
  go_ret
  exact ⟨by first | rfl | (simp; done) | (simp [*]; done), drw⟩
def types_edge.j0 : Nat → Bool → ByteArray → Int → Int → Int → Int → Int → Int → Option (Int)
 | 0, _, _, _, _, _, _, _, _ => none
 | k + 1, D9, o8, o7, o6, j3, j2, j1, h9 => if D9 = true then (some 6) else ((types_bounded.f j3 j2).bind fun e6 => (if e6 = true then ((types_bounded.f j1 h9).bind fun e5 => (if e5 = true then (some 0) else (some 6))) else (some 6)))
def types_edge.f (k : Nat) (a8 : List (S96)) (a3 : List (S101)) (a1 : Int) : Option (Int) := if 0 ≤ a1 then (if a1 < (a3.length : Int) then ((token_IsName.f k ((rd_T101 a3 a1).f0)).bind fun d8 => (if d8 = true then (if a1 ≤ (a3.length : Int) then ((any_edge.f (a3.take (a1 : Int).toNat) ((rd_T101 a3 a1).f0)).bind fun d3 => (if d3 = true then (some 5) else ((edge_inside.f ((rd_T101 a3 a1).f1) a8).bind fun d2 => (if d2 = true then ((edge_inside.f ((rd_T101 a3 a1).f2) a8).bind fun d1 => (types_edge.j0 k (!d1) ((rd_T101 a3 a1).f0) ((rd_T101 a3 a1).f1) ((rd_T101 a3 a1).f2) ((rd_T101 a3 a1).f3) ((rd_T101 a3 a1).f4) ((rd_T101 a3 a1).f5) ((rd_T101 a3 a1).f6))) else (types_edge.j0 k true ((rd_T101 a3 a1).f0) ((rd_T101 a3 a1).f1) ((rd_T101 a3 a1).f2) ((rd_T101 a3 a1).f3) ((rd_T101 a3 a1).f4) ((rd_T101 a3 a1).f5) ((rd_T101 a3 a1).f6)))))) else (none)) else (some 2))) else (none)) else (none)
theorem types_edge.mono_l : ∀ k, (∀ y0 y1 y2 y3 y4 y5 y6 y7, LeO (types_edge.j0 k y0 y1 y2 y3 y4 y5 y6 y7) (types_edge.j0 (k + 1) y0 y1 y2 y3 y4 y5 y6 y7))
 | 0 => fun _ _ _ _ _ _ _ _ r h => by simp [types_edge.j0] at h
 | k + 1 => by
  have ih0 := types_edge.mono_l k
  ·intro y0 y1 y2 y3 y4 y5 y6 y7
   unfold types_edge.j0
   repeat' first
   | (with_reducible exact ih0 _ _ _ _ _ _ _ _)
   | (with_reducible exact token_IsName.mono _ _)
   | (with_reducible exact LeO.refl _)
   | (with_reducible exact LeO.none _)
   | (with_reducible refine LeO.ite ?_ ?_)
   | (with_reducible refine LeO.bind ?_ (fun _ => ?_))
theorem types_edge.mono : ∀ a0 a1 a2 k, LeO (types_edge.f k a0 a1 a2) (types_edge.f (k + 1) a0 a1 a2) := by
 intro a0 a1 a2 k
 have ih0 := types_edge.mono_l k
 unfold types_edge.f
 repeat' first
   | (with_reducible exact ih0 _ _ _ _ _ _ _ _)
   | (with_reducible exact token_IsName.mono _ _)
   | (with_reducible exact LeO.refl _)
   | (with_reducible exact LeO.none _)
   | (with_reducible refine LeO.ite ?_ ?_)
   | (with_reducible refine LeO.bind ?_ (fun _ => ?_))
theorem types_edge.calls (k : Nat) (c2 : Option Addr) (c1 : Nat) (a8 : List (S96)) (e0 : Option Addr) (a9 : Nat) (a3 : List (S101)) (a1 : Int) (r : Int) (w : World) (g6 : Kd.C k96 w c2 a8.length a8) (h0 : a8.length ≤ c1) (g5 : Kd.C k101 w e0 a3.length a3) (g9 : a3.length ≤ a9) (h : types_edge.f k a8 a3 a1 = some r) :
  Calls Tryz.prog 84 #[.agg #[.slice c2 a8.length c1, .slice e0 a3.length a9], .int .i64 a1] w fun e w' => e = .returned (.int .i64 r) ∧ Below w.heap.size w w' := by
 have hu31 := Tryz.underlying31
 have hu101 := Tryz.underlying101
 have F8 := am g6
 have F9 := am h0
 clear g6 h0
 have d6 := am g5
 have h6 := am g9
 clear g5 g9
 have HB := am (Below.refl w.heap.size w)
 have H : (if 0 ≤ a1 then (if a1 < (a3.length : Int) then ((token_IsName.f k ((rd_T101 a3 a1).f0)).bind fun d8 => (if d8 = true then (if a1 ≤ (a3.length : Int) then ((any_edge.f (a3.take (a1 : Int).toNat) ((rd_T101 a3 a1).f0)).bind fun d3 => (if d3 = true then (some 5) else ((edge_inside.f ((rd_T101 a3 a1).f1) a8).bind fun d2 => (if d2 = true then ((edge_inside.f ((rd_T101 a3 a1).f2) a8).bind fun d1 => (types_edge.j0 k (!d1) ((rd_T101 a3 a1).f0) ((rd_T101 a3 a1).f1) ((rd_T101 a3 a1).f2) ((rd_T101 a3 a1).f3) ((rd_T101 a3 a1).f4) ((rd_T101 a3 a1).f5) ((rd_T101 a3 a1).f6))) else (types_edge.j0 k true ((rd_T101 a3 a1).f0) ((rd_T101 a3 a1).f1) ((rd_T101 a3 a1).f2) ((rd_T101 a3 a1).f3) ((rd_T101 a3 a1).f4) ((rd_T101 a3 a1).f5) ((rd_T101 a3 a1).f6)))))) else (none)) else (some 2))) else (none)) else (none)) = some r := h
 clear h
 obtain ⟨c3, H⟩ := itn H
 have g2 := decide_eq_true c3
 clear c3
 obtain ⟨c4, H⟩ := itn H
 have g1 := decide_eq_true c4
 clear c4
 obtain ⟨d8, A5, H⟩ := obA H
 by_cases c6 : d8 = true
 rotate_left
 ·replace c6 := Bool.eq_false_iff.mpr c6
  subst c6
  replace H := iff_ H
  obtain rfl := Option.some.inj H
  go_enter Tryz.func84, Tryz.ntmps84
  go_wp2_with (first | ((with_reducible refine gate_dst (N := 2) rfl ?_); refine be 2 #[.slice c2 a8.length c1, .slice e0 a3.length a9] 31 ?_; intro c9 hg G4 hbox hb; have a4 := am (hbox); have h8 := bsz HB hg; replace HB := bstep HB hb; clear hb hbox hg; obtain ⟨w2, w1, p7, p6⟩ := cz2 a4; have c0 : 0 ≤ a1 := odt; have b9 : a1 < (a3.length : Int) := odt; obtain ⟨b0, d9, b7, b6, b5, b4, b3, b2, b1⟩ := at_T101 d6.out a1 c0 b9; cases d9; replace b7 := hxc HB b7; replace b6 := hxc HB b6; replace b5 := hxc HB b5; replace b4 := hxc HB b4; replace b3 := hxc HB b3; replace b2 := hxc HB b2; replace b1 := hxc HB b1; replace c0 := eq_true c0; replace b9 := eq_true b9) | ((with_reducible refine gate_dst (N := 5) rfl ?_); refine be 5 #[.string (⟨#[]⟩ : ByteArray), .int .i64 0, .int .i64 0, .int .i64 0, .int .i64 0, .int .i64 0, .int .i64 0] 101 ?_; intro b8 hg G3 hbox hb; have a5 := am (hbox); have h7 := bsz HB hg; replace HB := bstep HB hb; have a7 := blt a4 hg; have a6 := bgt a4 hg; replace a4 := bkb a4 hb; clear hb hbox hg; have F0 := a6.out; have E2 := a7.out; obtain ⟨w0, v9, v8, v7, v6, v5, v4, p5, p4, p3, p2, p1, p0, o9⟩ := cz7 a5) | ((with_reducible refine gate_callee (f := 100) rfl ?_); refine gl 16 Tryz.func100 #[.string ((rd_T101 a3 a1).f0)] (h := ?_); (with_reducible refine (token_IsName.calls k ((rd_T101 a3 a1).f0) false _ A5.out).mono ?_); rintro e G2 ⟨rfl, hb⟩; refine ⟨_, rfl, ?_⟩; replace a4 := am (blk_below (g := c9) (o := .cells #[.slice c2 a8.length c1, .slice (some b0) a3.length a9] 31 (0, 0)) (bkF a4) hb); replace a5 := am (blk_below (g := b8) (o := .cells #[.string ((rd_T101 a3 a1).f0), .int .i64 ((rd_T101 a3 a1).f1), .int .i64 ((rd_T101 a3 a1).f2), .int .i64 ((rd_T101 a3 a1).f3), .int .i64 ((rd_T101 a3 a1).f4), .int .i64 ((rd_T101 a3 a1).f5), .int .i64 ((rd_T101 a3 a1).f6)] 101 (0, 0)) (by (with_reducible repeat (first | refine dN ?_ _ | refine dR ?_ | refine dA ?_ _)); refine blk_put (cs := #[.string ((rd_T101 a3 a1).f0), .int .i64 ((rd_T101 a3 a1).f1), .int .i64 ((rd_T101 a3 a1).f2), .int .i64 ((rd_T101 a3 a1).f3), .int .i64 ((rd_T101 a3 a1).f4), .int .i64 ((rd_T101 a3 a1).f5), .int .i64 0]) ?_ 6 _ rfl; refine blk_put (cs := #[.string ((rd_T101 a3 a1).f0), .int .i64 ((rd_T101 a3 a1).f1), .int .i64 ((rd_T101 a3 a1).f2), .int .i64 ((rd_T101 a3 a1).f3), .int .i64 ((rd_T101 a3 a1).f4), .int .i64 0, .int .i64 0]) ?_ 5 _ rfl; refine blk_put (cs := #[.string ((rd_T101 a3 a1).f0), .int .i64 ((rd_T101 a3 a1).f1), .int .i64 ((rd_T101 a3 a1).f2), .int .i64 ((rd_T101 a3 a1).f3), .int .i64 0, .int .i64 0, .int .i64 0]) ?_ 4 _ rfl; refine blk_put (cs := #[.string ((rd_T101 a3 a1).f0), .int .i64 ((rd_T101 a3 a1).f1), .int .i64 ((rd_T101 a3 a1).f2), .int .i64 0, .int .i64 0, .int .i64 0, .int .i64 0]) ?_ 3 _ rfl; refine blk_put (cs := #[.string ((rd_T101 a3 a1).f0), .int .i64 ((rd_T101 a3 a1).f1), .int .i64 0, .int .i64 0, .int .i64 0, .int .i64 0, .int .i64 0]) ?_ 2 _ rfl; refine blk_put (cs := #[.string ((rd_T101 a3 a1).f0), .int .i64 0, .int .i64 0, .int .i64 0, .int .i64 0, .int .i64 0, .int .i64 0]) ?_ 1 _ rfl; refine blk_put (cs := #[.string (⟨#[]⟩ : ByteArray), .int .i64 0, .int .i64 0, .int .i64 0, .int .i64 0, .int .i64 0, .int .i64 0]) ?_ 0 _ rfl; (with_reducible repeat (first | refine dN ?_ _ | refine dR ?_ | refine dA ?_ _)); exact a5.out) hb); replace HB := bstep HB hb; (try clear hb); (try clear hb2); (try clear hk); (try clear hi)))
  go_ret
  exact ⟨erf, bb HB⟩
 subst c6
 replace H := ift H
 have o2 := eq_true (odt : 0 ≤ a1)
 obtain ⟨c8, H⟩ := itn H
 have o1 := eq_true c8
 have o0 := decide_eq_true c8
 clear c8
 obtain ⟨d0, d7⟩ := leq (α := List (S101)) (a3.take (a1 : Int).toNat)
 rw [← d7.out] at H
 obtain ⟨d3, A9, H⟩ := obA H
 by_cases h5 : d3 = true
 ·subst h5
  replace H := ift H
  obtain rfl := Option.some.inj H
  go_enter Tryz.func84, Tryz.ntmps84
  go_wp2_with (first | ((with_reducible refine gate_dst (N := 2) rfl ?_); refine be 2 #[.slice c2 a8.length c1, .slice e0 a3.length a9] 31 ?_; intro c9 hg H2 hbox hb; have a4 := am (hbox); have h8 := bsz HB hg; replace HB := bstep HB hb; clear hb hbox hg; obtain ⟨D8, D7, v3, v2⟩ := cz2 a4; have c0 : 0 ≤ a1 := odt; have b9 : a1 < (a3.length : Int) := odt; obtain ⟨b0, d9, b7, b6, b5, b4, b3, b2, b1⟩ := at_T101 d6.out a1 c0 b9; cases d9; replace b7 := hxc HB b7; replace b6 := hxc HB b6; replace b5 := hxc HB b5; replace b4 := hxc HB b4; replace b3 := hxc HB b3; replace b2 := hxc HB b2; replace b1 := hxc HB b1; replace c0 := eq_true c0; replace b9 := eq_true b9) | ((with_reducible refine gate_dst (N := 5) rfl ?_); refine be 5 #[.string (⟨#[]⟩ : ByteArray), .int .i64 0, .int .i64 0, .int .i64 0, .int .i64 0, .int .i64 0, .int .i64 0] 101 ?_; intro b8 hg H1 hbox hb; have a5 := am (hbox); have h7 := bsz HB hg; replace HB := bstep HB hb; have a7 := blt a4 hg; have a6 := bgt a4 hg; replace a4 := bkb a4 hb; clear hb hbox hg; have F7 := a6.out; have E9 := a7.out; obtain ⟨D6, D5, D4, D3, D2, D1, D0, v1, v0, t9, t8, t7, t6, t5⟩ := cz7 a5) | ((with_reducible refine gate_callee (f := 100) rfl ?_); refine gl 16 Tryz.func100 #[.string ((rd_T101 a3 a1).f0)] (h := ?_); (with_reducible refine (token_IsName.calls k ((rd_T101 a3 a1).f0) true _ A5.out).mono ?_); rintro e H0 ⟨rfl, hb⟩; refine ⟨_, rfl, ?_⟩; replace a4 := am (blk_below (g := c9) (o := .cells #[.slice c2 a8.length c1, .slice (some b0) a3.length a9] 31 (0, 0)) (bkF a4) hb); replace a5 := am (blk_below (g := b8) (o := .cells #[.string ((rd_T101 a3 a1).f0), .int .i64 ((rd_T101 a3 a1).f1), .int .i64 ((rd_T101 a3 a1).f2), .int .i64 ((rd_T101 a3 a1).f3), .int .i64 ((rd_T101 a3 a1).f4), .int .i64 ((rd_T101 a3 a1).f5), .int .i64 ((rd_T101 a3 a1).f6)] 101 (0, 0)) (by (with_reducible repeat (first | refine dN ?_ _ | refine dR ?_ | refine dA ?_ _)); refine blk_put (cs := #[.string ((rd_T101 a3 a1).f0), .int .i64 ((rd_T101 a3 a1).f1), .int .i64 ((rd_T101 a3 a1).f2), .int .i64 ((rd_T101 a3 a1).f3), .int .i64 ((rd_T101 a3 a1).f4), .int .i64 ((rd_T101 a3 a1).f5), .int .i64 0]) ?_ 6 _ rfl; refine blk_put (cs := #[.string ((rd_T101 a3 a1).f0), .int .i64 ((rd_T101 a3 a1).f1), .int .i64 ((rd_T101 a3 a1).f2), .int .i64 ((rd_T101 a3 a1).f3), .int .i64 ((rd_T101 a3 a1).f4), .int .i64 0, .int .i64 0]) ?_ 5 _ rfl; refine blk_put (cs := #[.string ((rd_T101 a3 a1).f0), .int .i64 ((rd_T101 a3 a1).f1), .int .i64 ((rd_T101 a3 a1).f2), .int .i64 ((rd_T101 a3 a1).f3), .int .i64 0, .int .i64 0, .int .i64 0]) ?_ 4 _ rfl; refine blk_put (cs := #[.string ((rd_T101 a3 a1).f0), .int .i64 ((rd_T101 a3 a1).f1), .int .i64 ((rd_T101 a3 a1).f2), .int .i64 0, .int .i64 0, .int .i64 0, .int .i64 0]) ?_ 3 _ rfl; refine blk_put (cs := #[.string ((rd_T101 a3 a1).f0), .int .i64 ((rd_T101 a3 a1).f1), .int .i64 0, .int .i64 0, .int .i64 0, .int .i64 0, .int .i64 0]) ?_ 2 _ rfl; refine blk_put (cs := #[.string ((rd_T101 a3 a1).f0), .int .i64 0, .int .i64 0, .int .i64 0, .int .i64 0, .int .i64 0, .int .i64 0]) ?_ 1 _ rfl; refine blk_put (cs := #[.string (⟨#[]⟩ : ByteArray), .int .i64 0, .int .i64 0, .int .i64 0, .int .i64 0, .int .i64 0, .int .i64 0]) ?_ 0 _ rfl; (with_reducible repeat (first | refine dN ?_ _ | refine dR ?_ | refine dA ?_ _)); exact a5.out) hb); replace HB := bstep HB hb; (try clear hb); (try clear hb2); (try clear hk); (try clear hi); obtain ⟨C9, C8, t4, t3⟩ := cz2 a4; have n6 : (a1 : Int) ≤ ((a3.length : Int) : Int) := odt; obtain ⟨i018, g8, _, hsz18, _⟩ := info_parts info101; have hroom18 : a3.length ≤ a9 := h6.out; have hC18 : Kd.C k101 _ (some b0) a3.length a3 := d6.out; have hcut18 := cut_to (P := Tryz.prog) 29 101 .i64 Tryz.underlying29 g8 (some b0) a3.length a9 a1 (odt) n6 hroom18; have g0 := Kd.C_take (m := (a1 : Int).toNat) hC18 (by omega); have e8 : d0.length = (a1 : Int).toNat := (by rw [d7.out, List.length_take]; omega); rw [← d7.out] at g0; rw [← e8] at hcut18; have e3 := am g0; have e4 := am (show d0.length ≤ a9 from by omega); clear g0 hC18 hroom18 g8 hsz18; have KY18 := am e8; clear e8; replace n6 := eq_true n6) | ((with_reducible refine gate_callee (f := 106) rfl ?_); refine gl 24 Tryz.func106 #[.slice (some b0) d0.length a9, .func (.func 107) #[] #[.pointer (some ⟨b8, 0, none⟩)]] (h := ?_); (with_reducible refine (any_edge.calls _ _ d0 b8 ((rd_T101 a3 a1).f0) (.int .i64 ((rd_T101 a3 a1).f1)) (.int .i64 ((rd_T101 a3 a1).f2)) (.int .i64 ((rd_T101 a3 a1).f3)) (.int .i64 ((rd_T101 a3 a1).f4)) (.int .i64 ((rd_T101 a3 a1).f5)) (.int .i64 ((rd_T101 a3 a1).f6)) true _ ?c7 ?e2 ?e1 A9.out).mono ?_); (case c7 => exact cb e3 HB); (case e2 => exact e4.out); (case e1 => exact (bk a5)); rintro e G9 ⟨rfl, hb⟩; refine ⟨_, rfl, ?_⟩; replace a4 := bkb a4 hb; replace a5 := bkb a5 hb; replace HB := bstep HB hb; (try clear hb); (try clear hb2); (try clear hk); (try clear hi)))
  go_ret
  exact ⟨erf, bb HB⟩
 replace h5 := Bool.eq_false_iff.mpr h5
 subst h5
 replace H := iff_ H
 have g3 := am H
 clear H
 go_enter Tryz.func84, Tryz.ntmps84
 go_upto_region 7 with (first | ((with_reducible refine gate_dst (N := 2) rfl ?_); refine be 2 #[.slice c2 a8.length c1, .slice e0 a3.length a9] 31 ?_; intro c9 hg G8 hbox hb; have a4 := am (hbox); have h8 := bsz HB hg; replace HB := bstep HB hb; clear hb hbox hg; obtain ⟨n5, n4, m4, m3⟩ := cz2 a4; have c0 : 0 ≤ a1 := odt; have b9 : a1 < (a3.length : Int) := odt; obtain ⟨b0, d9, b7, b6, b5, b4, b3, b2, b1⟩ := at_T101 d6.out a1 c0 b9; cases d9; replace b7 := hxc HB b7; replace b6 := hxc HB b6; replace b5 := hxc HB b5; replace b4 := hxc HB b4; replace b3 := hxc HB b3; replace b2 := hxc HB b2; replace b1 := hxc HB b1; replace c0 := eq_true c0; replace b9 := eq_true b9) | ((with_reducible refine gate_dst (N := 5) rfl ?_); refine be 5 #[.string (⟨#[]⟩ : ByteArray), .int .i64 0, .int .i64 0, .int .i64 0, .int .i64 0, .int .i64 0, .int .i64 0] 101 ?_; intro b8 hg G7 hbox hb; have a5 := am (hbox); have h7 := bsz HB hg; replace HB := bstep HB hb; have a7 := blt a4 hg; have a6 := bgt a4 hg; replace a4 := bkb a4 hb; clear hb hbox hg; have F6 := a6.out; have E8 := a7.out; obtain ⟨n3, n2, n1, n0, m9, m8, m7, m2, m1, m0, j9, j8, j7, j6⟩ := cz7 a5) | ((with_reducible refine gate_callee (f := 100) rfl ?_); refine gl 16 Tryz.func100 #[.string ((rd_T101 a3 a1).f0)] (h := ?_); (with_reducible refine (token_IsName.calls k ((rd_T101 a3 a1).f0) true _ A5.out).mono ?_); rintro e G6 ⟨rfl, hb⟩; refine ⟨_, rfl, ?_⟩; replace a4 := am (blk_below (g := c9) (o := .cells #[.slice c2 a8.length c1, .slice (some b0) a3.length a9] 31 (0, 0)) (bkF a4) hb); replace a5 := am (blk_below (g := b8) (o := .cells #[.string ((rd_T101 a3 a1).f0), .int .i64 ((rd_T101 a3 a1).f1), .int .i64 ((rd_T101 a3 a1).f2), .int .i64 ((rd_T101 a3 a1).f3), .int .i64 ((rd_T101 a3 a1).f4), .int .i64 ((rd_T101 a3 a1).f5), .int .i64 ((rd_T101 a3 a1).f6)] 101 (0, 0)) (by (with_reducible repeat (first | refine dN ?_ _ | refine dR ?_ | refine dA ?_ _)); refine blk_put (cs := #[.string ((rd_T101 a3 a1).f0), .int .i64 ((rd_T101 a3 a1).f1), .int .i64 ((rd_T101 a3 a1).f2), .int .i64 ((rd_T101 a3 a1).f3), .int .i64 ((rd_T101 a3 a1).f4), .int .i64 ((rd_T101 a3 a1).f5), .int .i64 0]) ?_ 6 _ rfl; refine blk_put (cs := #[.string ((rd_T101 a3 a1).f0), .int .i64 ((rd_T101 a3 a1).f1), .int .i64 ((rd_T101 a3 a1).f2), .int .i64 ((rd_T101 a3 a1).f3), .int .i64 ((rd_T101 a3 a1).f4), .int .i64 0, .int .i64 0]) ?_ 5 _ rfl; refine blk_put (cs := #[.string ((rd_T101 a3 a1).f0), .int .i64 ((rd_T101 a3 a1).f1), .int .i64 ((rd_T101 a3 a1).f2), .int .i64 ((rd_T101 a3 a1).f3), .int .i64 0, .int .i64 0, .int .i64 0]) ?_ 4 _ rfl; refine blk_put (cs := #[.string ((rd_T101 a3 a1).f0), .int .i64 ((rd_T101 a3 a1).f1), .int .i64 ((rd_T101 a3 a1).f2), .int .i64 0, .int .i64 0, .int .i64 0, .int .i64 0]) ?_ 3 _ rfl; refine blk_put (cs := #[.string ((rd_T101 a3 a1).f0), .int .i64 ((rd_T101 a3 a1).f1), .int .i64 0, .int .i64 0, .int .i64 0, .int .i64 0, .int .i64 0]) ?_ 2 _ rfl; refine blk_put (cs := #[.string ((rd_T101 a3 a1).f0), .int .i64 0, .int .i64 0, .int .i64 0, .int .i64 0, .int .i64 0, .int .i64 0]) ?_ 1 _ rfl; refine blk_put (cs := #[.string (⟨#[]⟩ : ByteArray), .int .i64 0, .int .i64 0, .int .i64 0, .int .i64 0, .int .i64 0, .int .i64 0]) ?_ 0 _ rfl; (with_reducible repeat (first | refine dN ?_ _ | refine dR ?_ | refine dA ?_ _)); exact a5.out) hb); replace HB := bstep HB hb; (try clear hb); (try clear hb2); (try clear hk); (try clear hi); obtain ⟨m6, m5, j5, j4⟩ := cz2 a4; have g4 : (a1 : Int) ≤ ((a3.length : Int) : Int) := odt; obtain ⟨i028, g7, _, hsz28, _⟩ := info_parts info101; have hroom28 : a3.length ≤ a9 := h6.out; have hC28 : Kd.C k101 _ (some b0) a3.length a3 := d6.out; have hcut28 := cut_to (P := Tryz.prog) 29 101 .i64 Tryz.underlying29 g7 (some b0) a3.length a9 a1 (odt) g4 hroom28; have e9 := Kd.C_take (m := (a1 : Int).toNat) hC28 (by omega); have e7 : d0.length = (a1 : Int).toNat := (by rw [d7.out, List.length_take]; omega); rw [← d7.out] at e9; rw [← e7] at hcut28; have e3 := am e9; have e4 := am (show d0.length ≤ a9 from by omega); clear e9 hC28 hroom28 g7 hsz28; have KY28 := am e7; clear e7; replace g4 := eq_true g4) | ((with_reducible refine gate_callee (f := 106) rfl ?_); refine gl 24 Tryz.func106 #[.slice (some b0) d0.length a9, .func (.func 107) #[] #[.pointer (some ⟨b8, 0, none⟩)]] (h := ?_); (with_reducible refine (any_edge.calls _ _ d0 b8 ((rd_T101 a3 a1).f0) (.int .i64 ((rd_T101 a3 a1).f1)) (.int .i64 ((rd_T101 a3 a1).f2)) (.int .i64 ((rd_T101 a3 a1).f3)) (.int .i64 ((rd_T101 a3 a1).f4)) (.int .i64 ((rd_T101 a3 a1).f5)) (.int .i64 ((rd_T101 a3 a1).f6)) false _ ?c7 ?e2 ?e1 A9.out).mono ?_); (case c7 => exact cb e3 HB); (case e2 => exact e4.out); (case e1 => exact (bk a5)); rintro e G5 ⟨rfl, hb⟩; refine ⟨_, rfl, ?_⟩; replace a4 := bkb a4 hb; replace a5 := bkb a5 hb; replace HB := bstep HB hb; (try clear hb); (try clear hb2); (try clear hk); (try clear hi)))
 (try simp only [Act.put, List.setIfInBounds_toArray, List.set_cons_zero, List.set_cons_succ])
 go_cut [25] (fun E0 wc => ∃ (kq : Nat) (d4 : Bool), E0 = .bool d4 ∧ Aside0 (types_edge.j0 kq d4 ((rd_T101 a3 a1).f0) ((rd_T101 a3 a1).f1) ((rd_T101 a3 a1).f2) ((rd_T101 a3 a1).f3) ((rd_T101 a3 a1).f4) ((rd_T101 a3 a1).f5) ((rd_T101 a3 a1).f6) = some r) ∧ Aside0 (kq ≤ k) ∧ Aside0 (wc.heap[c9]? = some (.cells #[(.slice c2 a8.length c1), (.slice (some b0) a3.length a9)] 31 (0, 0))) ∧ Aside0 (wc.heap[b8]? = some (.cells #[.string ((rd_T101 a3 a1).f0), .int .i64 ((rd_T101 a3 a1).f1), .int .i64 ((rd_T101 a3 a1).f2), .int .i64 ((rd_T101 a3 a1).f3), .int .i64 ((rd_T101 a3 a1).f4), .int .i64 ((rd_T101 a3 a1).f5), .int .i64 ((rd_T101 a3 a1).f6)] 101 (0, 0))) ∧ Aside0 (Below w.heap.size w wc))
 case first =>
  have H := g3.out
  clear g3
  obtain ⟨d2, n9, H⟩ := obA H
  by_cases h4 : d2 = true
  rotate_left
  ·replace h4 := Bool.eq_false_iff.mpr h4
   subst h4
   replace H := iff_ H
   have H' := am H
   clear H
   have F4 := a6.out
   have E6 := a7.out
   obtain ⟨C0, A8, A7, A6, A4, A3, A2, s5, s4, s3, s2, s1, s0, r9⟩ := cz7 a5
   go_wp2_with (go_at_call 105; (with_reducible refine (edge_inside.calls ((rd_T101 a3 a1).f1) c9 c2 c1 a8 (.slice (some b0) a3.length a9) false _ ?c7 n9.out).mono ?_); (case c7 => exact (bk a4)); rintro e w' ⟨rfl, ⟨nd, rfl⟩⟩)
   go_meet
   case rel => exact ⟨_, (true), eqs, H', ⟨by first | omega | exact Nat.le_refl _⟩, ⟨bk a4⟩, ⟨bk a5⟩, ⟨bb HB⟩⟩
  subst h4
  replace H := ift H
  obtain ⟨d1, E1, H⟩ := obA H
  have H' := am H
  clear H
  have F5 := a6.out
  have E7 := a7.out
  obtain ⟨C7, C6, C5, C4, C3, C2, C1, t2, t1, t0, s9, s8, s7, s6⟩ := cz7 a5
  go_wp2_with (first | (go_at_call 105; (with_reducible refine (edge_inside.calls ((rd_T101 a3 a1).f1) c9 c2 c1 a8 (.slice (some b0) a3.length a9) true _ ?c7 n9.out).mono ?_); (case c7 => exact (bk a4)); rintro e w' ⟨rfl, ⟨nd, rfl⟩⟩) | (go_at_call 105; (with_reducible refine (edge_inside.calls ((rd_T101 a3 a1).f2) c9 c2 c1 a8 (.slice (some b0) a3.length a9) d1 _ ?c7 E1.out).mono ?_); (case c7 => exact (bk a4)); rintro e w' ⟨rfl, ⟨nd, rfl⟩⟩))
  go_meet
  case rel => exact ⟨_, (!d1), eqs, H', ⟨by first | omega | exact Nat.le_refl _⟩, ⟨bk a4⟩, ⟨bk a5⟩, ⟨bb HB⟩⟩
 case rest =>
  clear g3
  clear g2
  clear g1
  clear o2
  clear o1
  clear o0
  clear g4
  clear n5
  clear n4
  clear n3
  clear n2
  clear n1
  clear n0
  clear m9
  clear m8
  clear m7
  clear m6
  clear m5
  clear m4
  clear m3
  clear m2
  clear m1
  clear m0
  clear j9
  clear j8
  clear j7
  clear j6
  clear j5
  clear j4
  clear b7
  clear b6
  clear b5
  clear b4
  clear b3
  clear b2
  clear b1
  clear c0
  clear b9
  obtain ⟨kq, d4, rfl, HA, G1, a4, a5, HB⟩ := hcut
  cases kq with
  | zero => exact absurd HA.out (by simp [types_edge.j0])
  | succ G0 =>
   have H := HA.out
   clear HA
   simp only [types_edge.j0] at H
   by_cases h3 : d4 = true
   ·subst h3
    replace H := ift H
    obtain rfl := Option.some.inj H
    go_wp2
    go_ret
    exact ⟨erf, bb HB⟩
   replace h3 := Bool.eq_false_iff.mpr h3
   subst h3
   replace H := iff_ H
   obtain ⟨e6, n7, H⟩ := obA H
   by_cases h2 : e6 = true
   rotate_left
   ·replace h2 := Bool.eq_false_iff.mpr h2
    subst h2
    replace H := iff_ H
    obtain rfl := Option.some.inj H
    have F1 := a6.out
    have E3 := a7.out
    obtain ⟨w9, w8, w7, w6, w5, w4, w3, q4, q3, q2, q1, q0, p9, p8⟩ := cz7 a5
    go_wp2_with ((with_reducible refine gate_callee (f := 108) rfl ?_); refine gl 42 Tryz.func108 #[.int .i64 ((rd_T101 a3 a1).f3), .int .i64 ((rd_T101 a3 a1).f4)] (h := ?_); (with_reducible refine (types_bounded.calls ((rd_T101 a3 a1).f3) ((rd_T101 a3 a1).f4) false _ n7.out).mono ?_); rintro e w' ⟨rfl, ⟨nd, rfl⟩⟩; refine ⟨_, rfl, ?_⟩)
    go_ret
    exact ⟨erf, bb HB⟩
   subst h2
   replace H := ift H
   obtain ⟨e5, n8, H⟩ := obA H
   by_cases h1 : e5 = true
   ·subst h1
    replace H := ift H
    obtain rfl := Option.some.inj H
    have F3 := a6.out
    have E5 := a7.out
    obtain ⟨A1, A0, y9, y8, x9, x8, x7, r8, r7, r6, r5, r4, r3, r2⟩ := cz7 a5
    go_wp2_with (first | ((with_reducible refine gate_callee (f := 108) rfl ?_); refine gl 42 Tryz.func108 #[.int .i64 ((rd_T101 a3 a1).f3), .int .i64 ((rd_T101 a3 a1).f4)] (h := ?_); (with_reducible refine (types_bounded.calls ((rd_T101 a3 a1).f3) ((rd_T101 a3 a1).f4) true _ n7.out).mono ?_); rintro e w' ⟨rfl, ⟨nd, rfl⟩⟩; refine ⟨_, rfl, ?_⟩) | (go_at_call 108; (with_reducible refine (types_bounded.calls ((rd_T101 a3 a1).f5) ((rd_T101 a3 a1).f6) true _ n8.out).mono ?_); rintro e w' ⟨rfl, ⟨nd, rfl⟩⟩))
    go_ret
    exact ⟨erf, bb HB⟩
   replace h1 := Bool.eq_false_iff.mpr h1
   subst h1
   replace H := iff_ H
   obtain rfl := Option.some.inj H
   have F2 := a6.out
   have E4 := a7.out
   obtain ⟨x6, x5, x4, x3, x2, x1, x0, r1, r0, q9, q8, q7, q6, q5⟩ := cz7 a5
   go_wp2_with (first | ((with_reducible refine gate_callee (f := 108) rfl ?_); refine gl 42 Tryz.func108 #[.int .i64 ((rd_T101 a3 a1).f3), .int .i64 ((rd_T101 a3 a1).f4)] (h := ?_); (with_reducible refine (types_bounded.calls ((rd_T101 a3 a1).f3) ((rd_T101 a3 a1).f4) true _ n7.out).mono ?_); rintro e w' ⟨rfl, ⟨nd, rfl⟩⟩; refine ⟨_, rfl, ?_⟩) | (go_at_call 108; (with_reducible refine (types_bounded.calls ((rd_T101 a3 a1).f5) ((rd_T101 a3 a1).f6) false _ n8.out).mono ?_); rintro e w' ⟨rfl, ⟨nd, rfl⟩⟩))
   go_ret
   exact ⟨erf, bb HB⟩
mutual
def types_Valid.l0 : Nat → List (S96) → Int → Int → List (S96) → List (S101) → Option (ByteArray × Int)
 | 0, _, _, _, _, _ => none
 | k + 1, n3, o8, j0, c3, b7 => if j0 < o8 then (if 0 ≤ j0 then (if j0 < (n3.length : Int) then ((types_node.f k c3 b7 j0).bind fun h4 => (if h4 = 0 then (types_Valid.l0 k n3 o8 (wrap64 (j0 + 1)) c3 b7) else (some ((rd_T96 n3 j0).f0, h4)))) else (none)) else (none)) else (types_Valid.l1 k b7 (b7.length : Int) 0 c3 b7)
def types_Valid.l1 : Nat → List (S101) → Int → Int → List (S96) → List (S101) → Option (ByteArray × Int)
 | 0, _, _, _, _, _ => none
 | k + 1, n2, o7, h9, c3, b7 => if h9 < o7 then (if 0 ≤ h9 then (if h9 < (n2.length : Int) then ((types_edge.f k c3 b7 h9).bind fun h3 => (if h3 = 0 then (types_Valid.l1 k n2 o7 (wrap64 (h9 + 1)) c3 b7) else (some ((rd_T101 n2 h9).f0, h3)))) else (none)) else (none)) else (some ((⟨#[]⟩ : ByteArray), 0))
end
def types_Valid.f (k : Nat) (a4 : List (S96)) (a3 : List (S101)) : Option (ByteArray × Int) := if (a4.length : Int) = 0 then (some ((⟨#[]⟩ : ByteArray), 7)) else (if (a4.length : Int) > 12 then (some ((⟨#[]⟩ : ByteArray), 3)) else (if (a3.length : Int) > 20 then (some ((⟨#[]⟩ : ByteArray), 3)) else (types_Valid.l0 k a4 (a4.length : Int) 0 a4 a3)))
theorem types_Valid.mono_l : ∀ k, (∀ y0 y1 y2 y3 y4, LeO (types_Valid.l0 k y0 y1 y2 y3 y4) (types_Valid.l0 (k + 1) y0 y1 y2 y3 y4)) ∧ (∀ y0 y1 y2 y3 y4, LeO (types_Valid.l1 k y0 y1 y2 y3 y4) (types_Valid.l1 (k + 1) y0 y1 y2 y3 y4))
 | 0 => ⟨fun _ _ _ _ _ r h => by simp [types_Valid.l0] at h, fun _ _ _ _ _ r h => by simp [types_Valid.l1] at h⟩
 | k + 1 => by
  obtain ⟨ih0, ih1⟩ := types_Valid.mono_l k
  refine ⟨?_, ?_⟩
  ·intro y0 y1 y2 y3 y4
   unfold types_Valid.l0
   repeat' first
   | (with_reducible exact ih0 _ _ _ _ _)
   | (with_reducible exact ih1 _ _ _ _ _)
   | (with_reducible exact types_edge.mono _ _ _ _)
   | (with_reducible exact types_node.mono _ _ _ _)
   | (with_reducible exact LeO.refl _)
   | (with_reducible exact LeO.none _)
   | (with_reducible refine LeO.ite ?_ ?_)
   | (with_reducible refine LeO.bind ?_ (fun _ => ?_))
  ·intro y0 y1 y2 y3 y4
   unfold types_Valid.l1
   repeat' first
   | (with_reducible exact ih0 _ _ _ _ _)
   | (with_reducible exact ih1 _ _ _ _ _)
   | (with_reducible exact types_edge.mono _ _ _ _)
   | (with_reducible exact types_node.mono _ _ _ _)
   | (with_reducible exact LeO.refl _)
   | (with_reducible exact LeO.none _)
   | (with_reducible refine LeO.ite ?_ ?_)
   | (with_reducible refine LeO.bind ?_ (fun _ => ?_))
theorem types_Valid.mono : ∀ a0 a1 k, LeO (types_Valid.f k a0 a1) (types_Valid.f (k + 1) a0 a1) := by
 intro a0 a1 k
 obtain ⟨ih0, ih1⟩ := types_Valid.mono_l k
 unfold types_Valid.f
 repeat' first
   | (with_reducible exact ih0 _ _ _ _ _)
   | (with_reducible exact ih1 _ _ _ _ _)
   | (with_reducible exact types_edge.mono _ _ _ _)
   | (with_reducible exact types_node.mono _ _ _ _)
   | (with_reducible exact LeO.refl _)
   | (with_reducible exact LeO.none _)
   | (with_reducible refine LeO.ite ?_ ?_)
   | (with_reducible refine LeO.bind ?_ (fun _ => ?_))
theorem types_Valid.calls (k : Nat) (b1 : Option Addr) (a9 : Nat) (a4 : List (S96)) (b0 : Option Addr) (a8 : Nat) (a3 : List (S101)) (r1 : ByteArray) (r2 : Int) (w : World) (g6 : Kd.C k96 w b1 a4.length a4) (g8 : a4.length ≤ a9) (g5 : Kd.C k101 w b0 a3.length a3) (g7 : a3.length ≤ a8) (h : types_Valid.f k a4 a3 = some (r1, r2)) :
  Calls Tryz.prog 57 #[.agg #[.slice b1 a4.length a9, .slice b0 a3.length a8]] w fun e w' => e = .returned (.tuple #[.string r1, .int .i64 r2]) ∧ Below w.heap.size w w' := by
 have hu31 := Tryz.underlying31
 have hu96 := Tryz.underlying96
 have hu101 := Tryz.underlying101
 have b9 := am g6
 have c9 := am g8
 clear g6 g8
 have b8 := am g5
 have c7 := am g7
 clear g5 g7
 have HB := am (Below.refl w.heap.size w)
 have H : (if (a4.length : Int) = 0 then (some ((⟨#[]⟩ : ByteArray), 7)) else (if (a4.length : Int) > 12 then (some ((⟨#[]⟩ : ByteArray), 3)) else (if (a3.length : Int) > 20 then (some ((⟨#[]⟩ : ByteArray), 3)) else (types_Valid.l0 k a4 (a4.length : Int) 0 a4 a3)))) = some (r1, r2) := h
 clear h
 by_cases c2 : (a4.length : Int) = 0
 ·rw [if_pos c2] at H
  have n9 := beq_iff_eq.mpr c2
  have n8 := bne_eq_false_iff_eq.mpr c2
  clear c2
  simp only [Option.some.injEq, Prod.mk.injEq] at H
  obtain ⟨rfl, rfl⟩ := H
  go_enter Tryz.func57, Tryz.ntmps57
  go_wp2_with ((with_reducible refine gate_dst (N := 1) rfl ?_); (try (refine gate_guard (by rfl) ?_; dsimp only)); refine be 1 #[.slice b1 a4.length a9, .slice b0 a3.length a8] 31 ?_; intro c0 hg w3 hbox hb; have a6 := am (hbox); have j9 := bsz HB hg; replace HB := bstep HB hb; clear hb hbox hg; obtain ⟨F1, F0, E5, E4⟩ := cz2 a6)
  go_ret2
  exact ⟨erf, bb HB⟩
 rw [if_neg c2] at H
 have n9 := beq_eq_false_iff_ne.mpr c2
 have n8 := bne_iff_ne.mpr c2
 have q2 : ¬ (a4 = []) := fun h_ => c2 (by rw [h_]; rfl)
 by_cases c5 : (a4.length : Int) > 12
 ·rw [if_pos c5] at H
  have n7 : decide (12 < (a4.length : Int)) = true := decide_eq_true c5
  have n6 : decide (12 < a4.length) = true := decide_eq_true (by omega)
  clear c5
  simp only [Option.some.injEq, Prod.mk.injEq] at H
  obtain ⟨rfl, rfl⟩ := H
  go_enter Tryz.func57, Tryz.ntmps57
  go_wp2_with ((with_reducible refine gate_dst (N := 1) rfl ?_); (try (refine gate_guard (by rfl) ?_; dsimp only)); refine be 1 #[.slice b1 a4.length a9, .slice b0 a3.length a8] 31 ?_; intro c0 hg w6 hbox hb; have a6 := am (hbox); have j9 := bsz HB hg; replace HB := bstep HB hb; clear hb hbox hg; obtain ⟨E9, E8, E3, E2⟩ := cz2 a6)
  go_ret2
  exact ⟨erf, bb HB⟩
 rw [if_neg c5] at H
 have n7 : decide (12 < (a4.length : Int)) = false := decide_eq_false c5
 have n6 : decide (12 < a4.length) = false := decide_eq_false (by omega)
 clear c5
 by_cases c8 : (a3.length : Int) > 20
 ·rw [if_pos c8] at H
  have n5 : decide (20 < (a3.length : Int)) = true := decide_eq_true c8
  have n4 : decide (20 < a3.length) = true := decide_eq_true (by omega)
  clear c8
  simp only [Option.some.injEq, Prod.mk.injEq] at H
  obtain ⟨rfl, rfl⟩ := H
  go_enter Tryz.func57, Tryz.ntmps57
  go_wp2_with ((with_reducible refine gate_dst (N := 1) rfl ?_); (try (refine gate_guard (by rfl) ?_; dsimp only)); refine be 1 #[.slice b1 a4.length a9, .slice b0 a3.length a8] 31 ?_; intro c0 hg w9 hbox hb; have a6 := am (hbox); have j9 := bsz HB hg; replace HB := bstep HB hb; clear hb hbox hg; obtain ⟨D6, D5, v9, v8⟩ := cz2 a6)
  go_ret2
  exact ⟨erf, bb HB⟩
 rw [if_neg c8] at H
 have n5 : decide (20 < (a3.length : Int)) = false := decide_eq_false c8
 have n4 : decide (20 < a3.length) = false := decide_eq_false (by omega)
 clear c8
 have H' := am H
 clear H
 go_enter Tryz.func57, Tryz.ntmps57
 go_wp2_with ((with_reducible refine gate_dst (N := 1) rfl ?_); (try (refine gate_guard (by rfl) ?_; dsimp only)); refine be 1 #[.slice b1 a4.length a9, .slice b0 a3.length a8] 31 ?_; intro c0 hg D7 hbox hb; have a6 := am (hbox); have j9 := bsz HB hg; replace HB := bstep HB hb; clear hb hbox hg; obtain ⟨j4, j3, j2, j1⟩ := cz2 a6)
 go_loopg [29] k (fun kq D9 w' => ∃ (a7 : Int), D9 = .int .i64 a7 ∧ Aside0 (types_Valid.l0 kq a4 (a4.length : Int) a7 a4 a3 = some (r1, r2)) ∧ Aside0 (kq ≤ k) ∧ Aside0 (w'.heap[c0]? = some (.cells #[(.slice b1 a4.length a9), (.slice b0 a3.length a8)] 31 (0, 0))) ∧ Aside0 (Below w.heap.size w w'))
 case atStart => exact ⟨(0), eqs, H', ⟨Nat.le_refl _⟩, ⟨bk a6⟩, ⟨bb HB⟩⟩
 case round =>
  clear H'
  clear c2
  clear n9
  clear n8
  clear q2
  clear n7
  clear n6
  clear n5
  clear n4
  clear j4
  clear j3
  clear j2
  clear j1
  obtain ⟨a7, rfl, HA, m4, a6, HB⟩ := hrel
  cases gk with
  | zero => exact absurd HA.out (by simp [types_Valid.l0])
  | succ k1 =>
   have H := HA.out
   clear HA
   simp only [types_Valid.l0] at H
   by_cases j6 : a7 < (a4.length : Int)
   ·rw [if_pos j6] at H
    have m3 := decide_eq_true j6
    clear j6
    obtain ⟨p4, H⟩ := itn H
    have G3 := decide_eq_true p4
    clear p4
    obtain ⟨p3, H⟩ := itn H
    have G2 := decide_eq_true p3
    clear p3
    obtain ⟨h4, p9, H⟩ := obA H
    by_cases h7 : h4 = 0
    rotate_left
    ·rw [if_neg h7] at H
     have o4 := beq_eq_false_iff_ne.mpr h7
     have o3 := bne_iff_ne.mpr h7
     simp only [Option.some.injEq, Prod.mk.injEq] at H
     obtain ⟨rfl, rfl⟩ := H
     have g4 : 0 ≤ a7 := odt
     have g2 : a7 < (a4.length : Int) := odt
     obtain ⟨h1, h8, h6, m2, e2, e1, e0, d9, e3, e4⟩ := at_T96 b9.out a7 g4 g2
     cases m2
     replace e2 := hxc HB e2
     replace e1 := hxc HB e1
     replace e0 := hxc HB e0
     replace d9 := hxc HB d9
     have n0 := am e4
     have n1 := am e3
     clear e4 e3
     replace g4 := eq_true g4
     replace g2 := eq_true g2
     go_wp2_with (first | ((with_reducible refine gate_dst (N := 5) rfl ?_); (try (refine gate_guard (by rfl) ?_; dsimp only)); refine be 5 #[.string (⟨#[]⟩ : ByteArray), .int .i64 0, .bool false, .slice none 0 0] 96 ?_; intro j8 hg G9 hbox hb; have d1 := am (hbox); have o6 := bsz HB hg; replace HB := bstep HB hb; have e8 := blt a6 hg; have e6 := bgt a6 hg; replace a6 := bkb a6 hb; clear hb hbox hg; have F8 := e6.out; have F4 := e8.out; obtain ⟨C6, C5, C4, C3, t9, t8, t7, t6⟩ := cz4 d1; obtain ⟨C2, C1, t5, t4⟩ := cz2 a6) | ((with_reducible refine gate_callee (f := 83) rfl ?_); refine gl 36 Tryz.func83 #[.agg #[.slice (some h1) a4.length a9, .slice b0 a3.length a8], .int .i64 a7] (h := ?_); (with_reducible refine (types_node.calls k1 _ _ a4 _ _ a3 a7 h4 _ ?b4 ?b3 ?b2 ?b6 p9.out).mono ?_); (case b4 => exact Kd.C_below b9.out (bb HB)); (case b3 => exact c9.out); (case b2 => exact Kd.C_below b8.out (bb HB)); (case b6 => exact c7.out); rintro e G8 ⟨rfl, hb⟩; refine ⟨_, rfl, ?_⟩; replace a6 := am (blk_below (g := c0) (o := .cells #[.slice (some h1) a4.length a9, .slice b0 a3.length a8] 31 (0, 0)) (bkF a6) hb); replace d1 := am (blk_below (g := j8) (o := .cells #[.string ((rd_T96 a4 a7).f0), .int .i64 ((rd_T96 a4 a7).f1), .bool ((rd_T96 a4 a7).f2), .slice h8 ((rd_T96 a4 a7).f3).length h6] 96 (0, 0)) (by (with_reducible repeat (first | refine dN ?_ _ | refine dR ?_ | refine dA ?_ _)); refine blk_put (cs := #[.string ((rd_T96 a4 a7).f0), .int .i64 ((rd_T96 a4 a7).f1), .bool ((rd_T96 a4 a7).f2), .slice none 0 0]) ?_ 3 _ rfl; refine blk_put (cs := #[.string ((rd_T96 a4 a7).f0), .int .i64 ((rd_T96 a4 a7).f1), .bool false, .slice none 0 0]) ?_ 2 _ rfl; refine blk_put (cs := #[.string ((rd_T96 a4 a7).f0), .int .i64 0, .bool false, .slice none 0 0]) ?_ 1 _ rfl; refine blk_put (cs := #[.string (⟨#[]⟩ : ByteArray), .int .i64 0, .bool false, .slice none 0 0]) ?_ 0 _ rfl; (with_reducible repeat (first | refine dN ?_ _ | refine dR ?_ | refine dA ?_ _)); exact d1.out) hb); replace HB := bstep HB hb; (try clear hb); (try clear hb2); (try clear hk); (try clear hi); obtain ⟨C0, A9, A8, A7, t3, t2, t1, t0⟩ := cz4 d1))
     go_ret2
     exact ⟨erf, bb HB⟩
    rw [if_pos h7] at H
    have o4 := beq_iff_eq.mpr h7
    have o3 := bne_eq_false_iff_eq.mpr h7
    clear h7
    have H' := am H
    clear H
    have g4 : 0 ≤ a7 := odt
    have g2 : a7 < (a4.length : Int) := odt
    obtain ⟨h1, h8, h6, m2, e2, e1, e0, d9, e3, e4⟩ := at_T96 b9.out a7 g4 g2
    cases m2
    replace e2 := hxc HB e2
    replace e1 := hxc HB e1
    replace e0 := hxc HB e0
    replace d9 := hxc HB d9
    have n0 := am e4
    have n1 := am e3
    clear e4 e3
    replace g4 := eq_true g4
    replace g2 := eq_true g2
    go_wp2_with (first | ((with_reducible refine gate_dst (N := 5) rfl ?_); (try (refine gate_guard (by rfl) ?_; dsimp only)); refine be 5 #[.string (⟨#[]⟩ : ByteArray), .int .i64 0, .bool false, .slice none 0 0] 96 ?_; intro j8 hg H1 hbox hb; have d1 := am (hbox); have o6 := bsz HB hg; replace HB := bstep HB hb; have e8 := blt a6 hg; have e6 := bgt a6 hg; replace a6 := bkb a6 hb; clear hb hbox hg; have F9 := e6.out; have F5 := e8.out; obtain ⟨D2, D1, D0, C9, v5, v4, v3, v2⟩ := cz4 d1; obtain ⟨C8, C7, v1, v0⟩ := cz2 a6) | ((with_reducible refine gate_callee (f := 83) rfl ?_); refine gl 36 Tryz.func83 #[.agg #[.slice (some h1) a4.length a9, .slice b0 a3.length a8], .int .i64 a7] (h := ?_); (with_reducible refine (types_node.calls k1 _ _ a4 _ _ a3 a7 h4 _ ?b4 ?b3 ?b2 ?b6 p9.out).mono ?_); (case b4 => exact Kd.C_below b9.out (bb HB)); (case b3 => exact c9.out); (case b2 => exact Kd.C_below b8.out (bb HB)); (case b6 => exact c7.out); rintro e H0 ⟨rfl, hb⟩; refine ⟨_, rfl, ?_⟩; replace a6 := am (blk_below (g := c0) (o := .cells #[.slice (some h1) a4.length a9, .slice b0 a3.length a8] 31 (0, 0)) (bkF a6) hb); replace d1 := am (blk_below (g := j8) (o := .cells #[.string ((rd_T96 a4 a7).f0), .int .i64 ((rd_T96 a4 a7).f1), .bool ((rd_T96 a4 a7).f2), .slice h8 ((rd_T96 a4 a7).f3).length h6] 96 (0, 0)) (by (with_reducible repeat (first | refine dN ?_ _ | refine dR ?_ | refine dA ?_ _)); refine blk_put (cs := #[.string ((rd_T96 a4 a7).f0), .int .i64 ((rd_T96 a4 a7).f1), .bool ((rd_T96 a4 a7).f2), .slice none 0 0]) ?_ 3 _ rfl; refine blk_put (cs := #[.string ((rd_T96 a4 a7).f0), .int .i64 ((rd_T96 a4 a7).f1), .bool false, .slice none 0 0]) ?_ 2 _ rfl; refine blk_put (cs := #[.string ((rd_T96 a4 a7).f0), .int .i64 0, .bool false, .slice none 0 0]) ?_ 1 _ rfl; refine blk_put (cs := #[.string (⟨#[]⟩ : ByteArray), .int .i64 0, .bool false, .slice none 0 0]) ?_ 0 _ rfl; (with_reducible repeat (first | refine dN ?_ _ | refine dR ?_ | refine dA ?_ _)); exact d1.out) hb); replace HB := bstep HB hb; (try clear hb); (try clear hb2); (try clear hk); (try clear hi)))
    go_roundg k1
    case measure => have := m4.out; omega
    case rel => exact ⟨(wrap64 (a7 + 1)), eqs, H', ⟨by have := m4.out; omega⟩, ⟨bk a6⟩, ⟨bb HB⟩⟩
   rw [if_neg j6] at H
   have m3 := decide_eq_false j6
   clear j6
   have H' := am H
   clear H
   obtain ⟨m9, m8, m7, m6⟩ := cz2 a6
   go_wp2
   go_loopg [46] k1 (fun kq D8 w' => ∃ (a5 : Int), D8 = .int .i64 a5 ∧ Aside0 (types_Valid.l1 kq a3 (a3.length : Int) a5 a4 a3 = some (r1, r2)) ∧ Aside0 (kq ≤ k1) ∧ Aside0 (w'.heap[c0]? = some (.cells #[(.slice b1 a4.length a9), (.slice b0 a3.length a8)] 31 (0, 0))) ∧ Aside0 (Below w.heap.size w w'))
   case atStart => exact ⟨(0), eqs, H', ⟨Nat.le_refl _⟩, ⟨bk a6⟩, ⟨bb HB⟩⟩
   case round =>
    clear H'
    clear m3
    clear m9
    clear m8
    clear m7
    clear m6
    obtain ⟨a5, rfl, HA, p6, a6, HB⟩ := hrel
    cases gk with
    | zero => exact absurd HA.out (by simp [types_Valid.l1])
    | succ k2 =>
     have H := HA.out
     clear HA
     simp only [types_Valid.l1] at H
     by_cases j5 : a5 < (a3.length : Int)
     rotate_left
     ·rw [if_neg j5] at H
      have o2 := decide_eq_false j5
      clear j5
      simp only [Option.some.injEq, Prod.mk.injEq] at H
      obtain ⟨rfl, rfl⟩ := H
      go_wp2
      go_ret2
      exact ⟨erf, bb HB⟩
     rw [if_pos j5] at H
     have o2 := decide_eq_true j5
     clear j5
     obtain ⟨p2, H⟩ := itn H
     have G1 := decide_eq_true p2
     clear p2
     obtain ⟨p1, H⟩ := itn H
     have G0 := decide_eq_true p1
     clear p1
     obtain ⟨h3, p8, H⟩ := obA H
     by_cases h5 : h3 = 0
     rotate_left
     ·rw [if_neg h5] at H
      have o1 := beq_eq_false_iff_ne.mpr h5
      have o0 := bne_iff_ne.mpr h5
      simp only [Option.some.injEq, Prod.mk.injEq] at H
      obtain ⟨rfl, rfl⟩ := H
      have g3 : 0 ≤ a5 := odt
      have g1 : a5 < (a3.length : Int) := odt
      obtain ⟨h0, m1, d8, d7, d6, d5, d4, d3, d2⟩ := at_T101 b8.out a5 g3 g1
      cases m1
      replace d8 := hxc HB d8
      replace d7 := hxc HB d7
      replace d6 := hxc HB d6
      replace d5 := hxc HB d5
      replace d4 := hxc HB d4
      replace d3 := hxc HB d3
      replace d2 := hxc HB d2
      replace g3 := eq_true g3
      replace g1 := eq_true g1
      go_wp2_with (first | ((with_reducible refine gate_dst (N := 8) rfl ?_); (try (refine gate_guard (by rfl) ?_; dsimp only)); refine be 8 #[.string (⟨#[]⟩ : ByteArray), .int .i64 0, .int .i64 0, .int .i64 0, .int .i64 0, .int .i64 0, .int .i64 0] 101 ?_; intro j7 hg G5 hbox hb; have d0 := am (hbox); have o5 := bsz HB hg; replace HB := bstep HB hb; have e7 := blt a6 hg; have e5 := bgt a6 hg; replace a6 := bkb a6 hb; clear hb hbox hg; have F6 := e5.out; have F2 := e7.out; obtain ⟨x9, x8, x7, x6, x5, x4, x3, s0, r9, r8, r7, r6, r5, r4⟩ := cz7 d0; obtain ⟨x2, x1, r3, r0⟩ := cz2 a6) | ((with_reducible refine gate_callee (f := 84) rfl ?_); refine gl 53 Tryz.func84 #[.agg #[.slice b1 a4.length a9, .slice (some h0) a3.length a8], .int .i64 a5] (h := ?_); (with_reducible refine (types_edge.calls k2 _ _ a4 _ _ a3 a5 h3 _ ?b4 ?b3 ?b2 ?b6 p8.out).mono ?_); (case b4 => exact Kd.C_below b9.out (bb HB)); (case b3 => exact c9.out); (case b2 => exact Kd.C_below b8.out (bb HB)); (case b6 => exact c7.out); rintro e G4 ⟨rfl, hb⟩; refine ⟨_, rfl, ?_⟩; replace a6 := am (blk_below (g := c0) (o := .cells #[.slice b1 a4.length a9, .slice (some h0) a3.length a8] 31 (0, 0)) (bkF a6) hb); replace d0 := am (blk_below (g := j7) (o := .cells #[.string ((rd_T101 a3 a5).f0), .int .i64 ((rd_T101 a3 a5).f1), .int .i64 ((rd_T101 a3 a5).f2), .int .i64 ((rd_T101 a3 a5).f3), .int .i64 ((rd_T101 a3 a5).f4), .int .i64 ((rd_T101 a3 a5).f5), .int .i64 ((rd_T101 a3 a5).f6)] 101 (0, 0)) (by (with_reducible repeat (first | refine dN ?_ _ | refine dR ?_ | refine dA ?_ _)); refine blk_put (cs := #[.string ((rd_T101 a3 a5).f0), .int .i64 ((rd_T101 a3 a5).f1), .int .i64 ((rd_T101 a3 a5).f2), .int .i64 ((rd_T101 a3 a5).f3), .int .i64 ((rd_T101 a3 a5).f4), .int .i64 ((rd_T101 a3 a5).f5), .int .i64 0]) ?_ 6 _ rfl; refine blk_put (cs := #[.string ((rd_T101 a3 a5).f0), .int .i64 ((rd_T101 a3 a5).f1), .int .i64 ((rd_T101 a3 a5).f2), .int .i64 ((rd_T101 a3 a5).f3), .int .i64 ((rd_T101 a3 a5).f4), .int .i64 0, .int .i64 0]) ?_ 5 _ rfl; refine blk_put (cs := #[.string ((rd_T101 a3 a5).f0), .int .i64 ((rd_T101 a3 a5).f1), .int .i64 ((rd_T101 a3 a5).f2), .int .i64 ((rd_T101 a3 a5).f3), .int .i64 0, .int .i64 0, .int .i64 0]) ?_ 4 _ rfl; refine blk_put (cs := #[.string ((rd_T101 a3 a5).f0), .int .i64 ((rd_T101 a3 a5).f1), .int .i64 ((rd_T101 a3 a5).f2), .int .i64 0, .int .i64 0, .int .i64 0, .int .i64 0]) ?_ 3 _ rfl; refine blk_put (cs := #[.string ((rd_T101 a3 a5).f0), .int .i64 ((rd_T101 a3 a5).f1), .int .i64 0, .int .i64 0, .int .i64 0, .int .i64 0, .int .i64 0]) ?_ 2 _ rfl; refine blk_put (cs := #[.string ((rd_T101 a3 a5).f0), .int .i64 0, .int .i64 0, .int .i64 0, .int .i64 0, .int .i64 0, .int .i64 0]) ?_ 1 _ rfl; refine blk_put (cs := #[.string (⟨#[]⟩ : ByteArray), .int .i64 0, .int .i64 0, .int .i64 0, .int .i64 0, .int .i64 0, .int .i64 0]) ?_ 0 _ rfl; (with_reducible repeat (first | refine dN ?_ _ | refine dR ?_ | refine dA ?_ _)); exact d0.out) hb); replace HB := bstep HB hb; (try clear hb); (try clear hb2); (try clear hk); (try clear hi); obtain ⟨x0, w8, w5, w4, w2, w1, w0, q9, q8, q7, q6, q5, q4, q3⟩ := cz7 d0))
      go_ret2
      exact ⟨erf, bb HB⟩
     rw [if_pos h5] at H
     have o1 := beq_iff_eq.mpr h5
     have o0 := bne_eq_false_iff_eq.mpr h5
     clear h5
     have H' := am H
     clear H
     have g3 : 0 ≤ a5 := odt
     have g1 : a5 < (a3.length : Int) := odt
     obtain ⟨h0, m1, d8, d7, d6, d5, d4, d3, d2⟩ := at_T101 b8.out a5 g3 g1
     cases m1
     replace d8 := hxc HB d8
     replace d7 := hxc HB d7
     replace d6 := hxc HB d6
     replace d5 := hxc HB d5
     replace d4 := hxc HB d4
     replace d3 := hxc HB d3
     replace d2 := hxc HB d2
     replace g3 := eq_true g3
     replace g1 := eq_true g1
     go_wp2_with (first | ((with_reducible refine gate_dst (N := 8) rfl ?_); (try (refine gate_guard (by rfl) ?_; dsimp only)); refine be 8 #[.string (⟨#[]⟩ : ByteArray), .int .i64 0, .int .i64 0, .int .i64 0, .int .i64 0, .int .i64 0, .int .i64 0] 101 ?_; intro j7 hg G7 hbox hb; have d0 := am (hbox); have o5 := bsz HB hg; replace HB := bstep HB hb; have e7 := blt a6 hg; have e5 := bgt a6 hg; replace a6 := bkb a6 hb; clear hb hbox hg; have F7 := e5.out; have F3 := e7.out; obtain ⟨A6, A4, A2, A0, y9, y8, y7, s9, s8, s7, s6, s5, s4, s3⟩ := cz7 d0; obtain ⟨y6, y5, s2, s1⟩ := cz2 a6) | ((with_reducible refine gate_callee (f := 84) rfl ?_); refine gl 53 Tryz.func84 #[.agg #[.slice b1 a4.length a9, .slice (some h0) a3.length a8], .int .i64 a5] (h := ?_); (with_reducible refine (types_edge.calls k2 _ _ a4 _ _ a3 a5 h3 _ ?b4 ?b3 ?b2 ?b6 p8.out).mono ?_); (case b4 => exact Kd.C_below b9.out (bb HB)); (case b3 => exact c9.out); (case b2 => exact Kd.C_below b8.out (bb HB)); (case b6 => exact c7.out); rintro e G6 ⟨rfl, hb⟩; refine ⟨_, rfl, ?_⟩; replace a6 := am (blk_below (g := c0) (o := .cells #[.slice b1 a4.length a9, .slice (some h0) a3.length a8] 31 (0, 0)) (bkF a6) hb); replace d0 := am (blk_below (g := j7) (o := .cells #[.string ((rd_T101 a3 a5).f0), .int .i64 ((rd_T101 a3 a5).f1), .int .i64 ((rd_T101 a3 a5).f2), .int .i64 ((rd_T101 a3 a5).f3), .int .i64 ((rd_T101 a3 a5).f4), .int .i64 ((rd_T101 a3 a5).f5), .int .i64 ((rd_T101 a3 a5).f6)] 101 (0, 0)) (by (with_reducible repeat (first | refine dN ?_ _ | refine dR ?_ | refine dA ?_ _)); refine blk_put (cs := #[.string ((rd_T101 a3 a5).f0), .int .i64 ((rd_T101 a3 a5).f1), .int .i64 ((rd_T101 a3 a5).f2), .int .i64 ((rd_T101 a3 a5).f3), .int .i64 ((rd_T101 a3 a5).f4), .int .i64 ((rd_T101 a3 a5).f5), .int .i64 0]) ?_ 6 _ rfl; refine blk_put (cs := #[.string ((rd_T101 a3 a5).f0), .int .i64 ((rd_T101 a3 a5).f1), .int .i64 ((rd_T101 a3 a5).f2), .int .i64 ((rd_T101 a3 a5).f3), .int .i64 ((rd_T101 a3 a5).f4), .int .i64 0, .int .i64 0]) ?_ 5 _ rfl; refine blk_put (cs := #[.string ((rd_T101 a3 a5).f0), .int .i64 ((rd_T101 a3 a5).f1), .int .i64 ((rd_T101 a3 a5).f2), .int .i64 ((rd_T101 a3 a5).f3), .int .i64 0, .int .i64 0, .int .i64 0]) ?_ 4 _ rfl; refine blk_put (cs := #[.string ((rd_T101 a3 a5).f0), .int .i64 ((rd_T101 a3 a5).f1), .int .i64 ((rd_T101 a3 a5).f2), .int .i64 0, .int .i64 0, .int .i64 0, .int .i64 0]) ?_ 3 _ rfl; refine blk_put (cs := #[.string ((rd_T101 a3 a5).f0), .int .i64 ((rd_T101 a3 a5).f1), .int .i64 0, .int .i64 0, .int .i64 0, .int .i64 0, .int .i64 0]) ?_ 2 _ rfl; refine blk_put (cs := #[.string ((rd_T101 a3 a5).f0), .int .i64 0, .int .i64 0, .int .i64 0, .int .i64 0, .int .i64 0, .int .i64 0]) ?_ 1 _ rfl; refine blk_put (cs := #[.string (⟨#[]⟩ : ByteArray), .int .i64 0, .int .i64 0, .int .i64 0, .int .i64 0, .int .i64 0, .int .i64 0]) ?_ 0 _ rfl; (with_reducible repeat (first | refine dN ?_ _ | refine dR ?_ | refine dA ?_ _)); exact d0.out) hb); replace HB := bstep HB hb; (try clear hb); (try clear hb2); (try clear hk); (try clear hi)))
     go_roundg k2
     case measure => have := m4.out; have := p6.out; omega
     case rel => exact ⟨(wrap64 (a5 + 1)), eqs, H', ⟨by have := m4.out; have := p6.out; omega⟩, ⟨bk a6⟩, ⟨bb HB⟩⟩
def types_given.f (k : Nat) (a4 : List (S96)) (a3 : List (S101)) (l1 : List Int) : Option (Int) := (types_Valid.f k a4 a3).bind fun g9 => (if g9.2 = 0 then ((any_given.f l1 a4).bind fun g0 => (if g0 = true then (some 6) else (some 0))) else (some g9.2))
theorem types_given.mono : ∀ a0 a1 a2 k, LeO (types_given.f k a0 a1 a2) (types_given.f (k + 1) a0 a1 a2) := by
 intro a0 a1 a2 k
 unfold types_given.f
 repeat' first
   | (with_reducible exact types_Valid.mono _ _ _)
   | (with_reducible exact LeO.refl _)
   | (with_reducible exact LeO.none _)
   | (with_reducible refine LeO.ite ?_ ?_)
   | (with_reducible refine LeO.bind ?_ (fun _ => ?_))
theorem types_given.calls (k : Nat) (b1 : Option Addr) (a9 : Nat) (a4 : List (S96)) (b0 : Option Addr) (a8 : Nat) (a3 : List (S101)) (A1 : Option Addr) (c1 : Nat) (l1 : List Int) (r : Int) (w : World) (g6 : Kd.C k96 w b1 a4.length a4) (g8 : a4.length ≤ a9) (g5 : Kd.C k101 w b0 a3.length a3) (g7 : a3.length ≤ a8) (o9 : Kd.C (Kd.int .i64) w A1 l1.length l1) (p0 : l1.length ≤ c1) (h : types_given.f k a4 a3 l1 = some r) :
  Calls Tryz.prog 79 #[.agg #[.slice b1 a4.length a9, .slice b0 a3.length a8], .slice A1 l1.length c1] w fun e w' => e = .returned (.int .i64 r) ∧ Below w.heap.size w w' := by
 have hu31 := Tryz.underlying31
 have b9 := am g6
 have c9 := am g8
 clear g6 g8
 have b8 := am g5
 have c7 := am g7
 clear g5 g7
 have p5 := am o9
 have p7 := am p0
 clear o9 p0
 have HB := am (Below.refl w.heap.size w)
 have H : ((types_Valid.f k a4 a3).bind fun g9 => (if g9.2 = 0 then ((any_given.f l1 a4).bind fun g0 => (if g0 = true then (some 6) else (some 0))) else (some g9.2))) = some r := h
 clear h
 obtain ⟨⟨m0, h2⟩, A3, H⟩ := obA H
 replace H : (if h2 = 0 then ((any_given.f l1 a4).bind fun g0 => (if g0 = true then (some 6) else (some 0))) else (some h2)) = some r := H
 by_cases c4 : h2 = 0
 rotate_left
 ·rw [if_neg c4] at H
  have q1 := beq_eq_false_iff_ne.mpr c4
  have q0 := bne_iff_ne.mpr c4
  obtain rfl := Option.some.inj H
  go_enter Tryz.func79, Tryz.ntmps79
  go_wp2_with (first | ((with_reducible refine gate_dst (N := 2) rfl ?_); refine be 2 #[.slice b1 a4.length a9, .slice b0 a3.length a8] 31 ?_; intro e9 hg H3 hbox hb; have b5 := am (hbox); have m5 := bsz HB hg; replace HB := bstep HB hb; clear hb hbox hg; obtain ⟨D4, D3, v7, v6⟩ := cz2 b5) | ((with_reducible refine gate_callee (f := 57) rfl ?_); refine gl 9 Tryz.func57 #[.agg #[.slice b1 a4.length a9, .slice b0 a3.length a8]] (h := ?_); (with_reducible refine (types_Valid.calls k _ _ a4 _ _ a3 m0 h2 _ ?b4 ?b3 ?b2 ?b6 A3.out).mono ?_); (case b4 => exact cb b9 HB); (case b3 => exact c9.out); (case b2 => exact cb b8 HB); (case b6 => exact c7.out); rintro e H2 ⟨rfl, hb⟩; refine ⟨_, rfl, ?_⟩; replace b5 := bkb b5 hb; replace HB := bstep HB hb; (try clear hb); (try clear hb2); (try clear hk); (try clear hi)))
  go_ret
  exact ⟨erf, bb HB⟩
 rw [if_pos c4] at H
 have q1 := beq_iff_eq.mpr c4
 have q0 := bne_eq_false_iff_eq.mpr c4
 clear c4
 obtain ⟨g0, A5, H⟩ := obA H
 by_cases c6 : g0 = true
 ·subst c6
  replace H := ift H
  obtain rfl := Option.some.inj H
  go_enter Tryz.func79, Tryz.ntmps79
  go_wp2_with (first | ((with_reducible refine gate_dst (N := 2) rfl ?_); refine be 2 #[.slice b1 a4.length a9, .slice b0 a3.length a8] 31 ?_; intro e9 hg w7 hbox hb; have b5 := am (hbox); have m5 := bsz HB hg; replace HB := bstep HB hb; clear hb hbox hg; obtain ⟨E7, E6, E1, E0⟩ := cz2 b5) | ((with_reducible refine gate_callee (f := 57) rfl ?_); refine gl 9 Tryz.func57 #[.agg #[.slice b1 a4.length a9, .slice b0 a3.length a8]] (h := ?_); (with_reducible refine (types_Valid.calls k _ _ a4 _ _ a3 m0 h2 _ ?b4 ?b3 ?b2 ?b6 A3.out).mono ?_); (case b4 => exact cb b9 HB); (case b3 => exact c9.out); (case b2 => exact cb b8 HB); (case b6 => exact c7.out); rintro e w9 ⟨rfl, hb⟩; refine ⟨_, rfl, ?_⟩; replace b5 := bkb b5 hb; replace HB := bstep HB hb; (try clear hb); (try clear hb2); (try clear hk); (try clear hi)) | ((with_reducible refine gate_callee (f := 68) rfl ?_); refine gl 17 Tryz.func68 #[.slice A1 l1.length c1, .func (.func 96) #[] #[.pointer (some ⟨e9, 0, none⟩)]] (h := ?_); (with_reducible refine (any_given.calls _ _ l1 e9 b1 a9 a4 (.slice b0 a3.length a8) true _ ?b4 ?b3 ?b2 A5.out).mono ?_); (case b4 => exact cb p5 HB); (case b3 => exact p7.out); (case b2 => exact (bk b5)); rintro e H6 ⟨rfl, hb⟩; refine ⟨_, rfl, ?_⟩; replace b5 := bkb b5 hb; replace HB := bstep HB hb; (try clear hb); (try clear hb2); (try clear hk); (try clear hi)))
  go_ret
  exact ⟨erf, bb HB⟩
 ·replace c6 := Bool.eq_false_iff.mpr c6
  subst c6
  replace H := iff_ H
  obtain rfl := Option.some.inj H
  go_enter Tryz.func79, Tryz.ntmps79
  go_wp2_with (first | ((with_reducible refine gate_dst (N := 2) rfl ?_); refine be 2 #[.slice b1 a4.length a9, .slice b0 a3.length a8] 31 ?_; intro e9 hg D7 hbox hb; have b5 := am (hbox); have m5 := bsz HB hg; replace HB := bstep HB hb; clear hb hbox hg; obtain ⟨j4, j3, j2, j1⟩ := cz2 b5) | ((with_reducible refine gate_callee (f := 57) rfl ?_); refine gl 9 Tryz.func57 #[.agg #[.slice b1 a4.length a9, .slice b0 a3.length a8]] (h := ?_); (with_reducible refine (types_Valid.calls k _ _ a4 _ _ a3 m0 h2 _ ?b4 ?b3 ?b2 ?b6 A3.out).mono ?_); (case b4 => exact cb b9 HB); (case b3 => exact c9.out); (case b2 => exact cb b8 HB); (case b6 => exact c7.out); rintro e H5 ⟨rfl, hb⟩; refine ⟨_, rfl, ?_⟩; replace b5 := bkb b5 hb; replace HB := bstep HB hb; (try clear hb); (try clear hb2); (try clear hk); (try clear hi)) | ((with_reducible refine gate_callee (f := 68) rfl ?_); refine gl 17 Tryz.func68 #[.slice A1 l1.length c1, .func (.func 96) #[] #[.pointer (some ⟨e9, 0, none⟩)]] (h := ?_); (with_reducible refine (any_given.calls _ _ l1 e9 b1 a9 a4 (.slice b0 a3.length a8) false _ ?b4 ?b3 ?b2 A5.out).mono ?_); (case b4 => exact cb p5 HB); (case b3 => exact p7.out); (case b2 => exact (bk b5)); rintro e H4 ⟨rfl, hb⟩; refine ⟨_, rfl, ?_⟩; replace b5 := bkb b5 hb; replace HB := bstep HB hb; (try clear hb); (try clear hb2); (try clear hk); (try clear hi)))
  go_ret
  exact ⟨erf, bb HB⟩
end Go.Proofs.YtfpianecohobjaaGreat.P
