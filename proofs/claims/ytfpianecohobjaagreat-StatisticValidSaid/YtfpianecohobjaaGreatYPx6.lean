/- StatisticOf: a part of its proof. No condition. -/
import Derived.Test.YtfpianecohobjaaGreatYPx0
import Derived.Test.YtfpianecohobjaaGreatYMc
import Derived.Test.YtfpianecohobjaaGreatYH0
namespace Go.Proofs.YtfpianecohobjaaGreat.P
open Go.RowKit Go.Proofs.YtfpianecohobjaaGreatW.PrintWords Go.Proofs.YtfpianecohobjaaGreatW.PrintLast Go.Proofs.YtfpianecohobjaaGreatW.PrintMore
set_option linter.unusedVariables false
set_option linter.unusedSimpArgs false
mutual
def types_node.j0 : Nat → Int → Bool → List (S96) → List (S101) → ByteArray → Int → Bool → List (S99) → Option (Int)
 | 0, _, _, _, _, _, _, _, _ => none
 | k + 1, x1, G6, p3, p2, w7, w6, w5, h8 => if G6 = true then (some 6) else (if (h8.length : Int) > 4 then (some 3) else ((types_attrs.f k p3 p2 x1).bind fun a6 => (if (a6.length : Int) > 8 then (some 3) else (types_node.l0 k a6 (wrap64 ((a6.length : Int) - (h8.length : Int)))))))
def types_node.l0 : Nat → List (S99) → Int → Option (Int)
 | 0, _, _ => none
 | k + 1, x6, x7 => if x7 < (x6.length : Int) then (if 0 ≤ x7 then (if x7 ≤ (x6.length : Int) then ((types_attribute.f k ((rd_T99 x6 x7).f0) ((rd_T99 x6 x7).f1) ((rd_T99 x6 x7).f2) ((rd_T99 x6 x7).f3) (x6.take (x7 : Int).toNat)).bind fun e6 => (if e6 = 0 then (types_node.l0 k x6 (wrap64 (x7 + 1))) else (some e6))) else (none)) else (none)) else (some 0)
end
def types_node.f (k : Nat) (a3 : List (S96)) (a9 : List (S101)) (a1 : Int) : Option (Int) := if 0 ≤ a1 then (if a1 < (a3.length : Int) then ((token_IsName.f k ((rd_T96 a3 a1).f0)).bind fun h4 => (if h4 = true then (if a1 ≤ (a3.length : Int) then ((any_node.f (a3.take (a1 : Int).toNat) ((rd_T96 a3 a1).f0)).bind fun g2 => (if g2 = true then (some 5) else (if ((rd_T96 a3 a1).f1) < (-1) then (types_node.j0 k a1 true a3 a9 ((rd_T96 a3 a1).f0) ((rd_T96 a3 a1).f1) ((rd_T96 a3 a1).f2) ((rd_T96 a3 a1).f3)) else (types_node.j0 k a1 (decide (((rd_T96 a3 a1).f1) ≥ a1)) a3 a9 ((rd_T96 a3 a1).f0) ((rd_T96 a3 a1).f1) ((rd_T96 a3 a1).f2) ((rd_T96 a3 a1).f3))))) else (none)) else (some 2))) else (none)) else (none)
theorem types_node.mono_l : ∀ k, (∀ y0 y1 y2 y3 y4 y5 y6 y7, LeO (types_node.j0 k y0 y1 y2 y3 y4 y5 y6 y7) (types_node.j0 (k + 1) y0 y1 y2 y3 y4 y5 y6 y7)) ∧ (∀ y0 y1, LeO (types_node.l0 k y0 y1) (types_node.l0 (k + 1) y0 y1))
 | 0 => ⟨fun _ _ _ _ _ _ _ _ r h => by simp [types_node.j0] at h, fun _ _ r h => by simp [types_node.l0] at h⟩
 | k + 1 => by
  obtain ⟨ih0, ih1⟩ := types_node.mono_l k
  refine ⟨?_, ?_⟩
  ·intro y0 y1 y2 y3 y4 y5 y6 y7
   unfold types_node.j0
   repeat' first
   | (with_reducible exact ih0 _ _ _ _ _ _ _ _)
   | (with_reducible exact ih1 _ _)
   | (with_reducible exact token_IsName.mono _ _)
   | (with_reducible exact types_attribute.mono _ _ _ _ _ _)
   | (with_reducible exact types_attrs.mono _ _ _ _)
   | (with_reducible exact LeO.refl _)
   | (with_reducible exact LeO.none _)
   | (with_reducible refine LeO.ite ?_ ?_)
   | (with_reducible refine LeO.bind ?_ (fun _ => ?_))
  ·intro y0 y1
   unfold types_node.l0
   repeat' first
   | (with_reducible exact ih0 _ _ _ _ _ _ _ _)
   | (with_reducible exact ih1 _ _)
   | (with_reducible exact token_IsName.mono _ _)
   | (with_reducible exact types_attribute.mono _ _ _ _ _ _)
   | (with_reducible exact types_attrs.mono _ _ _ _)
   | (with_reducible exact LeO.refl _)
   | (with_reducible exact LeO.none _)
   | (with_reducible refine LeO.ite ?_ ?_)
   | (with_reducible refine LeO.bind ?_ (fun _ => ?_))
theorem types_node.mono : ∀ a0 a1 a2 k, LeO (types_node.f k a0 a1 a2) (types_node.f (k + 1) a0 a1 a2) := by
 intro a0 a1 a2 k
 obtain ⟨ih0, ih1⟩ := types_node.mono_l k
 unfold types_node.f
 repeat' first
   | (with_reducible exact ih0 _ _ _ _ _ _ _ _)
   | (with_reducible exact ih1 _ _)
   | (with_reducible exact token_IsName.mono _ _)
   | (with_reducible exact types_attribute.mono _ _ _ _ _ _)
   | (with_reducible exact types_attrs.mono _ _ _ _)
   | (with_reducible exact LeO.refl _)
   | (with_reducible exact LeO.none _)
   | (with_reducible refine LeO.ite ?_ ?_)
   | (with_reducible refine LeO.bind ?_ (fun _ => ?_))
def types_node.T16 : Bool × List (List Nat × List Nat) := (true, [([], []), ([], []), ([0, 1], [0, 1]), ([2], [2]), ([], []), ([], []), ([4, 5], [4, 5]), ([3, 6], [3, 6]), ([7, 7, 0, 1, 2, 3, 4, 5, 6, 7], [7])])
def types_node.B16 : List Nat := [0, 0, 3, 7, 0, 0, 48, 127, 255]
theorem types_node.tab16 : rtab .any (opsOf Tryz.f83 16) = types_node.T16 := by kernel_rfl
theorem types_node.bits16 : waitsOk types_node.T16.2 types_node.B16 = true := by kernel_rfl
set_option maxHeartbeats 8000000 in
set_option maxRecDepth 100000 in
theorem types_node.calls (k : Nat) (h7 : Option Addr) (b2 : Nat) (a3 : List (S96)) (d4 : Option Addr) (d2 : Nat) (a9 : List (S101)) (a1 : Int) (r : Int) (w : World) (n7 : Kd.C k96 w h7 a3.length a3) (o3 : a3.length ≤ b2) (n6 : Kd.C k101 w d4 a9.length a9) (o2 : a9.length ≤ d2) (h : types_node.f k a3 a9 a1 = some r) :
  Calls Tryz.prog 83 #[.agg #[.slice h7 a3.length b2, .slice d4 a9.length d2], .int .i64 a1] w fun e w' => e = .returned (.int .i64 r) ∧ Below w.heap.size w w' := by
 have hu31 := Tryz.underlying31
 have hu96 := Tryz.underlying96
 have hu99 := Tryz.underlying99
 have e9 := Aside0.mk n7
 have h1 := Aside0.mk o3
 clear n7 o3
 have p0 := Aside0.mk n6
 have p1 := Aside0.mk o2
 clear n6 o2
 have HB := Aside0.mk (Below.refl w.heap.size w)
 have H : (if 0 ≤ a1 then (if a1 < (a3.length : Int) then ((token_IsName.f k ((rd_T96 a3 a1).f0)).bind fun h4 => (if h4 = true then (if a1 ≤ (a3.length : Int) then ((any_node.f (a3.take (a1 : Int).toNat) ((rd_T96 a3 a1).f0)).bind fun g2 => (if g2 = true then (some 5) else (if ((rd_T96 a3 a1).f1) < (-1) then (types_node.j0 k a1 true a3 a9 ((rd_T96 a3 a1).f0) ((rd_T96 a3 a1).f1) ((rd_T96 a3 a1).f2) ((rd_T96 a3 a1).f3)) else (types_node.j0 k a1 (decide (((rd_T96 a3 a1).f1) ≥ a1)) a3 a9 ((rd_T96 a3 a1).f0) ((rd_T96 a3 a1).f1) ((rd_T96 a3 a1).f2) ((rd_T96 a3 a1).f3))))) else (none)) else (some 2))) else (none)) else (none)) = some r := h
 clear h
 obtain ⟨c3, H⟩ := itn H
 have w3 := decide_eq_true c3
 clear c3
 obtain ⟨c4, H⟩ := itn H
 have w2 := decide_eq_true c4
 clear c4
 obtain ⟨h4, A5, H⟩ := obA H
 by_cases c6 : h4 = true
 rotate_left
 ·replace c6 := Bool.eq_false_iff.mpr c6
  subst c6
  replace H := iff_ H
  obtain rfl := Option.some.inj H
  go_enter Tryz.func83, Tryz.ntmps83
  go_wp2_with (first | ((with_reducible refine gate_dst (N := 2) rfl ?_); refine be 2 #[.slice h7 a3.length b2, .slice d4 a9.length d2] 31 ?_; intro c2 hg J2 hbox hb; have a5 := Aside0.mk (hbox); have h3 := bsz HB hg; replace HB := bstep HB hb; clear hb hbox hg; obtain ⟨D9, D8, x5, x4⟩ := cz2 a5; have d8 : 0 ≤ a1 := odt; have d7 : a1 < (a3.length : Int) := odt; obtain ⟨b3, b6, b5, h5, c0, b9, b8, b7, c5, c7⟩ := at_T96 e9.out a1 d8 d7; cases h5; replace c0 := hxc HB c0; replace b9 := hxc HB b9; replace b8 := hxc HB b8; replace b7 := hxc HB b7; have j4 := Aside0.mk c7; have j5 := Aside0.mk c5; clear c7 c5; replace d8 := eq_true d8; replace d7 := eq_true d7) | ((with_reducible refine gate_dst (N := 5) rfl ?_); refine be 5 #[.string (⟨#[]⟩ : ByteArray), .int .i64 0, .bool false, .slice none 0 0] 96 ?_; intro b4 hg J1 hbox hb; have a7 := Aside0.mk (hbox); have h2 := bsz HB hg; replace HB := bstep HB hb; have b1 := blt a5 hg; have b0 := bgt a5 hg; replace a5 := bkb a5 hb; clear hb hbox hg; have H6 := b0.out; have G8 := b1.out; obtain ⟨D7, D6, D5, D4, x2, x0, w9, w8⟩ := cz4 a7) | ((with_reducible refine gate_callee (f := 100) rfl ?_); refine gl 17 Tryz.func100 #[.string ((rd_T96 a3 a1).f0)] (h := ?_); (with_reducible refine (token_IsName.calls k ((rd_T96 a3 a1).f0) false _ A5.out).mono ?_); rintro e J0 ⟨rfl, hb⟩; refine ⟨_, rfl, ?_⟩; replace a5 := Aside0.mk (blk_below (g := c2) (o := .cells #[.slice (some b3) a3.length b2, .slice d4 a9.length d2] 31 (0, 0)) (bkF a5) hb); replace a7 := Aside0.mk (blk_below (g := b4) (o := .cells #[.string ((rd_T96 a3 a1).f0), .int .i64 ((rd_T96 a3 a1).f1), .bool ((rd_T96 a3 a1).f2), .slice b6 ((rd_T96 a3 a1).f3).length b5] 96 (0, 0)) (by (with_reducible repeat (first | refine dN ?_ _ | refine dR ?_ | refine dA ?_ _)); refine blk_put (cs := #[.string ((rd_T96 a3 a1).f0), .int .i64 ((rd_T96 a3 a1).f1), .bool ((rd_T96 a3 a1).f2), .slice none 0 0]) ?_ 3 _ rfl; refine blk_put (cs := #[.string ((rd_T96 a3 a1).f0), .int .i64 ((rd_T96 a3 a1).f1), .bool false, .slice none 0 0]) ?_ 2 _ rfl; refine blk_put (cs := #[.string ((rd_T96 a3 a1).f0), .int .i64 0, .bool false, .slice none 0 0]) ?_ 1 _ rfl; refine blk_put (cs := #[.string (⟨#[]⟩ : ByteArray), .int .i64 0, .bool false, .slice none 0 0]) ?_ 0 _ rfl; (with_reducible repeat (first | refine dN ?_ _ | refine dR ?_ | refine dA ?_ _)); exact a7.out) hb); replace HB := bstep HB hb; (try clear hb); (try clear hb2); (try clear hk); (try clear hi)))
  go_ret
  exact ⟨erf, bb HB⟩
 subst c6
 replace H := ift H
 have w1 := eq_true (odt : 0 ≤ a1)
 obtain ⟨c8, H⟩ := itn H
 have w0 := eq_true c8
 have v9 := decide_eq_true c8
 clear c8
 obtain ⟨e5, g5⟩ : ∃ y_ : List (S96), y_ = (a3.take (a1 : Int).toNat) := ⟨_, rfl⟩
 replace H : ((any_node.f e5 ((rd_T96 a3 a1).f0)).bind fun g2 => (if g2 = true then (some 5) else (if ((rd_T96 a3 a1).f1) < (-1) then (types_node.j0 k a1 true a3 a9 ((rd_T96 a3 a1).f0) ((rd_T96 a3 a1).f1) ((rd_T96 a3 a1).f2) ((rd_T96 a3 a1).f3)) else (types_node.j0 k a1 (decide (((rd_T96 a3 a1).f1) ≥ a1)) a3 a9 ((rd_T96 a3 a1).f0) ((rd_T96 a3 a1).f1) ((rd_T96 a3 a1).f2) ((rd_T96 a3 a1).f3))))) = some r := by first | (rw [g5]; with_reducible exact H) | (have H2_ := (Option.bind_some _ _).symm.trans H; rw [g5]; with_reducible exact H2_) | (have H2_ := (Option.bind_some _ _).symm.trans H; with_reducible exact H2_) | with_reducible exact H | (rw [g5]; exact H) | exact H
 have g9 := Aside0.mk g5
 clear g5
 obtain ⟨g2, A9, H⟩ := obA H
 by_cases o9 : g2 = true
 ·subst o9
  replace H := ift H
  obtain rfl := Option.some.inj H
  go_enter Tryz.func83, Tryz.ntmps83
  go_wp2_with (first | ((with_reducible refine gate_dst (N := 2) rfl ?_); refine be 2 #[.slice h7 a3.length b2, .slice d4 a9.length d2] 31 ?_; intro c2 hg L6 hbox hb; have a5 := Aside0.mk (hbox); have h3 := bsz HB hg; replace HB := bstep HB hb; clear hb hbox hg; obtain ⟨G5, G4, D3, D2⟩ := cz2 a5; have d8 : 0 ≤ a1 := odt; have d7 : a1 < (a3.length : Int) := odt; obtain ⟨b3, b6, b5, h5, c0, b9, b8, b7, c5, c7⟩ := at_T96 e9.out a1 d8 d7; cases h5; replace c0 := hxc HB c0; replace b9 := hxc HB b9; replace b8 := hxc HB b8; replace b7 := hxc HB b7; have j4 := Aside0.mk c7; have j5 := Aside0.mk c5; clear c7 c5; replace d8 := eq_true d8; replace d7 := eq_true d7) | ((with_reducible refine gate_dst (N := 5) rfl ?_); refine be 5 #[.string (⟨#[]⟩ : ByteArray), .int .i64 0, .bool false, .slice none 0 0] 96 ?_; intro b4 hg L5 hbox hb; have a7 := Aside0.mk (hbox); have h2 := bsz HB hg; replace HB := bstep HB hb; have b1 := blt a5 hg; have b0 := bgt a5 hg; replace a5 := bkb a5 hb; clear hb hbox hg; have I3 := b0.out; have H5 := b1.out; obtain ⟨G3, G2, G1, G0, D1, D0, C9, C8⟩ := cz4 a7) | ((with_reducible refine gate_callee (f := 100) rfl ?_); refine gl 17 Tryz.func100 #[.string ((rd_T96 a3 a1).f0)] (h := ?_); (with_reducible refine (token_IsName.calls k ((rd_T96 a3 a1).f0) true _ A5.out).mono ?_); rintro e L4 ⟨rfl, hb⟩; refine ⟨_, rfl, ?_⟩; replace a5 := Aside0.mk (blk_below (g := c2) (o := .cells #[.slice (some b3) a3.length b2, .slice d4 a9.length d2] 31 (0, 0)) (bkF a5) hb); replace a7 := Aside0.mk (blk_below (g := b4) (o := .cells #[.string ((rd_T96 a3 a1).f0), .int .i64 ((rd_T96 a3 a1).f1), .bool ((rd_T96 a3 a1).f2), .slice b6 ((rd_T96 a3 a1).f3).length b5] 96 (0, 0)) (by (with_reducible repeat (first | refine dN ?_ _ | refine dR ?_ | refine dA ?_ _)); refine blk_put (cs := #[.string ((rd_T96 a3 a1).f0), .int .i64 ((rd_T96 a3 a1).f1), .bool ((rd_T96 a3 a1).f2), .slice none 0 0]) ?_ 3 _ rfl; refine blk_put (cs := #[.string ((rd_T96 a3 a1).f0), .int .i64 ((rd_T96 a3 a1).f1), .bool false, .slice none 0 0]) ?_ 2 _ rfl; refine blk_put (cs := #[.string ((rd_T96 a3 a1).f0), .int .i64 0, .bool false, .slice none 0 0]) ?_ 1 _ rfl; refine blk_put (cs := #[.string (⟨#[]⟩ : ByteArray), .int .i64 0, .bool false, .slice none 0 0]) ?_ 0 _ rfl; (with_reducible repeat (first | refine dN ?_ _ | refine dR ?_ | refine dA ?_ _)); exact a7.out) hb); replace HB := bstep HB hb; (try clear hb); (try clear hb2); (try clear hk); (try clear hi); obtain ⟨F9, F8, C7, C6⟩ := cz2 a5; have t6 : (a1 : Int) ≤ ((a3.length : Int) : Int) := odt; obtain ⟨i018, o1, _, hsz18, _⟩ := info_parts info96; have hroom18 : a3.length ≤ b2 := h1.out; have hC18 : Kd.C k96 _ (some b3) a3.length a3 := e9.out; have hcut18 := cut_to (P := Tryz.prog) 28 96 .i64 Tryz.underlying28 o1 (some b3) a3.length b2 a1 (odt) t6 hroom18; have m8 := Kd.C_take (m := (a1 : Int).toNat) hC18 (by omega); have m4 : e5.length = (a1 : Int).toNat := (by rw [g9.out, List.length_take]; omega); rw [← g9.out] at m8; rw [← m4] at hcut18; have j8 := Aside0.mk m8; have j9 := Aside0.mk (show e5.length ≤ b2 from by omega); clear m8 hC18 hroom18 o1 hsz18; have KY18 := Aside0.mk m4; clear m4; replace t6 := eq_true t6) | ((with_reducible refine gate_callee (f := 101) rfl ?_); refine gl 25 Tryz.func101 #[.slice (some b3) e5.length b2, .func (.func 102) #[] #[.pointer (some ⟨b4, 0, none⟩)]] (h := ?_); (with_reducible refine (any_node.calls _ _ e5 b4 ((rd_T96 a3 a1).f0) (.int .i64 ((rd_T96 a3 a1).f1)) (.bool ((rd_T96 a3 a1).f2)) (.slice b6 ((rd_T96 a3 a1).f3).length b5) true _ ?d1 ?d0 ?c9 A9.out).mono ?_); (case d1 => exact cb j8 HB); (case d0 => exact j9.out); (case c9 => exact (bk a7)); rintro e L3 ⟨rfl, hb⟩; refine ⟨_, rfl, ?_⟩; replace a5 := bkb a5 hb; replace a7 := bkb a7 hb; replace HB := bstep HB hb; (try clear hb); (try clear hb2); (try clear hk); (try clear hi)))
  go_ret
  exact ⟨erf, bb HB⟩
 replace o9 := Bool.eq_false_iff.mpr o9
 subst o9
 replace H := iff_ H
 have n4 := Aside0.mk H
 clear H
 go_enter Tryz.func83, Tryz.ntmps83
 go_upto_region 6 with (first | ((with_reducible refine gate_dst (N := 2) rfl ?_); refine be 2 #[.slice h7 a3.length b2, .slice d4 a9.length d2] 31 ?_; intro c2 hg L2 hbox hb; have a5 := Aside0.mk (hbox); have h3 := bsz HB hg; replace HB := bstep HB hb; clear hb hbox hg; obtain ⟨t3, t2, r1, r0⟩ := cz2 a5; have d8 : 0 ≤ a1 := odt; have d7 : a1 < (a3.length : Int) := odt; obtain ⟨b3, b6, b5, h5, c0, b9, b8, b7, c5, c7⟩ := at_T96 e9.out a1 d8 d7; cases h5; replace c0 := hxc HB c0; replace b9 := hxc HB b9; replace b8 := hxc HB b8; replace b7 := hxc HB b7; have j4 := Aside0.mk c7; have j5 := Aside0.mk c5; clear c7 c5; replace d8 := eq_true d8; replace d7 := eq_true d7) | ((with_reducible refine gate_dst (N := 5) rfl ?_); refine be 5 #[.string (⟨#[]⟩ : ByteArray), .int .i64 0, .bool false, .slice none 0 0] 96 ?_; intro b4 hg L1 hbox hb; have a7 := Aside0.mk (hbox); have h2 := bsz HB hg; replace HB := bstep HB hb; have b1 := blt a5 hg; have b0 := bgt a5 hg; replace a5 := bkb a5 hb; clear hb hbox hg; have I2 := b0.out; have H4 := b1.out; obtain ⟨t1, t0, s9, s8, q9, q8, q7, q6⟩ := cz4 a7) | ((with_reducible refine gate_callee (f := 100) rfl ?_); refine gl 17 Tryz.func100 #[.string ((rd_T96 a3 a1).f0)] (h := ?_); (with_reducible refine (token_IsName.calls k ((rd_T96 a3 a1).f0) true _ A5.out).mono ?_); rintro e L0 ⟨rfl, hb⟩; refine ⟨_, rfl, ?_⟩; replace a5 := Aside0.mk (blk_below (g := c2) (o := .cells #[.slice (some b3) a3.length b2, .slice d4 a9.length d2] 31 (0, 0)) (bkF a5) hb); replace a7 := Aside0.mk (blk_below (g := b4) (o := .cells #[.string ((rd_T96 a3 a1).f0), .int .i64 ((rd_T96 a3 a1).f1), .bool ((rd_T96 a3 a1).f2), .slice b6 ((rd_T96 a3 a1).f3).length b5] 96 (0, 0)) (by (with_reducible repeat (first | refine dN ?_ _ | refine dR ?_ | refine dA ?_ _)); refine blk_put (cs := #[.string ((rd_T96 a3 a1).f0), .int .i64 ((rd_T96 a3 a1).f1), .bool ((rd_T96 a3 a1).f2), .slice none 0 0]) ?_ 3 _ rfl; refine blk_put (cs := #[.string ((rd_T96 a3 a1).f0), .int .i64 ((rd_T96 a3 a1).f1), .bool false, .slice none 0 0]) ?_ 2 _ rfl; refine blk_put (cs := #[.string ((rd_T96 a3 a1).f0), .int .i64 0, .bool false, .slice none 0 0]) ?_ 1 _ rfl; refine blk_put (cs := #[.string (⟨#[]⟩ : ByteArray), .int .i64 0, .bool false, .slice none 0 0]) ?_ 0 _ rfl; (with_reducible repeat (first | refine dN ?_ _ | refine dR ?_ | refine dA ?_ _)); exact a7.out) hb); replace HB := bstep HB hb; (try clear hb); (try clear hb2); (try clear hk); (try clear hi); obtain ⟨s7, s6, q5, q4⟩ := cz2 a5; have n5 : (a1 : Int) ≤ ((a3.length : Int) : Int) := odt; obtain ⟨i028, o0, _, hsz28, _⟩ := info_parts info96; have hroom28 : a3.length ≤ b2 := h1.out; have hC28 : Kd.C k96 _ (some b3) a3.length a3 := e9.out; have hcut28 := cut_to (P := Tryz.prog) 28 96 .i64 Tryz.underlying28 o0 (some b3) a3.length b2 a1 (odt) n5 hroom28; have m7 := Kd.C_take (m := (a1 : Int).toNat) hC28 (by omega); have m3 : e5.length = (a1 : Int).toNat := (by rw [g9.out, List.length_take]; omega); rw [← g9.out] at m7; rw [← m3] at hcut28; have j8 := Aside0.mk m7; have j9 := Aside0.mk (show e5.length ≤ b2 from by omega); clear m7 hC28 hroom28 o0 hsz28; have KY28 := Aside0.mk m3; clear m3; replace n5 := eq_true n5) | ((with_reducible refine gate_callee (f := 101) rfl ?_); refine gl 25 Tryz.func101 #[.slice (some b3) e5.length b2, .func (.func 102) #[] #[.pointer (some ⟨b4, 0, none⟩)]] (h := ?_); (with_reducible refine (any_node.calls _ _ e5 b4 ((rd_T96 a3 a1).f0) (.int .i64 ((rd_T96 a3 a1).f1)) (.bool ((rd_T96 a3 a1).f2)) (.slice b6 ((rd_T96 a3 a1).f3).length b5) false _ ?d1 ?d0 ?c9 A9.out).mono ?_); (case d1 => exact cb j8 HB); (case d0 => exact j9.out); (case c9 => exact (bk a7)); rintro e J9 ⟨rfl, hb⟩; refine ⟨_, rfl, ?_⟩; replace a5 := bkb a5 hb; replace a7 := bkb a7 hb; replace HB := bstep HB hb; (try clear hb); (try clear hb2); (try clear hk); (try clear hi)))
 (try simp only [Act.put, List.setIfInBounds_toArray, List.set_cons_zero, List.set_cons_succ])
 go_cut [26] (fun G7 wc => ∃ (kq : Nat) (g3 : Bool), G7 = .bool g3 ∧ Aside0 (types_node.j0 kq a1 g3 a3 a9 ((rd_T96 a3 a1).f0) ((rd_T96 a3 a1).f1) ((rd_T96 a3 a1).f2) ((rd_T96 a3 a1).f3) = some r) ∧ Aside0 (kq ≤ k) ∧ Aside0 (wc.heap[c2]? = some (.cells #[(.slice (some b3) a3.length b2), (.slice d4 a9.length d2)] 31 (0, 0))) ∧ Aside0 (wc.heap[b4]? = some (.cells #[.string ((rd_T96 a3 a1).f0), .int .i64 ((rd_T96 a3 a1).f1), .bool ((rd_T96 a3 a1).f2), (.slice b6 ((rd_T96 a3 a1).f3).length b5)] 96 (0, 0))) ∧ Aside0 (Below w.heap.size w wc))
 case first =>
  have H := n4.out
  clear n4
  by_cases j3 : ((rd_T96 a3 a1).f1) < (-1)
  rotate_left
  ·rw [if_neg j3] at H
   have g6 := decide_eq_false j3
   clear j3
   (first | rw [g6] | (simp only [i64_w, i32_w]; rw [g6]) | skip)
   have H' := Aside0.mk H
   clear H
   have I0 := b0.out
   have H2 := b1.out
   obtain ⟨F3, F2, F1, F0, C1, C0, A8, A7⟩ := cz4 a7
   go_wp2
   go_meet
   case rel => exact ⟨_, (decide (((rd_T96 a3 a1).f1) ≥ a1)), eqs, H', ⟨by first | omega | exact Nat.le_refl _⟩, ⟨bk a5⟩, ⟨bk a7⟩, ⟨bb HB⟩⟩
  rw [if_pos j3] at H
  have g6 := decide_eq_true j3
  clear j3
  (first | rw [g6] | (simp only [i64_w, i32_w]; rw [g6]) | skip)
  have H' := Aside0.mk H
  clear H
  have I1 := b0.out
  have H3 := b1.out
  obtain ⟨F7, F6, F5, F4, C5, C4, C3, C2⟩ := cz4 a7
  go_wp2
  go_meet
  case rel => exact ⟨_, (true), eqs, H', ⟨by first | omega | exact Nat.le_refl _⟩, ⟨bk a5⟩, ⟨bk a7⟩, ⟨bb HB⟩⟩
 case rest =>
  clear n4
  clear w3
  clear w2
  clear w1
  clear w0
  clear v9
  clear n5
  clear t3
  clear t2
  clear t1
  clear t0
  clear s9
  clear s8
  clear s7
  clear s6
  clear r1
  clear r0
  clear q9
  clear q8
  clear q7
  clear q6
  clear q5
  clear q4
  clear c0
  clear b9
  clear b8
  clear b7
  clear d8
  clear d7
  obtain ⟨kq, g3, rfl, HA, t8, a5, a7, HB⟩ := hcut
  cases kq with
  | zero => exact absurd HA.out (by simp [types_node.j0])
  | succ j7 =>
   have H := HA.out
   clear HA
   simp only [types_node.j0] at H
   by_cases o8 : g3 = true
   ·subst o8
    replace H := ift H
    obtain rfl := Option.some.inj H
    go_wp2
    go_ret
    exact ⟨erf, bb HB⟩
   replace o8 := Bool.eq_false_iff.mpr o8
   subst o8
   replace H := iff_ H
   by_cases j2 : (((rd_T96 a3 a1).f3).length : Int) > 4
   ·rw [if_pos j2] at H
    have o7 : decide (4 < (((rd_T96 a3 a1).f3).length : Int)) = true := decide_eq_true j2
    have o6 : decide (4 < ((rd_T96 a3 a1).f3).length) = true := decide_eq_true (by omega)
    clear j2
    obtain rfl := Option.some.inj H
    have H9 := b0.out
    have H1 := b1.out
    obtain ⟨E9, E8, E7, E6, A6, A4, A3, A2⟩ := cz4 a7
    go_wp2
    go_ret
    exact ⟨erf, bb HB⟩
   rw [if_neg j2] at H
   have o7 : decide (4 < (((rd_T96 a3 a1).f3).length : Int)) = false := decide_eq_false j2
   have o6 : decide (4 < ((rd_T96 a3 a1).f3).length) = false := decide_eq_false (by omega)
   clear j2
   obtain ⟨a6, v6, H⟩ := obA H
   by_cases j1 : (a6.length : Int) > 8
   ·rw [if_pos j1] at H
    have o5 : decide (8 < (a6.length : Int)) = true := decide_eq_true j1
    have o4 : decide (8 < a6.length) = true := decide_eq_true (by omega)
    clear j1
    obtain rfl := Option.some.inj H
    have H8 := b0.out
    have H0 := b1.out
    obtain ⟨E5, E4, E3, E2, A1, A0, y9, y8⟩ := cz4 a7
    obtain ⟨E1, E0, x9, x8⟩ := cz2 a5
    go_wp2_with ((with_reducible refine gate_callee (f := 103) rfl ?_); refine gl 43 Tryz.func103 #[.agg #[.slice (some b3) a3.length b2, .slice d4 a9.length d2], .int .i64 a1] (h := ?_); (with_reducible refine (types_attrs.calls j7 (fun k_ => k_ < w.heap.size) _ _ a3 _ _ a9 a1 a6 _ ?d1 ?d0 ?c9 v6.out).mono ?_); (case d1 => exact Kd.V_mk h1.out (Kd.F_below (Kd.C_F k96_heap e9.out) (bb HB))); (case d0 => exact cb p0 HB); (case c9 => exact p1.out); rintro e J8 ⟨v8, rfl, m0, hb⟩; refine ⟨_, rfl, ?_⟩; have h0 := Aside0.mk (Kd.N_lower (Kd.N_mono (ok' := fun k_ => k_ ≠ c2 ∧ k_ ≠ b4) m0 (fun k_ hk_ => ⟨Or.elim hk_ (fun hs_ => fun e_ => Nat.not_le.2 hs_ (by rw [e_]; exact h3.out)) (fun hn_ => (Kd.freshB (g := c2) (o := .cells #[.slice (some b3) a3.length b2, .slice d4 a9.length d2] 31 (0, 0)) (bk a5) k_ hn_)), Or.elim hk_ (fun hs_ => fun e_ => Nat.not_le.2 hs_ (by rw [e_]; exact h2.out)) (fun hn_ => (Kd.freshB (g := b4) (o := .cells #[.string ((rd_T96 a3 a1).f0), .int .i64 ((rd_T96 a3 a1).f1), .bool ((rd_T96 a3 a1).f2), .slice b6 ((rd_T96 a3 a1).f3).length b5] 96 (0, 0)) (bk a7) k_ hn_))⟩)) (below_size (bb HB))); replace a5 := bkb a5 hb; replace a7 := bkb a7 hb; replace HB := bstep HB hb; (try clear hb); (try clear hb2); (try clear hk); (try clear hi); (try clear m0); obtain ⟨I9, I8, eo45⟩ := Kd.N_slice h0.out; subst eo45)
    go_ret
    exact ⟨erf, bb HB⟩
   rw [if_neg j1] at H
   have o5 : decide (8 < (a6.length : Int)) = false := decide_eq_false j1
   have o4 : decide (8 < a6.length) = false := decide_eq_false (by omega)
   clear j1
   have H' := Aside0.mk H
   clear H
   have H7 := b0.out
   have G9 := b1.out
   obtain ⟨s5, s4, r9, r8, q3, q2, q1, q0⟩ := cz4 a7
   obtain ⟨r7, r6, p9, p8⟩ := cz2 a5
   go_wp2_with ((with_reducible refine gate_callee (f := 103) rfl ?_); refine gl 43 Tryz.func103 #[.agg #[.slice (some b3) a3.length b2, .slice d4 a9.length d2], .int .i64 a1] (h := ?_); (with_reducible refine (types_attrs.calls j7 (fun k_ => k_ < w.heap.size) _ _ a3 _ _ a9 a1 a6 _ ?d1 ?d0 ?c9 v6.out).mono ?_); (case d1 => exact Kd.V_mk h1.out (Kd.F_below (Kd.C_F k96_heap e9.out) (bb HB))); (case d0 => exact cb p0 HB); (case c9 => exact p1.out); rintro e J7 ⟨v8, rfl, m0, hb⟩; refine ⟨_, rfl, ?_⟩; have h0 := Aside0.mk (Kd.N_lower (Kd.N_mono (ok' := fun k_ => k_ ≠ c2 ∧ k_ ≠ b4) m0 (fun k_ hk_ => ⟨Or.elim hk_ (fun hs_ => fun e_ => Nat.not_le.2 hs_ (by rw [e_]; exact h3.out)) (fun hn_ => (Kd.freshB (g := c2) (o := .cells #[.slice (some b3) a3.length b2, .slice d4 a9.length d2] 31 (0, 0)) (bk a5) k_ hn_)), Or.elim hk_ (fun hs_ => fun e_ => Nat.not_le.2 hs_ (by rw [e_]; exact h2.out)) (fun hn_ => (Kd.freshB (g := b4) (o := .cells #[.string ((rd_T96 a3 a1).f0), .int .i64 ((rd_T96 a3 a1).f1), .bool ((rd_T96 a3 a1).f2), .slice b6 ((rd_T96 a3 a1).f3).length b5] 96 (0, 0)) (bk a7) k_ hn_))⟩)) (below_size (bb HB))); replace a5 := bkb a5 hb; replace a7 := bkb a7 hb; replace HB := bstep HB hb; (try clear hb); (try clear hb2); (try clear hk); (try clear hi); (try clear m0); obtain ⟨w4, d9, eo50⟩ := Kd.N_slice h0.out; subst eo50; obtain ⟨r5, r4, r3, r2, p7, p6, p5, p4⟩ := cz4 a7)
   go_loopg [7] j7 (fun kq v7 w' => ∃ (a4 : Int), v7 = .int .i64 a4 ∧ Aside0 (types_node.l0 kq a6 a4 = some r) ∧ Aside0 (kq ≤ j7) ∧ Aside0 (Kd.N k99 99 w' w.heap.size (fun k_ => k_ ≠ c2 ∧ k_ ≠ b4) (.slice w4 a6.length d9) a6) ∧ Aside0 (w'.heap[c2]? = some (.cells #[(.slice (some b3) a3.length b2), (.slice d4 a9.length d2)] 31 (0, 0))) ∧ Aside0 (w'.heap[b4]? = some (.cells #[.string ((rd_T96 a3 a1).f0), .int .i64 ((rd_T96 a3 a1).f1), .bool ((rd_T96 a3 a1).f2), (.slice b6 ((rd_T96 a3 a1).f3).length b5)] 96 (0, 0))) ∧ Aside0 (Below w.heap.size w w'))
   case atStart => exact ⟨(wrap64 ((a6.length : Int) - (((rd_T96 a3 a1).f3).length : Int))), eqs, H', ⟨Nat.le_refl _⟩, ⟨kN h0⟩, ⟨bk a5⟩, ⟨bk a7⟩, ⟨bb HB⟩⟩
   case round =>
    clear H'
    clear o7
    clear o6
    clear o5
    clear o4
    clear s5
    clear s4
    clear r9
    clear r8
    clear r7
    clear r6
    clear r5
    clear r4
    clear r3
    clear r2
    clear q3
    clear q2
    clear q1
    clear q0
    clear p9
    clear p8
    clear p7
    clear p6
    clear p5
    clear p4
    obtain ⟨a4, rfl, HA, v4, HO_6, a5, a7, HB⟩ := hrel
    cases gk with
    | zero => exact absurd HA.out (by simp [types_node.l0])
    | succ k2 =>
     have H := HA.out
     clear HA
     simp only [types_node.l0] at H
     by_cases h9 : a4 < (a6.length : Int)
     rotate_left
     ·rw [if_neg h9] at H
      have v1 := decide_eq_false h9
      clear h9
      obtain rfl := Option.some.inj H
      go_wp2
      go_ret
      exact ⟨erf, bb HB⟩
     rw [if_pos h9] at H
     have v1 := decide_eq_true h9
     clear h9
     obtain ⟨v3, H⟩ := itn H
     have I7 := decide_eq_true v3
     clear v3
     have I6 := eq_true (odt : 0 ≤ a4)
     obtain ⟨t7, H⟩ := itn H
     have I5 := eq_true t7
     have I4 := decide_eq_true t7
     clear t7
     obtain ⟨d5, g4⟩ : ∃ y_ : List (S99), y_ = (a6.take (a4 : Int).toNat) := ⟨_, rfl⟩
     replace H : ((types_attribute.f k2 ((rd_T99 a6 a4).f0) ((rd_T99 a6 a4).f1) ((rd_T99 a6 a4).f2) ((rd_T99 a6 a4).f3) d5).bind fun e6 => (if e6 = 0 then (types_node.l0 k2 a6 (wrap64 (a4 + 1))) else (some e6))) = some r := by first | (rw [g4]; with_reducible exact H) | (have H2_ := (Option.bind_some _ _).symm.trans H; rw [g4]; with_reducible exact H2_) | (have H2_ := (Option.bind_some _ _).symm.trans H; with_reducible exact H2_) | with_reducible exact H | (rw [g4]; exact H) | exact H
     have g8 := Aside0.mk g4
     clear g4
     obtain ⟨e6, v5, H⟩ := obA H
     by_cases h6 : e6 = 0
     rotate_left
     ·rw [if_neg h6] at H
      have v0 := beq_eq_false_iff_ne.mpr h6
      have t9 := bne_iff_ne.mpr h6
      obtain rfl := Option.some.inj H
      try go_wp2
      replace HO_6 := Aside0.mk (Kd.N_drew HO_6.out)
      replace a5 := Aside0.mk (blk_drew a5.out)
      replace a7 := Aside0.mk (blk_drew a7.out)
      replace HB := Aside0.mk (below_drew1 HB.out)
      have e8 : 0 ≤ a4 := odt
      have e7 : a4 < (a6.length : Int) := odt
      obtain ⟨a8, g1, g0, m9, e2, e1, e0, d6, e3, e4⟩ := at_T99 (Kd.N_reads' HO_6.out).2.2 a4 e8 e7
      cases m9
      obtain ⟨ce160, hce160, hMe160, hcc160⟩ := Kd.N_get HO_6.out z99 a4 e8 (by first | exact e7 | exact odt | (have e_ := (Kd.N_reads' HO_6.out).1; omega))
      obtain ⟨ua160_3, uc160_3, rfl, ul160_3, ge160_3⟩ := k99_openF hMe160
      have hv160_3 := hcc160 3 _ rfl
      rw [add_field _ _ 3 (by omega)] at hv160_3
      replace hv160_3 := Option.some.inj (hv160_3.symm.trans d6)
      injection hv160_3 with hva_ hvn_ hvc_
      rw [hva_] at ge160_3
      rw [hvc_] at ul160_3
      have HL160_3 := Aside0.mk (show Kd.V Kd.string 9 _ w.heap.size _ _ ((rd_T99 a6 a4).f3) from Kd.V_mk ul160_3 ge160_3)
      clear hva_ hvn_ hvc_ ge160_3 ul160_3 hcc160 hce160
      have c1 := Aside0.mk e4
      have g7 := Aside0.mk e3
      clear e4 e3
      replace e8 := eq_true e8
      replace e7 := eq_true e7
      have t4 : (a4 : Int) ≤ ((a6.length : Int) : Int) := odt
      obtain ⟨i062, n8, _, hsz62, _⟩ := info_parts info99
      have hroom62 : a6.length ≤ d9 := (Kd.N_reads' HO_6.out).2.1
      have hC62 : Kd.F k99 _ _ (some a8) a6.length a6 := (Kd.V_at (base := w.heap.size) (Kd.N_V HO_6.out)).2.2
      have hcut62 := cut_to (P := Tryz.prog) 94 99 .i64 Tryz.underlying94 n8 (some a8) a6.length d9 a4 (odt) t4 hroom62
      have m5 := Kd.F_take (m := (a4 : Int).toNat) hC62 (by omega)
      have m1 : d5.length = (a4 : Int).toNat := (by rw [g8.out, List.length_take]; omega)
      rw [← g8.out] at m5
      rw [← m1] at hcut62
      have d3 := Aside0.mk (show Kd.V k99 99 _ w.heap.size _ (.slice (some a8) d5.length d9) d5 from Kd.V_mk (by omega) m5)
      have v2 := Aside0.mk (show d5.length ≤ d9 from by omega)
      clear m5 hC62 hroom62 n8 hsz62
      have KY62 := Aside0.mk m1
      clear m1
      replace t4 := eq_true t4
      refine start_ (n := 9) (S := fun w' => w'.cell? (a8.add ((a4).toNat * 4)) = some (.string ((rd_T99 a6 a4).f0)) ∧ w'.cell? ⟨(a8.add ((a4).toNat * 4)).block, (a8.add ((a4).toNat * 4)).off + 1, none⟩ = some (.int .i64 ((rd_T99 a6 a4).f1)) ∧ w'.cell? ⟨(a8.add ((a4).toNat * 4)).block, (a8.add ((a4).toNat * 4)).off + 2, none⟩ = some (.int .i64 ((rd_T99 a6 a4).f2)) ∧ w'.cell? ⟨(a8.add ((a4).toNat * 4)).block, (a8.add ((a4).toNat * 4)).off + 3, none⟩ = some (.slice g1 ((rd_T99 a6 a4).f3).length g0)) (ds := []) #[false, false, false, false, false, false, false, false, false] (by kernel_rfl) rfl rfl ⟨e2, e1, e0, d6⟩ (fun hHeld => ?_); refine with_tabW types_node.tab16 types_node.bits16 (fun HT_ HW_ => ?_)
      generalize wr.drew = J4 at HO_6 a5 a7 HB HL160_3 d3 c1 e2 e1 e0 d6 hHeld ⊢
      refine pu 0 59 (bits 9 0x1) HT_ (h := ?_)
      refine pu 1 60 (bits 9 0x3) HT_ (h := ?_)
      refine pu 2 61 (bits 9 0x7) HT_ (h := ?_)
      refine pu 4 63 (bits 9 0x17) HT_ (h := ?_)
      refine pu 5 64 (bits 9 0x37) HT_ (h := ?_)
      refine pu 6 65 (bits 9 0x77) HT_ (h := ?_)
      refine tk 3 62 (bits 9 0x7f) HT_ HW_ hHeld (hy := by rintro w' ⟨s0, s1, s2, s3⟩; go_simp; with_reducible rfl) (h := ?_)
      refine one_ (i := 7) (N := some 66) #[true, true, true, true, true, true, true, true, false] rfl rfl (one_of HT_.out (by kernel_rfl)) (by decide) (fun K hK => ?_)
      refine goes_ Tryz.func104 (by kernel_rfl) rfl #[.agg #[.string ((rd_T99 a6 a4).f0), .int .i64 ((rd_T99 a6 a4).f1), .int .i64 ((rd_T99 a6 a4).f2), .slice g1 ((rd_T99 a6 a4).f3).length g0], .slice (some a8) d5.length d9] (by rfl) rfl rfl (by (try simp only [List.map_toArray, List.map_cons, List.map_nil]); first | done | rfl | (simp only [List.length_drop, List.length_take]; rfl)) ?_
      with_reducible refine (types_attribute.calls k2 ((rd_T99 a6 a4).f0) ((rd_T99 a6 a4).f1) ((rd_T99 a6 a4).f2) _ _ ((rd_T99 a6 a4).f3) _ _ d5 e6 _ ?d1 ?d0 ?c9 ?j6 v5.out).mono ?_
      (case d1 => repeat (first | exact (kC c1) | (with_reducible refine Kd.C_alloc ?_ _) | (with_reducible refine Kd.C_drewN ?_ _) | (with_reducible refine Kd.C_drew ?_)))
      (case d0 => exact g7.out)
      (case c9 => repeat (first | exact (Kd.V_reads' d3.out).2.2 | (with_reducible refine Kd.C_alloc ?_ _) | (with_reducible refine Kd.C_drewN ?_ _) | (with_reducible refine Kd.C_drew ?_)))
      (case j6 => exact (Kd.V_reads' d3.out).2.1)
      rintro e J3 ⟨rfl, hb⟩
      have n3 := (hb.cell (World.block_lt_of_cell? _ _ (hHeld.1))).trans (hHeld.1)
      have n2 := (hb.cell (World.block_lt_of_cell? _ _ (hHeld.2.1))).trans (hHeld.2.1)
      have n1 := (hb.cell (World.block_lt_of_cell? _ _ (hHeld.2.2.1))).trans (hHeld.2.2.1)
      have n0 := (hb.cell (World.block_lt_of_cell? _ _ (hHeld.2.2.2))).trans (hHeld.2.2.2)
      refine ⟨_, rfl, ?_⟩
      replace HO_6 := kNb HO_6 hb
      replace HL160_3 := kVb HL160_3 hb
      replace d3 := kVb d3 hb
      replace a5 := bkb a5 hb
      replace a7 := bkb a7 hb
      replace c1 := kCb c1 hb
      replace HB := bstep HB hb
      clear hb
      refine hK.out _ _ ⟨n3, n2, n1, n0⟩ (fun hHeld => ?_)
      clear hK K
      refine norm_ (a' := ?_) ?_ ?_
      rotate_left
      ·show Act.put _ (some 66) _ = _
       simp only [Act.put, List.setIfInBounds_toArray, List.set_cons_zero, List.set_cons_succ, i64_w, i32_w]
       rfl
      refine pu 8 8 (bits 9 0x1ff) HT_ (h := ?_)
      refine done_ (done_of HT_.out (by kernel_rfl)) ?_
      try go_wp2
      go_ret
      exact ⟨erf, bb HB⟩
     rw [if_pos h6] at H
     have v0 := beq_iff_eq.mpr h6
     have t9 := bne_eq_false_iff_eq.mpr h6
     clear h6
     have H' := Aside0.mk H
     clear H
     try go_wp2
     replace HO_6 := Aside0.mk (Kd.N_drew HO_6.out)
     replace a5 := Aside0.mk (blk_drew a5.out)
     replace a7 := Aside0.mk (blk_drew a7.out)
     replace HB := Aside0.mk (below_drew1 HB.out)
     have e8 : 0 ≤ a4 := odt
     have e7 : a4 < (a6.length : Int) := odt
     obtain ⟨a8, g1, g0, m9, e2, e1, e0, d6, e3, e4⟩ := at_T99 (Kd.N_reads' HO_6.out).2.2 a4 e8 e7
     cases m9
     obtain ⟨ce160, hce160, hMe160, hcc160⟩ := Kd.N_get HO_6.out z99 a4 e8 (by first | exact e7 | exact odt | (have e_ := (Kd.N_reads' HO_6.out).1; omega))
     obtain ⟨ua160_3, uc160_3, rfl, ul160_3, ge160_3⟩ := k99_openF hMe160
     have hv160_3 := hcc160 3 _ rfl
     rw [add_field _ _ 3 (by omega)] at hv160_3
     replace hv160_3 := Option.some.inj (hv160_3.symm.trans d6)
     injection hv160_3 with hva_ hvn_ hvc_
     rw [hva_] at ge160_3
     rw [hvc_] at ul160_3
     have HL160_3 := Aside0.mk (show Kd.V Kd.string 9 _ w.heap.size _ _ ((rd_T99 a6 a4).f3) from Kd.V_mk ul160_3 ge160_3)
     clear hva_ hvn_ hvc_ ge160_3 ul160_3 hcc160 hce160
     have c1 := Aside0.mk e4
     have g7 := Aside0.mk e3
     clear e4 e3
     replace e8 := eq_true e8
     replace e7 := eq_true e7
     have t5 : (a4 : Int) ≤ ((a6.length : Int) : Int) := odt
     obtain ⟨i059, n9, _, hsz59, _⟩ := info_parts info99
     have hroom59 : a6.length ≤ d9 := (Kd.N_reads' HO_6.out).2.1
     have hC59 : Kd.F k99 _ _ (some a8) a6.length a6 := (Kd.V_at (base := w.heap.size) (Kd.N_V HO_6.out)).2.2
     have hcut59 := cut_to (P := Tryz.prog) 94 99 .i64 Tryz.underlying94 n9 (some a8) a6.length d9 a4 (odt) t5 hroom59
     have m6 := Kd.F_take (m := (a4 : Int).toNat) hC59 (by omega)
     have m2 : d5.length = (a4 : Int).toNat := (by rw [g8.out, List.length_take]; omega)
     rw [← g8.out] at m6
     rw [← m2] at hcut59
     have d3 := Aside0.mk (show Kd.V k99 99 _ w.heap.size _ (.slice (some a8) d5.length d9) d5 from Kd.V_mk (by omega) m6)
     have v2 := Aside0.mk (show d5.length ≤ d9 from by omega)
     clear m6 hC59 hroom59 n9 hsz59
     have KY59 := Aside0.mk m2
     clear m2
     replace t5 := eq_true t5
     refine start_ (n := 9) (S := fun w' => w'.cell? (a8.add ((a4).toNat * 4)) = some (.string ((rd_T99 a6 a4).f0)) ∧ w'.cell? ⟨(a8.add ((a4).toNat * 4)).block, (a8.add ((a4).toNat * 4)).off + 1, none⟩ = some (.int .i64 ((rd_T99 a6 a4).f1)) ∧ w'.cell? ⟨(a8.add ((a4).toNat * 4)).block, (a8.add ((a4).toNat * 4)).off + 2, none⟩ = some (.int .i64 ((rd_T99 a6 a4).f2)) ∧ w'.cell? ⟨(a8.add ((a4).toNat * 4)).block, (a8.add ((a4).toNat * 4)).off + 3, none⟩ = some (.slice g1 ((rd_T99 a6 a4).f3).length g0)) (ds := []) #[false, false, false, false, false, false, false, false, false] (by kernel_rfl) rfl rfl ⟨e2, e1, e0, d6⟩ (fun hHeld => ?_); refine with_tabW types_node.tab16 types_node.bits16 (fun HT_ HW_ => ?_)
     generalize wr.drew = J6 at HO_6 a5 a7 HB HL160_3 d3 c1 e2 e1 e0 d6 hHeld ⊢
     refine pu 0 59 (bits 9 0x1) HT_ (h := ?_)
     refine pu 1 60 (bits 9 0x3) HT_ (h := ?_)
     refine pu 2 61 (bits 9 0x7) HT_ (h := ?_)
     refine pu 4 63 (bits 9 0x17) HT_ (h := ?_)
     refine pu 5 64 (bits 9 0x37) HT_ (h := ?_)
     refine pu 6 65 (bits 9 0x77) HT_ (h := ?_)
     refine tk 3 62 (bits 9 0x7f) HT_ HW_ hHeld (hy := by rintro w' ⟨s0, s1, s2, s3⟩; go_simp; with_reducible rfl) (h := ?_)
     refine one_ (i := 7) (N := some 66) #[true, true, true, true, true, true, true, true, false] rfl rfl (one_of HT_.out (by kernel_rfl)) (by decide) (fun K hK => ?_)
     refine goes_ Tryz.func104 (by kernel_rfl) rfl #[.agg #[.string ((rd_T99 a6 a4).f0), .int .i64 ((rd_T99 a6 a4).f1), .int .i64 ((rd_T99 a6 a4).f2), .slice g1 ((rd_T99 a6 a4).f3).length g0], .slice (some a8) d5.length d9] (by rfl) rfl rfl (by (try simp only [List.map_toArray, List.map_cons, List.map_nil]); first | done | rfl | (simp only [List.length_drop, List.length_take]; rfl)) ?_
     with_reducible refine (types_attribute.calls k2 ((rd_T99 a6 a4).f0) ((rd_T99 a6 a4).f1) ((rd_T99 a6 a4).f2) _ _ ((rd_T99 a6 a4).f3) _ _ d5 e6 _ ?d1 ?d0 ?c9 ?j6 v5.out).mono ?_
     (case d1 => repeat (first | exact (kC c1) | (with_reducible refine Kd.C_alloc ?_ _) | (with_reducible refine Kd.C_drewN ?_ _) | (with_reducible refine Kd.C_drew ?_)))
     (case d0 => exact g7.out)
     (case c9 => repeat (first | exact (Kd.V_reads' d3.out).2.2 | (with_reducible refine Kd.C_alloc ?_ _) | (with_reducible refine Kd.C_drewN ?_ _) | (with_reducible refine Kd.C_drew ?_)))
     (case j6 => exact (Kd.V_reads' d3.out).2.1)
     rintro e J5 ⟨rfl, hb⟩
     have n3 := (hb.cell (World.block_lt_of_cell? _ _ (hHeld.1))).trans (hHeld.1)
     have n2 := (hb.cell (World.block_lt_of_cell? _ _ (hHeld.2.1))).trans (hHeld.2.1)
     have n1 := (hb.cell (World.block_lt_of_cell? _ _ (hHeld.2.2.1))).trans (hHeld.2.2.1)
     have n0 := (hb.cell (World.block_lt_of_cell? _ _ (hHeld.2.2.2))).trans (hHeld.2.2.2)
     refine ⟨_, rfl, ?_⟩
     replace HO_6 := kNb HO_6 hb
     replace HL160_3 := kVb HL160_3 hb
     replace d3 := kVb d3 hb
     replace a5 := bkb a5 hb
     replace a7 := bkb a7 hb
     replace c1 := kCb c1 hb
     replace HB := bstep HB hb
     clear hb
     refine hK.out _ _ ⟨n3, n2, n1, n0⟩ (fun hHeld => ?_)
     clear hK K
     refine norm_ (a' := ?_) ?_ ?_
     rotate_left
     ·show Act.put _ (some 66) _ = _
      simp only [Act.put, List.setIfInBounds_toArray, List.set_cons_zero, List.set_cons_succ, i64_w, i32_w]
      rfl
     refine pu 8 8 (bits 9 0x1ff) HT_ (h := ?_)
     refine done_ (done_of HT_.out (by kernel_rfl)) ?_
     try go_wp2
     go_roundg k2
     case measure => have := t8.out; have := v4.out; omega
     case rel => exact ⟨(wrap64 (a4 + 1)), eqs, H', ⟨by have := t8.out; have := v4.out; omega⟩, ⟨kN HO_6⟩, ⟨bk a5⟩, ⟨bk a7⟩, ⟨bb HB⟩⟩
end Go.Proofs.YtfpianecohobjaaGreat.P
