/- StatisticOf: a part of its proof. No condition. -/
import Derived.Test.YtfpianecohobjaaGreatZPx0
import Derived.Test.YtfpianecohobjaaGreatZPx45
import Derived.Test.YtfpianecohobjaaGreatZPx46
namespace Go.Proofs.YtfpianecohobjaaGreat.P
open Go.RowKit Go.Proofs.YtfpianecohobjaaGreatW.PrintWords Go.Proofs.YtfpianecohobjaaGreatW.PrintLast Go.Proofs.YtfpianecohobjaaGreatW.PrintMore
set_option linter.unusedVariables false
set_option linter.unusedSimpArgs false
mutual
def scarfjointref18_Of.l0 : Nat → Int → List Int → List (S56) → List (S75) → Option ((List (S75)) × (List (S75)) × Int)
 | 0, _, _, _, _ => none
 | k + 1, x8, b3, b0, d2 => if x8 < (b3.length : Int) then (if 0 ≤ x8 then ((scarfjointref18_change.f k d2 (rd b3 x8) 0 0 0 1).bind fun g2 => (scarfjointref18_Of.l0 k (wrap64 (x8 + 1)) b3 b0 g2)) else (none)) else (scarfjointref18_Of.l1 k 0 b3 b0 d2 ([] : List (S75)))
def scarfjointref18_Of.l1 : Nat → Int → List Int → List (S56) → List (S75) → List (S75) → Option ((List (S75)) × (List (S75)) × Int)
 | 0, _, _, _, _, _ => none
 | k + 1, x9, b3, b0, d2, g8 => if x9 < (b0.length : Int) then (if 0 ≤ x9 then (if 0 ≤ ((rd_T56 b0 x9).f1) then (if ((rd_T56 b0 x9).f1) < (b3.length : Int) then (if 0 ≤ ((rd_T56 b0 x9).f2) then (if ((rd_T56 b0 x9).f2) < (b3.length : Int) then ((scarfjointref18_change.f k g8 ((rd_T56 b0 x9).f0) (rd b3 ((rd_T56 b0 x9).f1)) (rd b3 ((rd_T56 b0 x9).f2)) 0 1).bind fun e9 => (scarfjointref18_Of.l1 k (wrap64 (x9 + 1)) b3 b0 d2 e9)) else (none)) else (none)) else (none)) else (none)) else (none)) else (some (d2, g8, 0))
end
def scarfjointref18_Of.f (k : Nat) (b5 : List (S96)) (b4 : List (S101)) (a7 : List Int) (a0 : List (S56)) : Option ((List (S75)) × (List (S75)) × Int) := (scarfjointref18_Typed.f k b5 b4 a7 a0).bind fun d3 => (if d3 = 0 then (scarfjointref18_Of.l0 k 0 a7 a0 ([] : List (S75))) else (some (([] : List (S75)), ([] : List (S75)), d3)))
def scarfjointref18_Of.T8 : Bool × List (List Nat × List Nat) := (true, [([], []), ([0], [0]), ([], []), ([2], [2]), ([], []), ([3, 4], [3, 4]), ([5], [5]), ([6], [6]), ([1, 7], [1, 7]), ([0, 1, 2, 3, 4, 5, 6, 7, 8], []), ([9, 8, 8, 0, 1, 2, 3, 4, 5, 6, 7, 8], [8, 9])])
def scarfjointref18_Of.B8 : List Nat := [0, 1, 0, 4, 0, 28, 60, 124, 255, 511, 1023]
theorem scarfjointref18_Of.tab8 : rtab .any (opsOf Tryz.f22 8) = scarfjointref18_Of.T8 := by kernel_rfl
theorem scarfjointref18_Of.bits8 : waitsOk scarfjointref18_Of.T8.2 scarfjointref18_Of.B8 = true := by kernel_rfl
def scarfjointref18_Of.T13 : Bool × List (List Nat × List Nat) := (true, [([], []), ([0], [0]), ([], []), ([2], [2]), ([], []), ([4], [4]), ([], []), ([6], [6]), ([5, 7], [5, 7]), ([8], [8]), ([], []), ([10], [10]), ([], []), ([12], [12]), ([11, 13], [11, 13]), ([14], [14]), ([3, 9, 15], [3, 9, 15]), ([1, 16], [1, 16]), ([0, 1, 2, 3, 4, 5, 6, 7, 8, 9, 10, 11, 12, 13, 14, 15, 16, 17], []), ([18, 17, 17, 0, 1, 2, 3, 4, 5, 6, 7, 8, 9, 10, 11, 12, 13, 14, 15, 16, 17], [17, 18])])
def scarfjointref18_Of.B13 : List Nat := [0, 1, 0, 4, 0, 16, 0, 64, 240, 496, 0, 1024, 0, 4096, 15360, 31744, 65532, 131071, 262143, 524287]
theorem scarfjointref18_Of.tab13 : rtab .any (opsOf Tryz.f22 13) = scarfjointref18_Of.T13 := by kernel_rfl
theorem scarfjointref18_Of.bits13 : waitsOk scarfjointref18_Of.T13.2 scarfjointref18_Of.B13 = true := by kernel_rfl
set_option maxHeartbeats 8000000 in
set_option maxRecDepth 100000 in
theorem scarfjointref18_Of.calls (k : Nat) (e1 : Option Addr) (d7 : Nat) (b5 : List (S96)) (e0 : Option Addr) (d6 : Nat) (b4 : List (S101)) (d9 : Option Addr) (c8 : Nat) (a7 : List Int) (d8 : Option Addr) (c7 : Nat) (a0 : List (S56)) (r1 : List (S75)) (r2 : List (S75)) (r3 : Int) (w : World) (o1 : Kd.C k96 w e1 b5.length b5) (o5 : b5.length ≤ d7) (o0 : Kd.C k101 w e0 b4.length b4) (o4 : b4.length ≤ d6) (n9 : Kd.C (Kd.int .i64) w d9 a7.length a7) (o3 : a7.length ≤ c8) (n8 : Kd.C k56 w d8 a0.length a0) (o2 : a0.length ≤ c7) (h : scarfjointref18_Of.f k b5 b4 a7 a0 = some (r1, r2, r3)) :
  Calls Tryz.prog 22 #[.agg #[.slice e1 b5.length d7, .slice e0 b4.length d6], .agg #[.slice d9 a7.length c8, .slice d8 a0.length c7]] w fun e w' => ∃ r4 r0 : Value, e = .returned (.tuple #[.agg #[r4, r0], .int .i64 r3]) ∧ Kd.R k75 75 w' w.heap.size (fun k_ => some k_ ≠ (r0 : Value).ownBlock) r4 r1 ∧ Kd.R k75 75 w' w.heap.size (fun k_ => some k_ ≠ (r4 : Value).ownBlock) r0 r2 ∧ Below w.heap.size w w' := by
 have hu31 := Tryz.underlying31
 have hu35 := Tryz.underlying35
 have hu46 := Tryz.underlying46
 have hu75 := Tryz.underlying75
 have hu56 := Tryz.underlying56
 have p0 := Aside0.mk o1
 have p7 := Aside0.mk o5
 clear o1 o5
 have o9 := Aside0.mk o0
 have p6 := Aside0.mk o4
 clear o0 o4
 have g1 := Aside0.mk n9
 have p5 := Aside0.mk o3
 clear n9 o3
 have j6 := Aside0.mk n8
 have p4 := Aside0.mk o2
 clear n8 o2
 have HB := Aside0.mk (Below.refl w.heap.size w)
 have H : ((scarfjointref18_Typed.f k b5 b4 a7 a0).bind fun d3 => (if d3 = 0 then (scarfjointref18_Of.l0 k 0 a7 a0 ([] : List (S75))) else (some (([] : List (S75)), ([] : List (S75)), d3)))) = some (r1, r2, r3) := h
 clear h
 obtain ⟨d3, A3, H⟩ := obA H
 by_cases c4 : d3 = 0
 rotate_left
 ·rw [if_neg c4] at H
  have t4 := beq_eq_false_iff_ne.mpr c4
  have t3 := bne_iff_ne.mpr c4
  simp only [Option.some.injEq, Prod.mk.injEq] at H
  obtain ⟨rfl, rfl, rfl⟩ := H
  go_enter Tryz.func22, Tryz.ntmps22
  go_wp2_with (first | ((with_reducible refine gate_dst (N := 2) rfl ?_); refine be 2 #[.slice e1 b5.length d7, .slice e0 b4.length d6] 31 ?_; intro g6 hg M7 hbox hb; have a3 := Aside0.mk (hbox); have v0 := bsz HB hg; replace HB := bstep HB hb; clear hb hbox hg) | ((with_reducible refine gate_dst (N := 3) rfl ?_); refine be 3 #[.slice d9 a7.length c8, .slice d8 a0.length c7] 35 ?_; intro c9 hg M6 hbox hb; have a1 := Aside0.mk (hbox); have t9 := bsz HB hg; replace HB := bstep HB hb; have b9 := blt a3 hg; have b8 := bgt a3 hg; replace a3 := bkb a3 hb; clear hb hbox hg) | ((with_reducible refine gate_dst (N := 4) rfl ?_); refine be 4 #[.slice none 0 0, .slice none 0 0] 46 ?_; intro c5 hg M5 hbox hb; have a5 := Aside0.mk (hbox); have t8 := bsz HB hg; replace HB := bstep HB hb; have d1 := blt a3 hg; have d0 := bgt a3 hg; replace a3 := bkb a3 hb; have b7 := blt a1 hg; have b6 := bgt a1 hg; replace a1 := bkb a1 hb; clear hb hbox hg; have H5 := b9.out; have F2 := b8.out; have H4 := d1.out; have F1 := d0.out; obtain ⟨D1, D0, A1, A0⟩ := cz2 a3; have H3 := b7.out; have F0 := b6.out; obtain ⟨C9, C8, y9, y8⟩ := cz2 a1) | ((with_reducible refine gate_callee (f := 55) rfl ?_); refine gl 13 Tryz.func55 #[.agg #[.slice e1 b5.length d7, .slice e0 b4.length d6], .agg #[.slice d9 a7.length c8, .slice d8 a0.length c7]] (h := ?_); (with_reducible refine (scarfjointref18_Typed.calls k _ _ b5 _ _ b4 _ _ a7 _ _ a0 d3 _ ?d5 ?d4 ?j2 ?j1 ?j0 ?h9 ?h8 ?h7 A3.out).mono ?_); (case d5 => exact cb p0 HB); (case d4 => exact p7.out); (case j2 => exact cb o9 HB); (case j1 => exact p6.out); (case j0 => exact cb g1 HB); (case h9 => exact p5.out); (case h8 => exact cb j6 HB); (case h7 => exact p4.out); rintro e M4 ⟨rfl, hb⟩; refine ⟨_, rfl, ?_⟩; replace a3 := bkb a3 hb; replace a1 := bkb a1 hb; replace a5 := bkb a5 hb; replace HB := bstep HB hb; (try clear hb); (try clear hb2); (try clear hk); (try clear hi); obtain ⟨C7, C6, y7, y6⟩ := cz2 a5))
  refine bodyPost_ret (results_ct rfl _ _ c5 46 #[.slice none 0 0, .slice none 0 0] (0, 0) _ rfl (by (with_reducible repeat (first | refine dN ?_ _ | refine dR ?_ | refine dA ?_ _)); refine blk_put (cs := #[.slice none 0 0, .slice none 0 0]) ?_ 1 _ rfl; refine blk_put (cs := #[.slice none 0 0, .slice none 0 0]) ?_ 0 _ rfl; (with_reducible repeat (first | refine dN ?_ _ | refine dR ?_ | refine dA ?_ _)); exact a5.out) Tryz.underlying46 rfl (by kernel_rfl)) rfl ?_
  exact ⟨_, _, erf, by first | exact Kd.R_nil _ _ _ _ _ | exact Kd.N_nil _ _ _ _ _ | exact Kd.V_nil _ _ _ _ _ | exact Kd.Q_nil _ _ _ _ _ | exact Kd.S_nil _ _ _ _ _, by first | exact Kd.R_nil _ _ _ _ _ | exact Kd.N_nil _ _ _ _ _ | exact Kd.V_nil _ _ _ _ _ | exact Kd.Q_nil _ _ _ _ _ | exact Kd.S_nil _ _ _ _ _, bb HB⟩
 rw [if_pos c4] at H
 have t4 := beq_iff_eq.mpr c4
 have t3 := bne_eq_false_iff_eq.mpr c4
 clear c4
 have H' := Aside0.mk H
 clear H
 go_enter Tryz.func22, Tryz.ntmps22
 go_wp2_with (first | ((with_reducible refine gate_dst (N := 2) rfl ?_); refine be 2 #[.slice e1 b5.length d7, .slice e0 b4.length d6] 31 ?_; intro g6 hg w5 hbox hb; have a3 := Aside0.mk (hbox); have v0 := bsz HB hg; replace HB := bstep HB hb; clear hb hbox hg) | ((with_reducible refine gate_dst (N := 3) rfl ?_); refine be 3 #[.slice d9 a7.length c8, .slice d8 a0.length c7] 35 ?_; intro c9 hg w6 hbox hb; have a1 := Aside0.mk (hbox); have t9 := bsz HB hg; replace HB := bstep HB hb; have b9 := blt a3 hg; have b8 := bgt a3 hg; replace a3 := bkb a3 hb; clear hb hbox hg) | ((with_reducible refine gate_dst (N := 4) rfl ?_); refine be 4 #[.slice none 0 0, .slice none 0 0] 46 ?_; intro c5 hg w7 hbox hb; have a5 := Aside0.mk (hbox); have t8 := bsz HB hg; replace HB := bstep HB hb; have d1 := blt a3 hg; have d0 := bgt a3 hg; replace a3 := bkb a3 hb; have b7 := blt a1 hg; have b6 := bgt a1 hg; replace a1 := bkb a1 hb; clear hb hbox hg; have M3 := b9.out; have M1 := b8.out; have M2 := d1.out; have M0 := d0.out; obtain ⟨q9, q8, q3, q2⟩ := cz2 a3; have J5 := b7.out; have H2 := b6.out; obtain ⟨q7, q6, q1, q0⟩ := cz2 a1) | ((with_reducible refine gate_callee (f := 55) rfl ?_); refine gl 13 Tryz.func55 #[.agg #[.slice e1 b5.length d7, .slice e0 b4.length d6], .agg #[.slice d9 a7.length c8, .slice d8 a0.length c7]] (h := ?_); (with_reducible refine (scarfjointref18_Typed.calls k _ _ b5 _ _ b4 _ _ a7 _ _ a0 d3 _ ?d5 ?d4 ?j2 ?j1 ?j0 ?h9 ?h8 ?h7 A3.out).mono ?_); (case d5 => exact cb p0 HB); (case d4 => exact p7.out); (case j2 => exact cb o9 HB); (case j1 => exact p6.out); (case j0 => exact cb g1 HB); (case h9 => exact p5.out); (case h8 => exact cb j6 HB); (case h7 => exact p4.out); rintro e N1 ⟨rfl, hb⟩; refine ⟨_, rfl, ?_⟩; replace a3 := bkb a3 hb; replace a1 := bkb a1 hb; replace a5 := bkb a5 hb; replace HB := bstep HB hb; (try clear hb); (try clear hb2); (try clear hk); (try clear hi)) | ((with_reducible refine gate_dst (N := 7) rfl ?_); refine be 7 #[.slice none 0 0, .slice none 0 0] 46 ?_; intro c0 hg N0 hbox hb; have a4 := Aside0.mk (hbox); have L5 := bsz HB hg; replace HB := bstep HB hb; have e5 := blt a3 hg; have e3 := bgt a3 hg; replace a3 := bkb a3 hb; have c2 := blt a1 hg; have c1 := bgt a1 hg; replace a1 := bkb a1 hb; have e4 := blt a5 hg; have e2 := bgt a5 hg; replace a5 := bkb a5 hb; clear hb hbox hg))
 go_loopg [8] k (fun kq v8 w' => ∃ (c6 : Int) (a8 : List (S75)) (b2 : Value), v8 = .int .i64 c6 ∧ Aside0 (scarfjointref18_Of.l0 kq c6 a7 a0 a8 = some (r1, r2, r3)) ∧ Aside0 (kq ≤ k) ∧ Aside0 (Kd.R k75 75 w' w.heap.size (fun _ => True) b2 a8) ∧ Aside0 (w'.heap[g6]? = some (.cells #[(.slice e1 b5.length d7), (.slice e0 b4.length d6)] 31 (0, 0))) ∧ Aside0 (w'.heap[c9]? = some (.cells #[(.slice d9 a7.length c8), (.slice d8 a0.length c7)] 35 (0, 0))) ∧ Aside0 (w'.heap[c5]? = some (.cells #[(.slice none 0 0), (.slice none 0 0)] 46 (0, 0))) ∧ Aside0 (w'.heap[c0]? = some (.cells #[b2, (.slice none 0 0)] 46 (0, 0))) ∧ Aside0 (Below w.heap.size w w'))
 case atStart => exact ⟨(0), (([] : List (S75))), (.slice none 0 0), eqs, H', ⟨Nat.le_refl _⟩, ⟨by first | exact Kd.R_nil _ _ _ _ _ | exact Kd.N_nil _ _ _ _ _ | exact Kd.V_nil _ _ _ _ _ | exact Kd.Q_nil _ _ _ _ _ | exact Kd.S_nil _ _ _ _ _⟩, ⟨bk a3⟩, ⟨bk a1⟩, ⟨bk a5⟩, ⟨bk a4⟩, ⟨bb HB⟩⟩
 case round =>
  clear H'
  clear t4
  clear t3
  clear q9
  clear q8
  clear q7
  clear q6
  clear q3
  clear q2
  clear q1
  clear q0
  obtain ⟨c6, a8, b2, rfl, HA, p3, HO_850000, a3, a1, a5, a4, HB⟩ := hrel
  cases gk with
  | zero => exact absurd HA.out (by simp [scarfjointref18_Of.l0])
  | succ k1 =>
   have H := HA.out
   clear HA
   simp only [scarfjointref18_Of.l0] at H
   by_cases h6 : c6 < (a7.length : Int)
   ·rw [if_pos h6] at H
    have o6 := decide_eq_true h6
    clear h6
    obtain ⟨v6, H⟩ := itn H
    have L3 := decide_eq_true v6
    clear v6
    obtain ⟨g2, E9, H⟩ := obA H
    have H' := Aside0.mk H
    clear H
    have J4 := b8.out
    have H1 := b9.out
    have J3 := b7.out
    have H0 := b6.out
    have J2 := c2.out
    have G9 := c1.out
    obtain ⟨E4, E3, C5, C4⟩ := cz2 a1
    try go_wp2
    replace HO_850000 := Aside0.mk (Kd.R_drew HO_850000.out)
    replace a3 := Aside0.mk (blk_drew a3.out)
    replace a1 := Aside0.mk (blk_drew a1.out)
    replace a5 := Aside0.mk (blk_drew a5.out)
    replace a4 := Aside0.mk (blk_drew a4.out)
    replace HB := Aside0.mk (below_drew1 HB.out)
    have n3 : 0 ≤ c6 := odt
    have m9 : c6 < (a7.length : Int) := odt
    obtain ⟨o8, w4, e8⟩ := Kd.at_int g1.out c6 n3 m9
    have h4 := e8
    cases w4
    replace e8 := hxc HB e8
    replace n3 := eq_true n3
    replace m9 := eq_true m9
    obtain ⟨j9, j5, eo23⟩ := Kd.R_slice HO_850000.out
    (first | subst eo23 | (injection eo23 with f1_ f2_ f3_; have f4_ := f1_.symm; have f5_ := f3_.symm; clear f1_ f2_ f3_; subst f4_; subst f5_))
    refine start_ (n := 11) (S := fun w' => w'.cell? ⟨c0, 0, none⟩ = some (.slice j9 a8.length j5) ∧ w'.cell? ⟨c0, 1, none⟩ = some (.slice none 0 0) ∧ w'.cell? ⟨c9, 0, none⟩ = some (.slice (some o8) a7.length c8) ∧ w'.cell? ⟨c9, 1, none⟩ = some (.slice d8 a0.length c7) ∧ w'.cell? (o8.add (c6).toNat) = some (.int .i64 (rd a7 c6))) (ds := [10]) #[false, false, false, false, false, false, false, false, false, false, false] (by kernel_rfl) rfl rfl ⟨bc a4 0, bc a4 1, bc a1 0, bc a1 1, (hxc HB h4)⟩ (fun hHeld => ?_); refine with_tabW scarfjointref18_Of.tab8 scarfjointref18_Of.bits8 (fun HT_ HW_ => ?_)
    generalize wr.drew = M9 at HO_850000 a3 a1 a5 a4 HB e8 hHeld ⊢
    refine pu 0 25 (bits 11 0x1) HT_ (h := ?_)
    refine pu 2 27 (bits 11 0x5) HT_ (h := ?_)
    refine pu 4 29 (bits 11 0x15) HT_ (h := ?_)
    refine tk 1 26 (bits 11 0x17) HT_ HW_ hHeld (hy := by rintro w' ⟨s0, s1, s2, s3, s4⟩; go_simp; with_reducible rfl) (h := ?_)
    refine tk 3 28 (bits 11 0x1f) HT_ HW_ hHeld (hy := by rintro w' ⟨s0, s1, s2, s3, s4⟩; go_simp; with_reducible rfl) (h := ?_)
    refine pu 5 30 (bits 11 0x3f) HT_ (h := ?_)
    refine tk 6 31 (bits 11 0x7f) HT_ HW_ hHeld (hy := by rintro w' ⟨s0, s1, s2, s3, s4⟩; go_simp; with_reducible rfl) (h := ?_)
    refine pu 7 32 (bits 11 0xff) HT_ (h := ?_)
    refine one_ (i := 8) (N := some 33) #[true, true, true, true, true, true, true, true, true, false, false] rfl rfl (one_of HT_.out (by kernel_rfl)) (by decide) (fun K hK => ?_)
    refine goes_ Tryz.func56 (by kernel_rfl) rfl #[.slice j9 a8.length j5, .agg #[.int .i64 (rd a7 c6), .int .i64 0, .int .i64 0, .int .i64 0], .int .i64 1] (by rfl) rfl rfl (by (try simp only [List.map_toArray, List.map_cons, List.map_nil]); first | done | rfl | (simp only [List.length_drop, List.length_take]; rfl)) ?_
    with_reducible refine (scarfjointref18_change.calls k1 _ _ a8 (rd a7 c6) 0 0 0 1 g2 _ ?d5 ?d4 E9.out).mono ?_
    (case d5 => repeat (first | exact (Kd.R_reads' HO_850000.out).2.2 | (with_reducible refine Kd.C_alloc ?_ _) | (with_reducible refine Kd.C_drewN ?_ _) | (with_reducible refine Kd.C_drew ?_)))
    (case d4 => exact (Kd.R_reads' HO_850000.out).2.1)
    rintro e E7 ⟨L7, rfl, g3, hb⟩
    refine ⟨_, rfl, ?_⟩
    have p2 := Aside0.mk (Kd.R_lower (Kd.R_new' g3 (Kd.R_lt (kR HO_850000))) (below_size (bb HB)))
    replace HO_850000 := Aside0.mk (Kd.R_elder' (kR HO_850000) (Kd.R_base g3) hb)
    replace a3 := bkb a3 hb
    replace a1 := bkb a1 hb
    replace a5 := bkb a5 hb
    replace a4 := bkb a4 hb
    replace HB := bstep HB hb
    clear hb
    clear g3
    obtain ⟨t5, t2, eo25⟩ := Kd.R_slice p2.out
    (first | subst eo25 | (injection eo25 with f1_ f2_ f3_; have f4_ := f1_.symm; have f5_ := f3_.symm; clear f1_ f2_ f3_; subst f4_; subst f5_))
    refine hK.out _ _ ⟨bc a4 0, bc a4 1, bc a1 0, bc a1 1, (hxc HB h4)⟩ (fun hHeld => ?_)
    clear hK K
    refine norm_ (a' := ?_) ?_ ?_
    rotate_left
    ·show Act.put _ (some 33) _ = _
     simp only [Act.put, List.setIfInBounds_toArray, List.set_cons_zero, List.set_cons_succ, i64_w, i32_w]
     rfl
    refine pu 9 34 (bits 11 0x3ff) HT_ (h := ?_)
    refine last_ (i := 10) (N := none) #[true, true, true, true, true, true, true, true, true, true, true] rfl rfl (one_of HT_.out (by kernel_rfl)) (by decide) (fun K hK => ?_)
    have L9 : E7.cell? ⟨c0, 0, none⟩ = some (.slice j9 a8.length j5) := bc a4 0
    have J7 := blk_frozen a4.out 0
    have x6 := e5.out
    have x4 := c2.out
    have x3 := e4.out
    have y5 := e3.out
    have y4 := c1.out
    have y3 := e2.out
    refine skip_ (w1 := ?_) (by rfl) rfl ?_ ?_
    rotate_left
    ·go_simp
     rfl
    refine hK.out _ _ ?_
    clear hK K
    refine done_ (done_of HT_.out (by kernel_rfl)) ?_
    try go_wp2
    go_roundg k1
    case measure => have := p3.out; omega
    case rel => exact ⟨(wrap64 (c6 + 1)), (g2), (.slice t5 g2.length t2), eqs, H', ⟨by have := p3.out; omega⟩, ⟨by (with_reducible repeat (first | apply Kd.R_alloc | apply Kd.R_drewN | apply Kd.R_drew)); exact Kd.R_mono (Kd.R_far (p := ⟨c0, 0, none⟩) (Kd.R_types p2.out a4.out (by decide)) (fun _ hk => hk.2) (.slice t5 g2.length t2)) (fun _ hk => trivial)⟩, ⟨bkF a3⟩, ⟨bkF a1⟩, ⟨bkF a5⟩, ⟨by (with_reducible repeat (first | refine dN ?_ _ | refine dR ?_ | refine dA ?_ _)); refine blk_put (cs := #[.slice j9 a8.length j5, .slice none 0 0]) ?_ 0 _ rfl; (with_reducible repeat (first | refine dN ?_ _ | refine dR ?_ | refine dA ?_ _)); exact a4.out⟩, ⟨bb HB⟩⟩
   rw [if_neg h6] at H
   have o6 := decide_eq_false h6
   clear h6
   have H' := Aside0.mk H
   clear H
   have J1 := b8.out
   have G8 := b9.out
   have J0 := b7.out
   have G7 := b6.out
   have I9 := c2.out
   have G6 := c1.out
   obtain ⟨q5, q4, p9, p8⟩ := cz2 a1
   go_wp2
   go_loopg [9] k1 (fun kq v9 w' => ∃ (a2 : Int) (a9 : List (S75)) (c3 : Value), v9 = .int .i64 a2 ∧ Aside0 (scarfjointref18_Of.l1 kq a2 a7 a0 a8 a9 = some (r1, r2, r3)) ∧ Aside0 (kq ≤ k1) ∧ Aside0 (Kd.R k75 75 w' w.heap.size (fun k_ => some k_ ≠ (c3 : Value).ownBlock) b2 a8) ∧ Aside0 (Kd.R k75 75 w' w.heap.size (fun k_ => some k_ ≠ (b2 : Value).ownBlock) c3 a9) ∧ Aside0 (w'.heap[g6]? = some (.cells #[(.slice e1 b5.length d7), (.slice e0 b4.length d6)] 31 (0, 0))) ∧ Aside0 (w'.heap[c9]? = some (.cells #[(.slice d9 a7.length c8), (.slice d8 a0.length c7)] 35 (0, 0))) ∧ Aside0 (w'.heap[c5]? = some (.cells #[(.slice none 0 0), (.slice none 0 0)] 46 (0, 0))) ∧ Aside0 (w'.heap[c0]? = some (.cells #[b2, c3] 46 (0, 0))) ∧ Aside0 (Below w.heap.size w w'))
   case atStart => exact ⟨(0), (([] : List (S75))), (.slice none 0 0), eqs, H', ⟨Nat.le_refl _⟩, ⟨by (with_reducible repeat (first | apply Kd.R_alloc | apply Kd.R_drewN | apply Kd.R_drew)); exact Kd.R_mono HO_850000.out (fun _ hk => (by simp [Value.ownBlock]))⟩, ⟨by first | exact Kd.R_nil _ _ _ _ _ | exact Kd.N_nil _ _ _ _ _ | exact Kd.V_nil _ _ _ _ _ | exact Kd.Q_nil _ _ _ _ _ | exact Kd.S_nil _ _ _ _ _⟩, ⟨bk a3⟩, ⟨bk a1⟩, ⟨bk a5⟩, ⟨bk a4⟩, ⟨bb HB⟩⟩
   case round =>
    clear H'
    clear o6
    clear q5
    clear q4
    clear p9
    clear p8
    obtain ⟨a2, a9, c3, rfl, HA, v7, HO_850000, HO_850001, a3, a1, a5, a4, HB⟩ := hrel
    cases gk with
    | zero => exact absurd HA.out (by simp [scarfjointref18_Of.l1])
    | succ k2 =>
     have H := HA.out
     clear HA
     simp only [scarfjointref18_Of.l1] at H
     by_cases h5 : a2 < (a0.length : Int)
     rotate_left
     ·rw [if_neg h5] at H
      have t6 := decide_eq_false h5
      clear h5
      simp only [Option.some.injEq, Prod.mk.injEq] at H
      obtain ⟨rfl, rfl, rfl⟩ := H
      have I1 := b8.out
      have F8 := b9.out
      have I0 := b7.out
      have F7 := b6.out
      have H9 := c2.out
      have F6 := c1.out
      obtain ⟨D7, D6, A8, A7⟩ := cz2 a1
      have H8 := e3.out
      have F5 := e5.out
      have H7 := e2.out
      have F4 := e4.out
      obtain ⟨D5, D4, A6, A5⟩ := cz2 a4
      obtain ⟨j7, j3, eo61⟩ := Kd.R_slice HO_850000.out
      subst eo61
      have H6 := d0.out
      have F3 := d1.out
      obtain ⟨D3, D2, A4, A2⟩ := cz2 a5
      obtain ⟨n6, n4, eo64⟩ := Kd.R_slice HO_850001.out
      subst eo64
      go_wp2
      refine bodyPost_ret (results_ct rfl _ _ c5 46 #[.slice j7 a8.length j3, .slice n6 a9.length n4] (0, 0) _ rfl (by (with_reducible repeat (first | refine dN ?_ _ | refine dR ?_ | refine dA ?_ _)); refine blk_put (cs := #[.slice j7 a8.length j3, .slice none 0 0]) ?_ 1 _ rfl; refine blk_put (cs := #[.slice none 0 0, .slice none 0 0]) ?_ 0 _ rfl; (with_reducible repeat (first | refine dN ?_ _ | refine dR ?_ | refine dA ?_ _)); exact a5.out) Tryz.underlying46 rfl (by kernel_rfl)) rfl ?_
      exact ⟨_, _, erf, by (with_reducible repeat (first | apply Kd.R_alloc | apply Kd.R_drewN | apply Kd.R_drew)); exact Kd.R_mono (Kd.R_far (p := ⟨c5, 1, none⟩) (Kd.R_far (p := ⟨c5, 0, none⟩) (Kd.R_types HO_850000.out a5.out (by decide)) (fun _ hk => hk.2) (.slice j7 a8.length j3)) (fun _ hk => hk.2) (.slice n6 a9.length n4)) (fun _ hk => hk.1), by (with_reducible repeat (first | apply Kd.R_alloc | apply Kd.R_drewN | apply Kd.R_drew)); exact Kd.R_mono (Kd.R_far (p := ⟨c5, 1, none⟩) (Kd.R_far (p := ⟨c5, 0, none⟩) (Kd.R_types HO_850001.out a5.out (by decide)) (fun _ hk => hk.2) (.slice j7 a8.length j3)) (fun _ hk => hk.2) (.slice n6 a9.length n4)) (fun _ hk => hk.1), bb HB⟩
     rw [if_pos h5] at H
     have t6 := decide_eq_true h5
     clear h5
     obtain ⟨v5, H⟩ := itn H
     have L2 := decide_eq_true v5
     clear v5
     obtain ⟨v4, H⟩ := itn H
     have L1 := decide_eq_true v4
     clear v4
     obtain ⟨v3, H⟩ := itn H
     have L0 := decide_eq_true v3
     clear v3
     obtain ⟨v2, H⟩ := itn H
     have J9 := decide_eq_true v2
     clear v2
     obtain ⟨v1, H⟩ := itn H
     have J8 := decide_eq_true v1
     clear v1
     obtain ⟨e9, E8, H⟩ := obA H
     have H' := Aside0.mk H
     clear H
     have I8 := b8.out
     have G5 := b9.out
     have I7 := b7.out
     have G4 := b6.out
     have I6 := c2.out
     have G3 := c1.out
     obtain ⟨E2, E1, C3, C2⟩ := cz2 a1
     have n2 : 0 ≤ a2 := odt
     have m8 : a2 < (a0.length : Int) := odt
     obtain ⟨o7, w3, h1, h0, g9⟩ := at_T56 j6.out a2 n2 m8
     cases w3
     replace h1 := hxc HB h1
     replace h0 := hxc HB h0
     replace g9 := hxc HB g9
     replace n2 := eq_true n2
     replace m8 := eq_true m8
     try go_wp2_with ((with_reducible refine gate_dst (N := 10) rfl ?_); refine be 10 #[.int .i64 0, .int .i64 0, .int .i64 0] 56 ?_; intro a6 hg g0 hbox hb; replace HO_850000 := kRb HO_850000 hb; replace HO_850001 := kRb HO_850001 hb; have b1 := Aside0.mk (hbox); have L4 := bsz HB hg; replace HB := bstep HB hb; have m5 := blt a3 hg; have m2 := bgt a3 hg; replace a3 := bkb a3 hb; have m4 := blt a1 hg; have m1 := bgt a1 hg; replace a1 := bkb a1 hb; have m3 := blt a5 hg; have m0 := bgt a5 hg; replace a5 := bkb a5 hb; have g5 := blt a4 hg; have g4 := bgt a4 hg; replace a4 := bkb a4 hb; clear hb hbox hg; have I5 := m2.out; have G2 := m5.out; have I4 := m1.out; have G1 := m4.out; have I3 := m0.out; have G0 := m3.out; have I2 := g4.out; have F9 := g5.out; obtain ⟨E0, D9, D8, C1, C0, A9⟩ := cz3 b1)
     have t1 : Aside0 (Kd.R k75 75 (((g0.setCell ⟨a6, 0, none⟩ (.int .i64 ((rd_T56 a0 a2).f0))).setCell ⟨a6, 1, none⟩ (.int .i64 ((rd_T56 a0 a2).f1))).setCell ⟨a6, 2, none⟩ (.int .i64 ((rd_T56 a0 a2).f2))) w.heap.size (fun k_ => some k_ ≠ (c3 : Value).ownBlock) b2 a8) := ⟨by (with_reducible repeat (first | apply Kd.R_alloc | apply Kd.R_drewN | apply Kd.R_drew)); exact Kd.R_mono (Kd.R_far (p := ⟨a6, 2, none⟩) (Kd.R_far (p := ⟨a6, 1, none⟩) (Kd.R_far (p := ⟨a6, 0, none⟩) (Kd.R_types HO_850000.out b1.out (by decide)) (fun _ hk => hk.2) (.int .i64 ((rd_T56 a0 a2).f0))) (fun _ hk => hk.2) (.int .i64 ((rd_T56 a0 a2).f1))) (fun _ hk => hk.2) (.int .i64 ((rd_T56 a0 a2).f2))) (fun _ hk => hk.1)⟩
     have t0 : Aside0 (Kd.R k75 75 (((g0.setCell ⟨a6, 0, none⟩ (.int .i64 ((rd_T56 a0 a2).f0))).setCell ⟨a6, 1, none⟩ (.int .i64 ((rd_T56 a0 a2).f1))).setCell ⟨a6, 2, none⟩ (.int .i64 ((rd_T56 a0 a2).f2))) w.heap.size (fun k_ => some k_ ≠ (b2 : Value).ownBlock) c3 a9) := ⟨by (with_reducible repeat (first | apply Kd.R_alloc | apply Kd.R_drewN | apply Kd.R_drew)); exact Kd.R_mono (Kd.R_far (p := ⟨a6, 2, none⟩) (Kd.R_far (p := ⟨a6, 1, none⟩) (Kd.R_far (p := ⟨a6, 0, none⟩) (Kd.R_types HO_850001.out b1.out (by decide)) (fun _ hk => hk.2) (.int .i64 ((rd_T56 a0 a2).f0))) (fun _ hk => hk.2) (.int .i64 ((rd_T56 a0 a2).f1))) (fun _ hk => hk.2) (.int .i64 ((rd_T56 a0 a2).f2))) (fun _ hk => hk.1)⟩
     have s9 : Aside0 ((((g0.setCell ⟨a6, 0, none⟩ (.int .i64 ((rd_T56 a0 a2).f0))).setCell ⟨a6, 1, none⟩ (.int .i64 ((rd_T56 a0 a2).f1))).setCell ⟨a6, 2, none⟩ (.int .i64 ((rd_T56 a0 a2).f2))).heap[g6]? = some (.cells #[.slice e1 b5.length d7, .slice e0 b4.length d6] 31 (0, 0))) := ⟨bkF a3⟩
     have r9 : Aside0 ((((g0.setCell ⟨a6, 0, none⟩ (.int .i64 ((rd_T56 a0 a2).f0))).setCell ⟨a6, 1, none⟩ (.int .i64 ((rd_T56 a0 a2).f1))).setCell ⟨a6, 2, none⟩ (.int .i64 ((rd_T56 a0 a2).f2))).heap[c9]? = some (.cells #[.slice d9 a7.length c8, .slice (some o7) a0.length c7] 35 (0, 0))) := ⟨bkF a1⟩
     have r8 : Aside0 ((((g0.setCell ⟨a6, 0, none⟩ (.int .i64 ((rd_T56 a0 a2).f0))).setCell ⟨a6, 1, none⟩ (.int .i64 ((rd_T56 a0 a2).f1))).setCell ⟨a6, 2, none⟩ (.int .i64 ((rd_T56 a0 a2).f2))).heap[c5]? = some (.cells #[.slice none 0 0, .slice none 0 0] 46 (0, 0))) := ⟨bkF a5⟩
     have r7 : Aside0 ((((g0.setCell ⟨a6, 0, none⟩ (.int .i64 ((rd_T56 a0 a2).f0))).setCell ⟨a6, 1, none⟩ (.int .i64 ((rd_T56 a0 a2).f1))).setCell ⟨a6, 2, none⟩ (.int .i64 ((rd_T56 a0 a2).f2))).heap[c0]? = some (.cells #[b2, c3] 46 (0, 0))) := ⟨bkF a4⟩
     have r6 : Aside0 ((((g0.setCell ⟨a6, 0, none⟩ (.int .i64 ((rd_T56 a0 a2).f0))).setCell ⟨a6, 1, none⟩ (.int .i64 ((rd_T56 a0 a2).f1))).setCell ⟨a6, 2, none⟩ (.int .i64 ((rd_T56 a0 a2).f2))).heap[a6]? = some (.cells #[.int .i64 ((rd_T56 a0 a2).f0), .int .i64 ((rd_T56 a0 a2).f1), .int .i64 ((rd_T56 a0 a2).f2)] 56 (0, 0))) := ⟨by (with_reducible repeat (first | refine dN ?_ _ | refine dR ?_ | refine dA ?_ _)); refine blk_put (cs := #[.int .i64 ((rd_T56 a0 a2).f0), .int .i64 ((rd_T56 a0 a2).f1), .int .i64 0]) ?_ 2 _ rfl; refine blk_put (cs := #[.int .i64 ((rd_T56 a0 a2).f0), .int .i64 0, .int .i64 0]) ?_ 1 _ rfl; refine blk_put (cs := #[.int .i64 0, .int .i64 0, .int .i64 0]) ?_ 0 _ rfl; (with_reducible repeat (first | refine dN ?_ _ | refine dR ?_ | refine dA ?_ _)); exact b1.out⟩
     have r5 : Aside0 (Below w.heap.size w (((g0.setCell ⟨a6, 0, none⟩ (.int .i64 ((rd_T56 a0 a2).f0))).setCell ⟨a6, 1, none⟩ (.int .i64 ((rd_T56 a0 a2).f1))).setCell ⟨a6, 2, none⟩ (.int .i64 ((rd_T56 a0 a2).f2)))) := ⟨bb HB⟩
     clear HO_850000
     clear HO_850001
     clear a3
     clear a1
     clear a5
     clear a4
     clear b1
     clear HB
     generalize (((g0.setCell ⟨a6, 0, none⟩ (.int .i64 ((rd_T56 a0 a2).f0))).setCell ⟨a6, 1, none⟩ (.int .i64 ((rd_T56 a0 a2).f1))).setCell ⟨a6, 2, none⟩ (.int .i64 ((rd_T56 a0 a2).f2))) = E6 at t1 t0 s9 r9 r8 r7 r6 r5 ⊢
     have HO_850000 := t1
     have HO_850001 := t0
     have a3 := s9
     have a1 := r9
     have a5 := r8
     have a4 := r7
     have b1 := r6
     have HB := r5
     clear t1 t0 s9 r9 r8 r7 r6 r5
     replace HO_850000 := Aside0.mk (Kd.R_drew HO_850000.out)
     replace HO_850001 := Aside0.mk (Kd.R_drew HO_850001.out)
     replace a3 := Aside0.mk (blk_drew a3.out)
     replace a1 := Aside0.mk (blk_drew a1.out)
     replace a5 := Aside0.mk (blk_drew a5.out)
     replace a4 := Aside0.mk (blk_drew a4.out)
     replace b1 := Aside0.mk (blk_drew b1.out)
     replace HB := Aside0.mk (below_drew1 HB.out)
     have n1 : 0 ≤ (((rd_T56 a0 a2).f1) : Int) := odt
     have m7 : ((rd_T56 a0 a2).f1) < (a7.length : Int) := odt
     obtain ⟨g7, w2, e7⟩ := Kd.at_int g1.out ((rd_T56 a0 a2).f1) n1 m7
     have h3 := e7
     cases w2
     replace e7 := hxc HB e7
     replace n1 := eq_true n1
     replace m7 := eq_true m7
     have n0 : 0 ≤ (((rd_T56 a0 a2).f2) : Int) := odt
     have m6 : ((rd_T56 a0 a2).f2) < (a7.length : Int) := odt
     obtain ⟨t7, w0, e6⟩ := Kd.at_int g1.out ((rd_T56 a0 a2).f2) n0 m6
     have h2 := e6
     obtain rfl : g7 = t7 := (by injection w0)
     replace e6 := hxc HB e6
     replace n0 := eq_true n0
     replace m6 := eq_true m6
     obtain ⟨j8, j4, eo50⟩ := Kd.R_slice HO_850001.out
     (first | subst eo50 | (injection eo50 with f1_ f2_ f3_; have f4_ := f1_.symm; have f5_ := f3_.symm; clear f1_ f2_ f3_; subst f4_; subst f5_))
     refine start_ (n := 20) (S := fun w' => w'.cell? ⟨c0, 0, none⟩ = some (b2) ∧ w'.cell? ⟨c0, 1, none⟩ = some (.slice j8 a9.length j4) ∧ w'.cell? ⟨a6, 0, none⟩ = some (.int .i64 ((rd_T56 a0 a2).f0)) ∧ w'.cell? ⟨a6, 1, none⟩ = some (.int .i64 ((rd_T56 a0 a2).f1)) ∧ w'.cell? ⟨a6, 2, none⟩ = some (.int .i64 ((rd_T56 a0 a2).f2)) ∧ w'.cell? ⟨c9, 0, none⟩ = some (.slice (some g7) a7.length c8) ∧ w'.cell? ⟨c9, 1, none⟩ = some (.slice (some o7) a0.length c7) ∧ w'.cell? (g7.add (((rd_T56 a0 a2).f1)).toNat) = some (.int .i64 (rd a7 ((rd_T56 a0 a2).f1))) ∧ w'.cell? (g7.add (((rd_T56 a0 a2).f2)).toNat) = some (.int .i64 (rd a7 ((rd_T56 a0 a2).f2)))) (ds := [19]) #[false, false, false, false, false, false, false, false, false, false, false, false, false, false, false, false, false, false, false, false] (by kernel_rfl) rfl rfl ⟨bc a4 0, bc a4 1, bc b1 0, bc b1 1, bc b1 2, bc a1 0, bc a1 1, (hxc HB h3), (hxc HB h2)⟩ (fun hHeld => ?_); refine with_tabW scarfjointref18_Of.tab13 scarfjointref18_Of.bits13 (fun HT_ HW_ => ?_)
     generalize E6.drew = M8 at HO_850000 HO_850001 a3 a1 a5 a4 b1 HB e7 e6 hHeld ⊢
     refine pu 0 47 (bits 20 0x1) HT_ (h := ?_)
     refine pu 2 49 (bits 20 0x5) HT_ (h := ?_)
     refine pu 4 51 (bits 20 0x15) HT_ (h := ?_)
     refine pu 6 53 (bits 20 0x55) HT_ (h := ?_)
     refine pu 10 57 (bits 20 0x455) HT_ (h := ?_)
     refine pu 12 59 (bits 20 0x1455) HT_ (h := ?_)
     refine tk 1 48 (bits 20 0x1457) HT_ HW_ hHeld (hy := by rintro w' ⟨s0, s1, s2, s3, s4, s5, s6, s7, s8⟩; go_simp; with_reducible rfl) (h := ?_)
     refine tk 3 50 (bits 20 0x145f) HT_ HW_ hHeld (hy := by rintro w' ⟨s0, s1, s2, s3, s4, s5, s6, s7, s8⟩; go_simp; with_reducible rfl) (h := ?_)
     refine tk 5 52 (bits 20 0x147f) HT_ HW_ hHeld (hy := by rintro w' ⟨s0, s1, s2, s3, s4, s5, s6, s7, s8⟩; go_simp; with_reducible rfl) (h := ?_)
     refine tk 7 54 (bits 20 0x14ff) HT_ HW_ hHeld (hy := by rintro w' ⟨s0, s1, s2, s3, s4, s5, s6, s7, s8⟩; go_simp; with_reducible rfl) (h := ?_)
     refine pu 8 55 (bits 20 0x15ff) HT_ (h := ?_)
     refine tk 9 56 (bits 20 0x17ff) HT_ HW_ hHeld (hy := by rintro w' ⟨s0, s1, s2, s3, s4, s5, s6, s7, s8⟩; go_simp; with_reducible rfl) (h := ?_)
     refine tk 11 58 (bits 20 0x1fff) HT_ HW_ hHeld (hy := by rintro w' ⟨s0, s1, s2, s3, s4, s5, s6, s7, s8⟩; go_simp; with_reducible rfl) (h := ?_)
     refine tk 13 60 (bits 20 0x3fff) HT_ HW_ hHeld (hy := by rintro w' ⟨s0, s1, s2, s3, s4, s5, s6, s7, s8⟩; go_simp; with_reducible rfl) (h := ?_)
     refine pu 14 61 (bits 20 0x7fff) HT_ (h := ?_)
     refine tk 15 62 (bits 20 0xffff) HT_ HW_ hHeld (hy := by rintro w' ⟨s0, s1, s2, s3, s4, s5, s6, s7, s8⟩; go_simp; with_reducible rfl) (h := ?_)
     refine pu 16 63 (bits 20 0x1ffff) HT_ (h := ?_)
     refine one_ (i := 17) (N := some 64) #[true, true, true, true, true, true, true, true, true, true, true, true, true, true, true, true, true, true, false, false] rfl rfl (one_of HT_.out (by kernel_rfl)) (by decide) (fun K hK => ?_)
     refine goes_ Tryz.func56 (by kernel_rfl) rfl #[.slice j8 a9.length j4, .agg #[.int .i64 ((rd_T56 a0 a2).f0), .int .i64 (rd a7 ((rd_T56 a0 a2).f1)), .int .i64 (rd a7 ((rd_T56 a0 a2).f2)), .int .i64 0], .int .i64 1] (by rfl) rfl rfl (by (try simp only [List.map_toArray, List.map_cons, List.map_nil]); first | done | rfl | (simp only [List.length_drop, List.length_take]; rfl)) ?_
     with_reducible refine (scarfjointref18_change.calls k2 _ _ a9 ((rd_T56 a0 a2).f0) (rd a7 ((rd_T56 a0 a2).f1)) (rd a7 ((rd_T56 a0 a2).f2)) 0 1 e9 _ ?d5 ?d4 E8.out).mono ?_
     (case d5 => repeat (first | exact (Kd.R_reads' HO_850001.out).2.2 | (with_reducible refine Kd.C_alloc ?_ _) | (with_reducible refine Kd.C_drewN ?_ _) | (with_reducible refine Kd.C_drew ?_)))
     (case d4 => exact (Kd.R_reads' HO_850001.out).2.1)
     rintro e E5 ⟨L6, rfl, g3, hb⟩
     refine ⟨_, rfl, ?_⟩
     have p1 := Aside0.mk (Kd.R_lower (Kd.R_new' (Kd.R_new' g3 (Kd.R_lt (kR HO_850000))) (Kd.R_lt (kR HO_850001))) (below_size (bb HB)))
     replace HO_850000 := Aside0.mk (Kd.R_elder' (kR HO_850000) (Kd.R_base g3) hb)
     replace HO_850001 := Aside0.mk (Kd.R_elder' (kR HO_850001) (Kd.R_base g3) hb)
     replace a3 := bkb a3 hb
     replace a1 := bkb a1 hb
     replace a5 := bkb a5 hb
     replace a4 := bkb a4 hb
     replace b1 := bkb b1 hb
     replace HB := bstep HB hb
     clear hb
     clear g3
     obtain ⟨n7, n5, eo52⟩ := Kd.R_slice p1.out
     (first | subst eo52 | (injection eo52 with f1_ f2_ f3_; have f4_ := f1_.symm; have f5_ := f3_.symm; clear f1_ f2_ f3_; subst f4_; subst f5_))
     refine hK.out _ _ ⟨bc a4 0, bc a4 1, bc b1 0, bc b1 1, bc b1 2, bc a1 0, bc a1 1, (hxc HB h3), (hxc HB h2)⟩ (fun hHeld => ?_)
     clear hK K
     refine norm_ (a' := ?_) ?_ ?_
     rotate_left
     ·show Act.put _ (some 64) _ = _
      simp only [Act.put, List.setIfInBounds_toArray, List.set_cons_zero, List.set_cons_succ, i64_w, i32_w]
      rfl
     refine pu 18 65 (bits 20 0x7ffff) HT_ (h := ?_)
     refine last_ (i := 19) (N := none) #[true, true, true, true, true, true, true, true, true, true, true, true, true, true, true, true, true, true, true, true] rfl rfl (one_of HT_.out (by kernel_rfl)) (by decide) (fun K hK => ?_)
     have L8 : E5.cell? ⟨c0, 1, none⟩ = some (.slice j8 a9.length j4) := bc a4 1
     have J6 := blk_frozen a4.out 1
     have x2 := e5.out
     have x0 := c2.out
     have w9 := e4.out
     have w8 := g4.out
     have y2 := e3.out
     have y1 := c1.out
     have y0 := e2.out
     have x7 := g5.out
     refine skip_ (w1 := ?_) (by rfl) rfl ?_ ?_
     rotate_left
     ·go_simp
      rfl
     refine hK.out _ _ ?_
     clear hK K
     refine done_ (done_of HT_.out (by kernel_rfl)) ?_
     try go_wp2
     go_roundg k2
     case measure => have := p3.out; have := v7.out; omega
     case rel => exact ⟨(wrap64 (a2 + 1)), (e9), (.slice n7 e9.length n5), eqs, H', ⟨by have := p3.out; have := v7.out; omega⟩, ⟨by (with_reducible repeat (first | apply Kd.R_alloc | apply Kd.R_drewN | apply Kd.R_drew)); exact Kd.R_mono (Kd.R_far (p := ⟨c0, 1, none⟩) (Kd.R_types HO_850000.out a4.out (by decide)) (fun _ hk => hk.2) (.slice n7 e9.length n5)) (fun _ hk => hk.1.2)⟩, ⟨by (with_reducible repeat (first | apply Kd.R_alloc | apply Kd.R_drewN | apply Kd.R_drew)); exact Kd.R_mono (Kd.R_far (p := ⟨c0, 1, none⟩) (Kd.R_types p1.out a4.out (by decide)) (fun _ hk => hk.2) (.slice n7 e9.length n5)) (fun _ hk => hk.1.1.2)⟩, ⟨bkF a3⟩, ⟨bkF a1⟩, ⟨bkF a5⟩, ⟨by (with_reducible repeat (first | refine dN ?_ _ | refine dR ?_ | refine dA ?_ _)); refine blk_put (cs := #[b2, .slice j8 a9.length j4]) ?_ 1 _ rfl; (with_reducible repeat (first | refine dN ?_ _ | refine dR ?_ | refine dA ?_ _)); exact a4.out⟩, ⟨bb HB⟩⟩
end Go.Proofs.YtfpianecohobjaaGreat.P
