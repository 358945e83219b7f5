/- typesOrder_holds, typesBounds_holds, typesInherit_holds: a part of the proof that the law returns true for every input. No condition. -/
import Derived.Test.YtfpianecohobjaaAPx0
import Derived.Test.YtfpianecohobjaaAPx3
import Derived.Test.YtfpianecohobjaaAH0
namespace Go.Proofs.Ytfpianecohobjaa.P
open Go.RowKit Go.Proofs.YtfpianecohobjaaW.PrintWords Go.Proofs.YtfpianecohobjaaW.PrintLast Go.Proofs.YtfpianecohobjaaW.PrintMore
set_option linter.unusedVariables false
set_option linter.unusedSimpArgs false
def types_attribute.j0 : Nat → Bool → ByteArray → Int → Int → List ByteArray → Option (Int)
 | 0, _, _, _, _, _ => none
 | k + 1, x6, x142000, x142001, x142002, x142003 => if (x142003.length : Int) > 0 then (if x142001 = 0 then (if (x142002 = (wrap64 ((x142003.length : Int) - 1))) then (some 0) else (some 6)) else (some 6)) else (if x6 = true then (some 0) else (some 6))
def types_attribute.f (k : Nat) (a0_0 : ByteArray) (a0_1 : Int) (a0_2 : Int) (l0_3 : List ByteArray) (l1 : List (S77)) : Option (Int) := (token_IsName.f k a0_0).bind fun t142 => (if t142 = true then ((any_attr.f l1 a0_0).bind fun t143 => (if t143 = true then (some 5) else ((types_names.f k l0_3).bind fun t144 => (if t144 = 0 then (if (-1000000) ≤ a0_1 then (if a0_1 ≤ a0_2 then (types_attribute.j0 k (decide (a0_2 ≤ 1000000)) a0_0 a0_1 a0_2 l0_3) else (types_attribute.j0 k false a0_0 a0_1 a0_2 l0_3)) else (types_attribute.j0 k false a0_0 a0_1 a0_2 l0_3)) else (some t144))))) else (some 2))
theorem types_attribute.mono_l : ∀ k, (∀ y0 y1 y2 y3 y4, LeO (types_attribute.j0 k y0 y1 y2 y3 y4) (types_attribute.j0 (k + 1) y0 y1 y2 y3 y4))
 | 0 => fun _ _ _ _ _ r h => by simp [types_attribute.j0] at h
 | k + 1 => by
  have ih0 := types_attribute.mono_l k
  ·intro y0 y1 y2 y3 y4
   unfold types_attribute.j0
   repeat' first
   | (with_reducible exact ih0 _ _ _ _ _)
   | (with_reducible exact token_IsName.mono _ _)
   | (with_reducible exact types_names.mono _ _)
   | (with_reducible exact LeO.refl _)
   | (with_reducible exact LeO.none _)
   | (with_reducible refine LeO.ite ?_ ?_)
   | (with_reducible refine LeO.bind ?_ (fun _ => ?_))
   | exact ih0 _ _ _ _ _
   | exact token_IsName.mono _ _
   | exact types_names.mono _ _
   | exact LeO.none _
   | refine LeO.ite ?_ ?_
   | refine LeO.bind ?_ (fun _ => ?_)
theorem types_attribute.mono : ∀ a0 a1 a2 a3 a4 k, LeO (types_attribute.f k a0 a1 a2 a3 a4) (types_attribute.f (k + 1) a0 a1 a2 a3 a4) := by
 intro a0 a1 a2 a3 a4 k
 have ih0 := types_attribute.mono_l k
 unfold types_attribute.f
 repeat' first
   | (with_reducible exact ih0 _ _ _ _ _)
   | (with_reducible exact token_IsName.mono _ _)
   | (with_reducible exact types_names.mono _ _)
   | (with_reducible exact LeO.refl _)
   | (with_reducible exact LeO.none _)
   | (with_reducible refine LeO.ite ?_ ?_)
   | (with_reducible refine LeO.bind ?_ (fun _ => ?_))
   | exact ih0 _ _ _ _ _
   | exact token_IsName.mono _ _
   | exact types_names.mono _ _
   | exact LeO.none _
   | refine LeO.ite ?_ ?_
   | refine LeO.bind ?_ (fun _ => ?_)
set_option maxHeartbeats 8000000 in
set_option maxRecDepth 100000 in
theorem types_attribute.calls (k : Nat) (a0_0 : ByteArray) (a0_1 : Int) (a0_2 : Int) (A0_3 : Option Addr) (c0_3 : Nat) (l0_3 : List ByteArray) (A1 : Option Addr) (c1 : Nat) (l1 : List (S77)) (r : Int) (w : World) (hr0_3 : Kd.C Kd.string w A0_3 l0_3.length l0_3) (hc0_3 : l0_3.length ≤ c0_3) (hr1 : Kd.C k77 w A1 l1.length l1) (hc1 : l1.length ≤ c1) (h : types_attribute.f k a0_0 a0_1 a0_2 l0_3 l1 = some r) :
  Calls Try.prog 62 #[.agg #[.string a0_0, .int .i64 a0_1, .int .i64 a0_2, .slice A0_3 l0_3.length c0_3], .slice A1 l1.length c1] w fun e w' => e = .returned (.int .i64 r) ∧ Below w.heap.size w w' := by
 have hu77 := Try.underlying77
 have HR0_3 := Aside0.mk hr0_3
 have HC0_3 := Aside0.mk hc0_3
 clear hr0_3 hc0_3
 have HR1 := Aside0.mk hr1
 have HC1 := Aside0.mk hc1
 clear hr1 hc1
 have HB := Aside0.mk (Below.refl w.heap.size w)
 have H : ((token_IsName.f k a0_0).bind fun t142 => (if t142 = true then ((any_attr.f l1 a0_0).bind fun t143 => (if t143 = true then (some 5) else ((types_names.f k l0_3).bind fun t144 => (if t144 = 0 then (if (-1000000) ≤ a0_1 then (if a0_1 ≤ a0_2 then (types_attribute.j0 k (decide (a0_2 ≤ 1000000)) a0_0 a0_1 a0_2 l0_3) else (types_attribute.j0 k false a0_0 a0_1 a0_2 l0_3)) else (types_attribute.j0 k false a0_0 a0_1 a0_2 l0_3)) else (some t144))))) else (some 2))) = some r := h
 clear h
 replace H := Option.bind_eq_some_iff.mp H
 obtain ⟨t142, A30, H⟩ := H
 replace H : (if t142 = true then ((any_attr.f l1 a0_0).bind fun t143 => (if t143 = true then (some 5) else ((types_names.f k l0_3).bind fun t144 => (if t144 = 0 then (if (-1000000) ≤ a0_1 then (if a0_1 ≤ a0_2 then (types_attribute.j0 k (decide (a0_2 ≤ 1000000)) a0_0 a0_1 a0_2 l0_3) else (types_attribute.j0 k false a0_0 a0_1 a0_2 l0_3)) else (types_attribute.j0 k false a0_0 a0_1 a0_2 l0_3)) else (some t144))))) else (some 2)) = some r := H
 have A3 := Aside0.mk A30
 clear A30
 by_cases c4 : t142 = true
 ·subst c4
  replace H := ift H
  replace H := Option.bind_eq_some_iff.mp H
  obtain ⟨t143, A50, H⟩ := H
  replace H : (if t143 = true then (some 5) else ((types_names.f k l0_3).bind fun t144 => (if t144 = 0 then (if (-1000000) ≤ a0_1 then (if a0_1 ≤ a0_2 then (types_attribute.j0 k (decide (a0_2 ≤ 1000000)) a0_0 a0_1 a0_2 l0_3) else (types_attribute.j0 k false a0_0 a0_1 a0_2 l0_3)) else (types_attribute.j0 k false a0_0 a0_1 a0_2 l0_3)) else (some t144)))) = some r := H
  have A5 := Aside0.mk A50
  clear A50
  by_cases c6 : t143 = true
  ·subst c6
   replace H := ift H
   obtain rfl := Option.some.inj H
   go_enter Try.func62, Try.ntmps62
   go_wp2_with (first | ((with_reducible refine gate_dst (N := 2) rfl ?_); (try (refine gate_guard (by rfl) ?_; dsimp only)); refine box_event ?hg (N := 2) ?hd (cs := #[.string a0_0, .int .i64 a0_1, .int .i64 a0_2, .slice A0_3 l0_3.length c0_3]) (t := 77) ?hr ?_; (case hd => rfl); (case hg => rfl); (case hr => first | (go_simp; done) | (go_simp; rfl)); intro gb141 hg w7 hbox hb; have BK141 := Aside0.mk (hbox); have GW141 := bsz HB hg; have GE141 := bsz HB hg; replace HB := bstep HB hb; clear hb hbox hg; obtain ⟨hcz8_0, hcz8_1, hcz8_2, hcz8_3, hfz8_0, hfz8_1, hfz8_2, hfz8_3⟩ := cz4 BK141) | ((with_reducible refine gate_callee (f := 59) rfl ?_); refine gl 10 Try.func59 #[.string a0_0] (h := ?_); (with_reducible refine (token_IsName.calls k a0_0 true _ A3.out).mono ?_); rintro e w9 ⟨rfl, hb⟩; refine ⟨_, rfl, ?_⟩; replace BK141 := bkb BK141 hb; replace HB := bstep HB hb; (try clear hb); (try clear hb2); (try clear hk); (try clear hi)) | ((with_reducible refine gate_callee (f := 85) rfl ?_); refine gl 15 Try.func85 #[.slice A1 l1.length c1, .func (.func 86) #[] #[.pointer (some ⟨gb141, 0, none⟩)]] (h := ?_); (with_reducible refine (any_attr.calls _ _ l1 gb141 a0_0 (.int .i64 a0_1) (.int .i64 a0_2) (.slice A0_3 l0_3.length c0_3) true _ ?side1 ?side2 ?side3 A5.out).mono ?_); (case side1 => exact cb HR1 HB); (case side2 => exact HC1.out); (case side3 => exact (bk BK141)); rintro e w10 ⟨rfl, hb⟩; refine ⟨_, rfl, ?_⟩; replace BK141 := bkb BK141 hb; replace HB := bstep HB hb; (try clear hb); (try clear hb2); (try clear hk); (try clear hi)))
   go_ret
   exact ⟨erf, bb HB⟩
  ·replace c6 := Bool.eq_false_iff.mpr c6
   subst c6
   replace H := iff_ H
   replace H := Option.bind_eq_some_iff.mp H
   obtain ⟨t144, A110, H⟩ := H
   replace H : (if t144 = 0 then (if (-1000000) ≤ a0_1 then (if a0_1 ≤ a0_2 then (types_attribute.j0 k (decide (a0_2 ≤ 1000000)) a0_0 a0_1 a0_2 l0_3) else (types_attribute.j0 k false a0_0 a0_1 a0_2 l0_3)) else (types_attribute.j0 k false a0_0 a0_1 a0_2 l0_3)) else (some t144)) = some r := H
   have A11 := Aside0.mk A110
   clear A110
   by_cases c12 : t144 = 0
   ·rw [if_pos c12] at H
    have c12b0 : (t144 == 0) = true := beq_iff_eq.mpr c12
    have c12b1 : (t144 != 0) = false := bne_eq_false_iff_eq.mpr c12
    clear c12
    have HC13 := Aside0.mk H
    clear H
    go_enter Try.func62, Try.ntmps62
    go_upto_region 8 with (first | ((with_reducible refine gate_dst (N := 2) rfl ?_); (try (refine gate_guard (by rfl) ?_; dsimp only)); refine box_event ?hg (N := 2) ?hd (cs := #[.string a0_0, .int .i64 a0_1, .int .i64 a0_2, .slice A0_3 l0_3.length c0_3]) (t := 77) ?hr ?_; (case hd => rfl); (case hg => rfl); (case hr => first | (go_simp; done) | (go_simp; rfl)); intro gb141 hg w14 hbox hb; have BK141 := Aside0.mk (hbox); have GW141 := bsz HB hg; have GE141 := bsz HB hg; replace HB := bstep HB hb; clear hb hbox hg; obtain ⟨hcz15_0, hcz15_1, hcz15_2, hcz15_3, hfz15_0, hfz15_1, hfz15_2, hfz15_3⟩ := cz4 BK141) | ((with_reducible refine gate_callee (f := 59) rfl ?_); refine gl 10 Try.func59 #[.string a0_0] (h := ?_); (with_reducible refine (token_IsName.calls k a0_0 true _ A3.out).mono ?_); rintro e w16 ⟨rfl, hb⟩; refine ⟨_, rfl, ?_⟩; replace BK141 := bkb BK141 hb; replace HB := bstep HB hb; (try clear hb); (try clear hb2); (try clear hk); (try clear hi)) | ((with_reducible refine gate_callee (f := 85) rfl ?_); refine gl 15 Try.func85 #[.slice A1 l1.length c1, .func (.func 86) #[] #[.pointer (some ⟨gb141, 0, none⟩)]] (h := ?_); (with_reducible refine (any_attr.calls _ _ l1 gb141 a0_0 (.int .i64 a0_1) (.int .i64 a0_2) (.slice A0_3 l0_3.length c0_3) false _ ?side1 ?side2 ?side3 A5.out).mono ?_); (case side1 => exact cb HR1 HB); (case side2 => exact HC1.out); (case side3 => exact (bk BK141)); rintro e w17 ⟨rfl, hb⟩; refine ⟨_, rfl, ?_⟩; replace BK141 := bkb BK141 hb; replace HB := bstep HB hb; (try clear hb); (try clear hb2); (try clear hk); (try clear hi); obtain ⟨hcz18_0, hcz18_1, hcz18_2, hcz18_3, hfz18_0, hfz18_1, hfz18_2, hfz18_3⟩ := cz4 BK141) | ((with_reducible refine gate_callee (f := 87) rfl ?_); refine gl 18 Try.func87 #[.slice A0_3 l0_3.length c0_3] (h := ?_); (with_reducible refine (types_names.calls k _ _ l0_3 t144 _ ?side1 ?side2 A11.out).mono ?_); (case side1 => exact cb HR0_3 HB); (case side2 => exact HC0_3.out); rintro e w19 ⟨rfl, hb⟩; refine ⟨_, rfl, ?_⟩; replace BK141 := bkb BK141 hb; replace HB := bstep HB hb; (try clear hb); (try clear hb2); (try clear hk); (try clear hi)))
    (try simp only [Act.put, List.setIfInBounds_toArray, List.set_cons_zero, List.set_cons_succ])
    go_cut [6] (fun v6 wc => ∃ (kq : Nat) (x6_12 : Bool), v6 = .bool x6_12 ∧ Aside0 (types_attribute.j0 kq x6_12 a0_0 a0_1 a0_2 l0_3 = some r) ∧ Aside0 (kq ≤ k) ∧ Aside0 (wc.heap[gb141]? = some (.cells #[.string a0_0, .int .i64 a0_1, .int .i64 a0_2, (.slice A0_3 l0_3.length c0_3)] 77 (0, 0))) ∧ Aside0 (Below w.heap.size w wc))
    case first =>
     have H := HC13.out
     clear HC13
     by_cases c20 : (-1000000) ≤ a0_1
     ·rw [if_pos c20] at H
      have c20b0 : decide ((-1000000) ≤ a0_1) = true := decide_eq_true c20
      clear c20
      (first | rw [c20b0] | (simp only [i64_w, i32_w]; rw [c20b0]) | skip)
      by_cases c21 : a0_1 ≤ a0_2
      ·rw [if_pos c21] at H
       have c21b0 : decide (a0_1 ≤ a0_2) = true := decide_eq_true c21
       clear c21
       have H' := Aside0.mk H
       clear H
       obtain ⟨hcz22_0, hcz22_1, hcz22_2, hcz22_3, hfz22_0, hfz22_1, hfz22_2, hfz22_3⟩ := cz4 BK141
       go_wp2
       go_meet
       case rel => exact ⟨_, (decide (a0_2 ≤ 1000000)), eqs, H', ⟨by first | omega | exact Nat.le_refl _⟩, ⟨bk BK141⟩, ⟨bb HB⟩⟩
      ·rw [if_neg c21] at H
       have c21b0 : decide (a0_1 ≤ a0_2) = false := decide_eq_false c21
       clear c21
       have H' := Aside0.mk H
       clear H
       obtain ⟨hcz23_0, hcz23_1, hcz23_2, hcz23_3, hfz23_0, hfz23_1, hfz23_2, hfz23_3⟩ := cz4 BK141
       go_wp2
       go_meet
       case rel => exact ⟨_, (false), eqs, H', ⟨by first | omega | exact Nat.le_refl _⟩, ⟨bk BK141⟩, ⟨bb HB⟩⟩
     ·rw [if_neg c20] at H
      have c20b0 : decide ((-1000000) ≤ a0_1) = false := decide_eq_false c20
      clear c20
      (first | rw [c20b0] | (simp only [i64_w, i32_w]; rw [c20b0]) | skip)
      have H' := Aside0.mk H
      clear H
      obtain ⟨hcz24_0, hcz24_1, hcz24_2, hcz24_3, hfz24_0, hfz24_1, hfz24_2, hfz24_3⟩ := cz4 BK141
      go_wp2
      go_meet
      case rel => exact ⟨_, (false), eqs, H', ⟨by first | omega | exact Nat.le_refl _⟩, ⟨bk BK141⟩, ⟨bb HB⟩⟩
    case rest =>
     clear HC13
     try clear c1
     try clear c2
     try clear p2
     try clear c4
     try clear c5
     try clear c6
     try clear c8
     try clear c12
     try clear c12b0
     try clear c12b1
     try clear c20
     try clear c20b0
     try clear c21
     try clear c21b0
     try clear hcz15_0
     try clear hcz15_1
     try clear hcz15_2
     try clear hcz15_3
     try clear hcz18_0
     try clear hcz18_1
     try clear hcz18_2
     try clear hcz18_3
     try clear hcz22_0
     try clear hcz22_1
     try clear hcz22_2
     try clear hcz22_3
     try clear hcz23_0
     try clear hcz23_1
     try clear hcz23_2
     try clear hcz23_3
     try clear hcz24_0
     try clear hcz24_1
     try clear hcz24_2
     try clear hcz24_3
     try clear hcz8_0
     try clear hcz8_1
     try clear hcz8_2
     try clear hcz8_3
     try clear hfz15_0
     try clear hfz15_1
     try clear hfz15_2
     try clear hfz15_3
     try clear hfz18_0
     try clear hfz18_1
     try clear hfz18_2
     try clear hfz18_3
     try clear hfz22_0
     try clear hfz22_1
     try clear hfz22_2
     try clear hfz22_3
     try clear hfz23_0
     try clear hfz23_1
     try clear hfz23_2
     try clear hfz23_3
     try clear hfz24_0
     try clear hfz24_1
     try clear hfz24_2
     try clear hfz24_3
     try clear hfz8_0
     try clear hfz8_1
     try clear hfz8_2
     try clear hfz8_3
     obtain ⟨kq, x6_12, rfl, HA, HJ12, BK141, HB⟩ := hcut
     cases kq with
     | zero => exact absurd HA.out (by simp [types_attribute.j0])
     | succ kj12 =>
      have H := HA.out
      clear HA
      simp only [types_attribute.j0] at H
      by_cases c25 : (l0_3.length : Int) > 0
      ·rw [if_pos c25] at H
       have c25b0 : decide (0 < (l0_3.length : Int)) = true := decide_eq_true c25
       have c25b1 : decide (0 < l0_3.length) = true := decide_eq_true (by omega)
       clear c25
       by_cases c26 : a0_1 = 0
       ·rw [if_pos c26] at H
        have c26b0 : (a0_1 == 0) = true := beq_iff_eq.mpr c26
        have c26b1 : (a0_1 != 0) = false := bne_eq_false_iff_eq.mpr c26
        clear c26
        by_cases c27 : (a0_2 = (wrap64 ((l0_3.length : Int) - 1)))
        ·rw [if_pos c27] at H
         have c27b0 : (a0_2 == (wrap64 ((l0_3.length : Int) - 1))) = true := beq_iff_eq.mpr c27
         have c27b1 : (a0_2 != (wrap64 ((l0_3.length : Int) - 1))) = false := bne_eq_false_iff_eq.mpr c27
         clear c27
         obtain rfl := Option.some.inj H
         obtain ⟨hcz28_0, hcz28_1, hcz28_2, hcz28_3, hfz28_0, hfz28_1, hfz28_2, hfz28_3⟩ := cz4 BK141
         go_wp2
         go_ret
         exact ⟨erf, bb HB⟩
        ·rw [if_neg c27] at H
         have c27b0 : (a0_2 == (wrap64 ((l0_3.length : Int) - 1))) = false := beq_eq_false_iff_ne.mpr c27
         have c27b1 : (a0_2 != (wrap64 ((l0_3.length : Int) - 1))) = true := bne_iff_ne.mpr c27
         obtain rfl := Option.some.inj H
         obtain ⟨hcz29_0, hcz29_1, hcz29_2, hcz29_3, hfz29_0, hfz29_1, hfz29_2, hfz29_3⟩ := cz4 BK141
         go_wp2
         go_ret
         exact ⟨erf, bb HB⟩
       ·rw [if_neg c26] at H
        have c26b0 : (a0_1 == 0) = false := beq_eq_false_iff_ne.mpr c26
        have c26b1 : (a0_1 != 0) = true := bne_iff_ne.mpr c26
        obtain rfl := Option.some.inj H
        obtain ⟨hcz30_0, hcz30_1, hcz30_2, hcz30_3, hfz30_0, hfz30_1, hfz30_2, hfz30_3⟩ := cz4 BK141
        go_wp2
        go_ret
        exact ⟨erf, bb HB⟩
      ·rw [if_neg c25] at H
       have c25b0 : decide (0 < (l0_3.length : Int)) = false := decide_eq_false c25
       have c25b1 : decide (0 < l0_3.length) = false := decide_eq_false (by omega)
       clear c25
       by_cases c31 : x6_12 = true
       ·subst c31
        replace H := ift H
        obtain rfl := Option.some.inj H
        obtain ⟨hcz32_0, hcz32_1, hcz32_2, hcz32_3, hfz32_0, hfz32_1, hfz32_2, hfz32_3⟩ := cz4 BK141
        go_wp2
        go_ret
        exact ⟨erf, bb HB⟩
       ·replace c31 := Bool.eq_false_iff.mpr c31
        subst c31
        replace H := iff_ H
        obtain rfl := Option.some.inj H
        obtain ⟨hcz33_0, hcz33_1, hcz33_2, hcz33_3, hfz33_0, hfz33_1, hfz33_2, hfz33_3⟩ := cz4 BK141
        go_wp2
        go_ret
        exact ⟨erf, bb HB⟩
   ·rw [if_neg c12] at H
    have c12b0 : (t144 == 0) = false := beq_eq_false_iff_ne.mpr c12
    have c12b1 : (t144 != 0) = true := bne_iff_ne.mpr c12
    obtain rfl := Option.some.inj H
    go_enter Try.func62, Try.ntmps62
    go_wp2_with (first | ((with_reducible refine gate_dst (N := 2) rfl ?_); (try (refine gate_guard (by rfl) ?_; dsimp only)); refine box_event ?hg (N := 2) ?hd (cs := #[.string a0_0, .int .i64 a0_1, .int .i64 a0_2, .slice A0_3 l0_3.length c0_3]) (t := 77) ?hr ?_; (case hd => rfl); (case hg => rfl); (case hr => first | (go_simp; done) | (go_simp; rfl)); intro gb141 hg w34 hbox hb; have BK141 := Aside0.mk (hbox); have GW141 := bsz HB hg; have GE141 := bsz HB hg; replace HB := bstep HB hb; clear hb hbox hg; obtain ⟨hcz35_0, hcz35_1, hcz35_2, hcz35_3, hfz35_0, hfz35_1, hfz35_2, hfz35_3⟩ := cz4 BK141) | ((with_reducible refine gate_callee (f := 59) rfl ?_); refine gl 10 Try.func59 #[.string a0_0] (h := ?_); (with_reducible refine (token_IsName.calls k a0_0 true _ A3.out).mono ?_); rintro e w36 ⟨rfl, hb⟩; refine ⟨_, rfl, ?_⟩; replace BK141 := bkb BK141 hb; replace HB := bstep HB hb; (try clear hb); (try clear hb2); (try clear hk); (try clear hi)) | ((with_reducible refine gate_callee (f := 85) rfl ?_); refine gl 15 Try.func85 #[.slice A1 l1.length c1, .func (.func 86) #[] #[.pointer (some ⟨gb141, 0, none⟩)]] (h := ?_); (with_reducible refine (any_attr.calls _ _ l1 gb141 a0_0 (.int .i64 a0_1) (.int .i64 a0_2) (.slice A0_3 l0_3.length c0_3) false _ ?side1 ?side2 ?side3 A5.out).mono ?_); (case side1 => exact cb HR1 HB); (case side2 => exact HC1.out); (case side3 => exact (bk BK141)); rintro e w37 ⟨rfl, hb⟩; refine ⟨_, rfl, ?_⟩; replace BK141 := bkb BK141 hb; replace HB := bstep HB hb; (try clear hb); (try clear hb2); (try clear hk); (try clear hi); obtain ⟨hcz38_0, hcz38_1, hcz38_2, hcz38_3, hfz38_0, hfz38_1, hfz38_2, hfz38_3⟩ := cz4 BK141) | ((with_reducible refine gate_callee (f := 87) rfl ?_); refine gl 18 Try.func87 #[.slice A0_3 l0_3.length c0_3] (h := ?_); (with_reducible refine (types_names.calls k _ _ l0_3 t144 _ ?side1 ?side2 A11.out).mono ?_); (case side1 => exact cb HR0_3 HB); (case side2 => exact HC0_3.out); rintro e w39 ⟨rfl, hb⟩; refine ⟨_, rfl, ?_⟩; replace BK141 := bkb BK141 hb; replace HB := bstep HB hb; (try clear hb); (try clear hb2); (try clear hk); (try clear hi)))
    go_ret
    exact ⟨erf, bb HB⟩
 ·replace c4 := Bool.eq_false_iff.mpr c4
  subst c4
  replace H := iff_ H
  obtain rfl := Option.some.inj H
  go_enter Try.func62, Try.ntmps62
  go_wp2_with (first | ((with_reducible refine gate_dst (N := 2) rfl ?_); (try (refine gate_guard (by rfl) ?_; dsimp only)); refine box_event ?hg (N := 2) ?hd (cs := #[.string a0_0, .int .i64 a0_1, .int .i64 a0_2, .slice A0_3 l0_3.length c0_3]) (t := 77) ?hr ?_; (case hd => rfl); (case hg => rfl); (case hr => first | (go_simp; done) | (go_simp; rfl)); intro gb141 hg w40 hbox hb; have BK141 := Aside0.mk (hbox); have GW141 := bsz HB hg; have GE141 := bsz HB hg; replace HB := bstep HB hb; clear hb hbox hg; obtain ⟨hcz41_0, hcz41_1, hcz41_2, hcz41_3, hfz41_0, hfz41_1, hfz41_2, hfz41_3⟩ := cz4 BK141) | ((with_reducible refine gate_callee (f := 59) rfl ?_); refine gl 10 Try.func59 #[.string a0_0] (h := ?_); (with_reducible refine (token_IsName.calls k a0_0 false _ A3.out).mono ?_); rintro e w42 ⟨rfl, hb⟩; refine ⟨_, rfl, ?_⟩; replace BK141 := bkb BK141 hb; replace HB := bstep HB hb; (try clear hb); (try clear hb2); (try clear hk); (try clear hi)))
  go_ret
  exact ⟨erf, bb HB⟩
end Go.Proofs.Ytfpianecohobjaa.P
