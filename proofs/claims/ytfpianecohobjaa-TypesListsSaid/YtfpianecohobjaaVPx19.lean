/- typesLists_holds: a part of the proof that the law returns true for every input. No condition. -/
import Derived.Test.YtfpianecohobjaaVPx0
import Derived.Test.YtfpianecohobjaaVPx17
import Derived.Test.YtfpianecohobjaaVPx18
namespace Go.Proofs.Ytfpianecohobjaa.P
open Go.RowKit Go.Proofs.YtfpianecohobjaaW.PrintWords Go.Proofs.YtfpianecohobjaaW.PrintLast Go.Proofs.YtfpianecohobjaaW.PrintMore
set_option linter.unusedVariables false
set_option linter.unusedSimpArgs false
mutual
def q4_Valid.j0 : Nat → Bool → List (S68) → List (S71) → Option (ByteArray × Int)
 | 0, _, _, _ => none
 | k + 1, x21, x358000, x358001 => if x21 = true then (some ((⟨#[]⟩ : ByteArray), 3)) else (q4_Valid.l0 k 0 x358000 x358001)
def q4_Valid.l0 : Nat → Int → List (S68) → List (S71) → Option (ByteArray × Int)
 | 0, _, _, _ => none
 | k + 1, x4, x358000, x358001 => if x4 < (x358000.length : Int) then ((q4_node.f k x358000 x358001 x4).bind fun t358 => (if t358 = 0 then (q4_Valid.l0 k (wrap64 (x4 + 1)) x358000 x358001) else (if 0 ≤ x4 then (some ((rd_T68 x358000 x4).f0, t358)) else (none)))) else (q4_Valid.l1 k 0 x358000 x358001)
def q4_Valid.l1 : Nat → Int → List (S68) → List (S71) → Option (ByteArray × Int)
 | 0, _, _, _ => none
 | k + 1, x6, x358000, x358001 => if x6 < (x358001.length : Int) then ((q4_edge.f k x358000 x358001 x6).bind fun t360 => (if t360 = 0 then (q4_Valid.l1 k (wrap64 (x6 + 1)) x358000 x358001) else (if 0 ≤ x6 then (some ((rd_T71 x358001 x6).f0, t360)) else (none)))) else (some ((⟨#[]⟩ : ByteArray), 0))
end
def q4_Valid.f (k : Nat) (l0_0 : List (S68)) (l0_1 : List (S71)) : Option (ByteArray × Int) := if (l0_0.length : Int) = 0 then (some ((⟨#[]⟩ : ByteArray), 7)) else (if (l0_0.length : Int) > 12 then (q4_Valid.j0 k true l0_0 l0_1) else (q4_Valid.j0 k (decide ((l0_1.length : Int) > 20)) l0_0 l0_1))
set_option maxHeartbeats 8000000 in
set_option maxRecDepth 100000 in
theorem q4_Valid.calls (k : Nat) (A0_0 : Option Addr) (c0_0 : Nat) (l0_0 : List (S68)) (A0_1 : Option Addr) (c0_1 : Nat) (l0_1 : List (S71)) (r1 : ByteArray) (r2 : Int) (w : World) (hr0_0 : Kd.C k68 w A0_0 l0_0.length l0_0) (hc0_0 : l0_0.length ≤ c0_0) (hr0_1 : Kd.C k71 w A0_1 l0_1.length l0_1) (hc0_1 : l0_1.length ≤ c0_1) (h : q4_Valid.f k l0_0 l0_1 = some (r1, r2)) :
  Calls Try.prog 15 #[.agg #[.slice A0_0 l0_0.length c0_0, .slice A0_1 l0_1.length c0_1]] w fun e w' => e = .returned (.tuple #[.string r1, .int .i64 r2]) ∧ Below w.heap.size w w' := by
 have hu25 := Try.underlying25
 have HR0_0 := Aside0.mk hr0_0
 have HC0_0 := Aside0.mk hc0_0
 clear hr0_0 hc0_0
 have HR0_1 := Aside0.mk hr0_1
 have HC0_1 := Aside0.mk hc0_1
 clear hr0_1 hc0_1
 have HB := Aside0.mk (Below.refl w.heap.size w)
 have H : (if (l0_0.length : Int) = 0 then (some ((⟨#[]⟩ : ByteArray), 7)) else (if (l0_0.length : Int) > 12 then (q4_Valid.j0 k true l0_0 l0_1) else (q4_Valid.j0 k (decide ((l0_1.length : Int) > 20)) l0_0 l0_1))) = some (r1, r2) := h
 clear h
 by_cases c2 : (l0_0.length : Int) = 0
 ·rw [if_pos c2] at H
  have c2b0 : ((l0_0.length : Int) == 0) = true := beq_iff_eq.mpr c2
  have c2b1 : ((l0_0.length : Int) != 0) = false := bne_eq_false_iff_eq.mpr c2
  clear c2
  simp only [Option.some.injEq, Prod.mk.injEq] at H
  obtain ⟨rfl, rfl⟩ := H
  go_enter Try.func15, Try.ntmps15
  go_wp2_with ((with_reducible refine gate_dst (N := 1) rfl ?_); (try (refine gate_guard (by rfl) ?_; dsimp only)); refine box_event ?hg (N := 1) ?hd (cs := #[.slice A0_0 l0_0.length c0_0, .slice A0_1 l0_1.length c0_1]) (t := 25) ?hr ?_; (case hd => rfl); (case hg => rfl); (case hr => first | (go_simp; done) | (go_simp; rfl)); intro gb357 hg w3 hbox hb; have BK357 := Aside0.mk (hbox); have GW357 := bsz HB hg; have GE357 := bsz HB hg; replace HB := bstep HB hb; clear hb hbox hg; obtain ⟨hcz4_0, hcz4_1, hfz4_0, hfz4_1⟩ := cz2 BK357)
  go_ret2
  exact ⟨erf, bb HB⟩
 ·rw [if_neg c2] at H
  have c2b0 : ((l0_0.length : Int) == 0) = false := beq_eq_false_iff_ne.mpr c2
  have c2b1 : ((l0_0.length : Int) != 0) = true := bne_iff_ne.mpr c2
  have c2b2 : ¬ (l0_0 = []) := fun h_ => c2 (by rw [h_]; rfl)
  have HC5 := Aside0.mk H
  clear H
  go_enter Try.func15, Try.ntmps15
  go_upto_region 3 with ((with_reducible refine gate_dst (N := 1) rfl ?_); (try (refine gate_guard (by rfl) ?_; dsimp only)); refine box_event ?hg (N := 1) ?hd (cs := #[.slice A0_0 l0_0.length c0_0, .slice A0_1 l0_1.length c0_1]) (t := 25) ?hr ?_; (case hd => rfl); (case hg => rfl); (case hr => first | (go_simp; done) | (go_simp; rfl)); intro gb357 hg w6 hbox hb; have BK357 := Aside0.mk (hbox); have GW357 := bsz HB hg; have GE357 := bsz HB hg; replace HB := bstep HB hb; clear hb hbox hg; obtain ⟨hcz7_0, hcz7_1, hfz7_0, hfz7_1⟩ := cz2 BK357)
  (try simp only [Act.put, List.setIfInBounds_toArray, List.set_cons_zero, List.set_cons_succ])
  go_cut [21] (fun v21 wc => ∃ (kq : Nat) (x21_4 : Bool), v21 = .bool x21_4 ∧ Aside0 (q4_Valid.j0 kq x21_4 l0_0 l0_1 = some (r1, r2)) ∧ Aside0 (kq ≤ k) ∧ Aside0 (wc.heap[gb357]? = some (.cells #[(.slice A0_0 l0_0.length c0_0), (.slice A0_1 l0_1.length c0_1)] 25 (0, 0))) ∧ Aside0 (Below w.heap.size w wc))
  case first =>
   have H := HC5.out
   clear HC5
   by_cases c8 : (l0_0.length : Int) > 12
   ·rw [if_pos c8] at H
    have c8b0 : decide (12 < (l0_0.length : Int)) = true := decide_eq_true c8
    have c8b1 : decide (12 < l0_0.length) = true := decide_eq_true (by omega)
    clear c8
    (first | rw [c8b0] | (simp only [i64_w, i32_w]; rw [c8b0]) | skip)
    have H' := Aside0.mk H
    clear H
    obtain ⟨hcz9_0, hcz9_1, hfz9_0, hfz9_1⟩ := cz2 BK357
    go_wp2
    go_meet
    case rel => exact ⟨_, (true), eqs, H', ⟨by first | omega | exact Nat.le_refl _⟩, ⟨bk BK357⟩, ⟨bb HB⟩⟩
   ·rw [if_neg c8] at H
    have c8b0 : decide (12 < (l0_0.length : Int)) = false := decide_eq_false c8
    have c8b1 : decide (12 < l0_0.length) = false := decide_eq_false (by omega)
    clear c8
    (first | rw [c8b0] | (simp only [i64_w, i32_w]; rw [c8b0]) | skip)
    have H' := Aside0.mk H
    clear H
    obtain ⟨hcz10_0, hcz10_1, hfz10_0, hfz10_1⟩ := cz2 BK357
    go_wp2
    go_meet
    case rel => exact ⟨_, (decide ((l0_1.length : Int) > 20)), eqs, H', ⟨by first | omega | exact Nat.le_refl _⟩, ⟨bk BK357⟩, ⟨bb HB⟩⟩
  case rest =>
   clear HC5 c2 c2b0 c2b1 c2b2 hcz7_0 hcz7_1 hfz7_0 hfz7_1
   obtain ⟨kq, x21_4, rfl, HA, HJ4, BK357, HB⟩ := hcut
   cases kq with
   | zero => exact absurd HA.out (by simp [q4_Valid.j0])
   | succ kj4 =>
    have H := HA.out
    clear HA
    simp only [q4_Valid.j0] at H
    by_cases c11 : x21_4 = true
    ·subst c11
     replace H := ift H
     simp only [Option.some.injEq, Prod.mk.injEq] at H
     obtain ⟨rfl, rfl⟩ := H
     go_wp2
     go_ret2
     exact ⟨erf, bb HB⟩
    ·replace c11 := Bool.eq_false_iff.mpr c11
     subst c11
     replace H := iff_ H
     have H' := Aside0.mk H
     clear H
     go_wp2
     go_loopg [4] kj4 (fun kq v4 w' => ∃ (x4_2 : Int), v4 = .int .i64 x4_2 ∧ Aside0 (q4_Valid.l0 kq x4_2 l0_0 l0_1 = some (r1, r2)) ∧ Aside0 (kq ≤ kj4) ∧ Aside0 (w'.heap[gb357]? = some (.cells #[(.slice A0_0 l0_0.length c0_0), (.slice A0_1 l0_1.length c0_1)] 25 (0, 0))) ∧ Aside0 (Below w.heap.size w w'))
     case atStart => exact ⟨(0), eqs, H', ⟨Nat.le_refl _⟩, ⟨bk BK357⟩, ⟨bb HB⟩⟩
     case round =>
      clear H'
      obtain ⟨x4_2, rfl, HA, HK2, BK357, HB⟩ := hrel
      cases gk with
      | zero => exact absurd HA.out (by simp [q4_Valid.l0])
      | succ k2 =>
       have H := HA.out
       clear HA
       simp only [q4_Valid.l0] at H
       by_cases c12 : x4_2 < (l0_0.length : Int)
       ·rw [if_pos c12] at H
        have c12b0 : decide (x4_2 < (l0_0.length : Int)) = true := decide_eq_true c12
        clear c12
        replace H := Option.bind_eq_some_iff.mp H
        obtain ⟨t358, A130, H⟩ := H
        replace H : (if t358 = 0 then (q4_Valid.l0 k2 (wrap64 (x4_2 + 1)) l0_0 l0_1) else (if 0 ≤ x4_2 then (some ((rd_T68 l0_0 x4_2).f0, t358)) else (none))) = some (r1, r2) := H
        have A13 := Aside0.mk A130
        clear A130
        by_cases c14 : t358 = 0
        ·rw [if_pos c14] at H
         have c14b0 : (t358 == 0) = true := beq_iff_eq.mpr c14
         have c14b1 : (t358 != 0) = false := bne_eq_false_iff_eq.mpr c14
         clear c14
         have H' := Aside0.mk H
         clear H
         obtain ⟨hcz15_0, hcz15_1, hfz15_0, hfz15_1⟩ := cz2 BK357
         go_wp2_with ((with_reducible refine gate_callee (f := 41) rfl ?_); refine gl 31 Try.func41 #[.agg #[.slice A0_0 l0_0.length c0_0, .slice A0_1 l0_1.length c0_1], .int .i64 x4_2] (h := ?_); (with_reducible refine (q4_node.calls k2 _ _ l0_0 _ _ l0_1 x4_2 t358 _ ?side1 ?side2 ?side3 ?side4 A13.out).mono ?_); (case side1 => exact cb HR0_0 HB); (case side2 => exact HC0_0.out); (case side3 => exact cb HR0_1 HB); (case side4 => exact HC0_1.out); rintro e w16 ⟨rfl, hb⟩; refine ⟨_, rfl, ?_⟩; replace BK357 := bkb BK357 hb; replace HB := bstep HB hb; (try clear hb); (try clear hb2); (try clear hk); (try clear hi))
         go_roundg k2
         case measure => have := HJ4.out; have := HK2.out; omega
         case rel => exact ⟨(wrap64 (x4_2 + 1)), eqs, H', ⟨by have := HJ4.out; have := HK2.out; omega⟩, ⟨bk BK357⟩, ⟨bb HB⟩⟩
        ·rw [if_neg c14] at H
         have c14b0 : (t358 == 0) = false := beq_eq_false_iff_ne.mpr c14
         have c14b1 : (t358 != 0) = true := bne_iff_ne.mpr c14
         by_cases c17 : 0 ≤ x4_2
         ·rw [if_pos c17] at H
          have c17b0 : decide (0 ≤ x4_2) = true := decide_eq_true c17
          clear c17
          simp only [Option.some.injEq, Prod.mk.injEq] at H
          obtain ⟨rfl, rfl⟩ := H
          obtain ⟨hcz18_0, hcz18_1, hfz18_0, hfz18_1⟩ := cz2 BK357
          go_wp2_with ((with_reducible refine gate_callee (f := 41) rfl ?_); refine gl 31 Try.func41 #[.agg #[.slice A0_0 l0_0.length c0_0, .slice A0_1 l0_1.length c0_1], .int .i64 x4_2] (h := ?_); (with_reducible refine (q4_node.calls k2 _ _ l0_0 _ _ l0_1 x4_2 t358 _ ?side1 ?side2 ?side3 ?side4 A13.out).mono ?_); (case side1 => exact cb HR0_0 HB); (case side2 => exact HC0_0.out); (case side3 => exact cb HR0_1 HB); (case side4 => exact HC0_1.out); rintro e w19 ⟨rfl, hb⟩; refine ⟨_, rfl, ?_⟩; replace BK357 := bkb BK357 hb; replace HB := bstep HB hb; (try clear hb); (try clear hb2); (try clear hk); (try clear hi); obtain ⟨hcz20_0, hcz20_1, hfz20_0, hfz20_1⟩ := cz2 BK357; have p359 : 0 ≤ x4_2 := odt; have q359 : x4_2 < (l0_0.length : Int) := odt; obtain ⟨ad359, A359_3, c359_3, e359, hx359_0, hx359_1, hx359_2, hx359_3, hl359_3, hi359_3⟩ := at_T68 HR0_0.out x4_2 p359 q359; cases e359; replace hx359_0 := hxc HB hx359_0; replace hx359_1 := hxc HB hx359_1; replace hx359_2 := hxc HB hx359_2; replace hx359_3 := hxc HB hx359_3; have HR359_3 := Aside0.mk hi359_3; have HC359_3 := Aside0.mk hl359_3; clear hi359_3 hl359_3; replace p359 := eq_true p359; replace q359 := eq_true q359)
          go_ret2
          exact ⟨erf, bb HB⟩
         ·rw [if_neg c17] at H
          exact absurd H (by simp)
       ·rw [if_neg c12] at H
        have c12b0 : decide (x4_2 < (l0_0.length : Int)) = false := decide_eq_false c12
        clear c12
        have H' := Aside0.mk H
        clear H
        obtain ⟨hcz21_0, hcz21_1, hfz21_0, hfz21_1⟩ := cz2 BK357
        go_wp2
        go_loopg [6] k2 (fun kq v6 w' => ∃ (x6_3 : Int), v6 = .int .i64 x6_3 ∧ Aside0 (q4_Valid.l1 kq x6_3 l0_0 l0_1 = some (r1, r2)) ∧ Aside0 (kq ≤ k2) ∧ Aside0 (w'.heap[gb357]? = some (.cells #[(.slice A0_0 l0_0.length c0_0), (.slice A0_1 l0_1.length c0_1)] 25 (0, 0))) ∧ Aside0 (Below w.heap.size w w'))
        case atStart => exact ⟨(0), eqs, H', ⟨Nat.le_refl _⟩, ⟨bk BK357⟩, ⟨bb HB⟩⟩
        case round =>
         clear H'
         clear c12b0 hcz21_0 hcz21_1 hfz21_0 hfz21_1
         obtain ⟨x6_3, rfl, HA, HK3, BK357, HB⟩ := hrel
         cases gk with
         | zero => exact absurd HA.out (by simp [q4_Valid.l1])
         | succ k3 =>
          have H := HA.out
          clear HA
          simp only [q4_Valid.l1] at H
          by_cases c22 : x6_3 < (l0_1.length : Int)
          ·rw [if_pos c22] at H
           have c22b0 : decide (x6_3 < (l0_1.length : Int)) = true := decide_eq_true c22
           clear c22
           replace H := Option.bind_eq_some_iff.mp H
           obtain ⟨t360, A230, H⟩ := H
           replace H : (if t360 = 0 then (q4_Valid.l1 k3 (wrap64 (x6_3 + 1)) l0_0 l0_1) else (if 0 ≤ x6_3 then (some ((rd_T71 l0_1 x6_3).f0, t360)) else (none))) = some (r1, r2) := H
           have A23 := Aside0.mk A230
           clear A230
           by_cases c24 : t360 = 0
           ·rw [if_pos c24] at H
            have c24b0 : (t360 == 0) = true := beq_iff_eq.mpr c24
            have c24b1 : (t360 != 0) = false := bne_eq_false_iff_eq.mpr c24
            clear c24
            have H' := Aside0.mk H
            clear H
            obtain ⟨hcz25_0, hcz25_1, hfz25_0, hfz25_1⟩ := cz2 BK357
            go_wp2_with ((with_reducible refine gate_callee (f := 42) rfl ?_); refine gl 50 Try.func42 #[.agg #[.slice A0_0 l0_0.length c0_0, .slice A0_1 l0_1.length c0_1], .int .i64 x6_3] (h := ?_); (with_reducible refine (q4_edge.calls k3 _ _ l0_0 _ _ l0_1 x6_3 t360 _ ?side1 ?side2 ?side3 ?side4 A23.out).mono ?_); (case side1 => exact cb HR0_0 HB); (case side2 => exact HC0_0.out); (case side3 => exact cb HR0_1 HB); (case side4 => exact HC0_1.out); rintro e w26 ⟨rfl, hb⟩; refine ⟨_, rfl, ?_⟩; replace BK357 := bkb BK357 hb; replace HB := bstep HB hb; (try clear hb); (try clear hb2); (try clear hk); (try clear hi))
            go_roundg k3
            case measure => have := HJ4.out; have := HK2.out; have := HK3.out; omega
            case rel => exact ⟨(wrap64 (x6_3 + 1)), eqs, H', ⟨by have := HJ4.out; have := HK2.out; have := HK3.out; omega⟩, ⟨bk BK357⟩, ⟨bb HB⟩⟩
           ·rw [if_neg c24] at H
            have c24b0 : (t360 == 0) = false := beq_eq_false_iff_ne.mpr c24
            have c24b1 : (t360 != 0) = true := bne_iff_ne.mpr c24
            by_cases c27 : 0 ≤ x6_3
            ·rw [if_pos c27] at H
             have c27b0 : decide (0 ≤ x6_3) = true := decide_eq_true c27
             clear c27
             simp only [Option.some.injEq, Prod.mk.injEq] at H
             obtain ⟨rfl, rfl⟩ := H
             obtain ⟨hcz28_0, hcz28_1, hfz28_0, hfz28_1⟩ := cz2 BK357
             go_wp2_with ((with_reducible refine gate_callee (f := 42) rfl ?_); refine gl 50 Try.func42 #[.agg #[.slice A0_0 l0_0.length c0_0, .slice A0_1 l0_1.length c0_1], .int .i64 x6_3] (h := ?_); (with_reducible refine (q4_edge.calls k3 _ _ l0_0 _ _ l0_1 x6_3 t360 _ ?side1 ?side2 ?side3 ?side4 A23.out).mono ?_); (case side1 => exact cb HR0_0 HB); (case side2 => exact HC0_0.out); (case side3 => exact cb HR0_1 HB); (case side4 => exact HC0_1.out); rintro e w29 ⟨rfl, hb⟩; refine ⟨_, rfl, ?_⟩; replace BK357 := bkb BK357 hb; replace HB := bstep HB hb; (try clear hb); (try clear hb2); (try clear hk); (try clear hi); obtain ⟨hcz30_0, hcz30_1, hfz30_0, hfz30_1⟩ := cz2 BK357; have p361 : 0 ≤ x6_3 := odt; have q361 : x6_3 < (l0_1.length : Int) := odt; obtain ⟨ad361, e361, hx361_0, hx361_1, hx361_2, hx361_3, hx361_4, hx361_5, hx361_6⟩ := at_T71 HR0_1.out x6_3 p361 q361; cases e361; replace hx361_0 := hxc HB hx361_0; replace hx361_1 := hxc HB hx361_1; replace hx361_2 := hxc HB hx361_2; replace hx361_3 := hxc HB hx361_3; replace hx361_4 := hxc HB hx361_4; replace hx361_5 := hxc HB hx361_5; replace hx361_6 := hxc HB hx361_6; replace p361 := eq_true p361; replace q361 := eq_true q361)
             go_ret2
             exact ⟨erf, bb HB⟩
            ·rw [if_neg c27] at H
             exact absurd H (by simp)
          ·rw [if_neg c22] at H
           have c22b0 : decide (x6_3 < (l0_1.length : Int)) = false := decide_eq_false c22
           clear c22
           simp only [Option.some.injEq, Prod.mk.injEq] at H
           obtain ⟨rfl, rfl⟩ := H
           obtain ⟨hcz31_0, hcz31_1, hfz31_0, hfz31_1⟩ := cz2 BK357
           go_wp2
           go_ret2
           exact ⟨erf, bb HB⟩
end Go.Proofs.Ytfpianecohobjaa.P
