/- typesLists_holds: a part of the proof that the law returns true for every input. No condition. -/
import Derived.Test.YtfpianecohobjaaVPx0
import Derived.Test.YtfpianecohobjaaVPx10
import Derived.Test.YtfpianecohobjaaVPx11
import Derived.Test.YtfpianecohobjaaVPx12
import Derived.Test.YtfpianecohobjaaVPx19
import Derived.Test.YtfpianecohobjaaVPx7
namespace Go.Proofs.Ytfpianecohobjaa.P
open Go.RowKit Go.Proofs.YtfpianecohobjaaW.PrintWords Go.Proofs.YtfpianecohobjaaW.PrintLast Go.Proofs.YtfpianecohobjaaW.PrintMore
set_option linter.unusedVariables false
set_option linter.unusedSimpArgs false
def q4_given.f (k : Nat) (l0_0 : List (S68)) (l0_1 : List (S71)) (a1 : Int) (a2 : Int) : Option (Int) := (q4_Valid.f k l0_0 l0_1).bind fun bt371 => (if bt371.2 = 0 then ((q4_in.f a1 0 (wrap64 ((l0_0.length : Int) - 1))).bind fun t373 => (if t373 = true then ((q4_in.f a2 0 (wrap64 ((l0_0.length : Int) - 1))).bind fun t374 => (if t374 = true then (some 0) else (some 6))) else (some 6))) else (some bt371.2))
set_option maxHeartbeats 8000000 in
set_option maxRecDepth 100000 in
theorem q4_given.calls (k : Nat) (A0_0 : Option Addr) (c0_0 : Nat) (l0_0 : List (S68)) (A0_1 : Option Addr) (c0_1 : Nat) (l0_1 : List (S71)) (a1 : Int) (a2 : Int) (r : Int) (w : World) (hr0_0 : Kd.C k68 w A0_0 l0_0.length l0_0) (hc0_0 : l0_0.length ≤ c0_0) (hr0_1 : Kd.C k71 w A0_1 l0_1.length l0_1) (hc0_1 : l0_1.length ≤ c0_1) (h : q4_given.f k l0_0 l0_1 a1 a2 = some r) :
  Calls Try.prog 45 #[.agg #[.slice A0_0 l0_0.length c0_0, .slice A0_1 l0_1.length c0_1], .int .i64 a1, .int .i64 a2] w fun e w' => e = .returned (.int .i64 r) ∧ Below w.heap.size w w' := by
 have hu25 := Try.underlying25
 have HR0_0 := Aside0.mk hr0_0
 have HC0_0 := Aside0.mk hc0_0
 clear hr0_0 hc0_0
 have HR0_1 := Aside0.mk hr0_1
 have HC0_1 := Aside0.mk hc0_1
 clear hr0_1 hc0_1
 have HB := Aside0.mk (Below.refl w.heap.size w)
 have H : ((q4_Valid.f k l0_0 l0_1).bind fun bt371 => (if bt371.2 = 0 then ((q4_in.f a1 0 (wrap64 ((l0_0.length : Int) - 1))).bind fun t373 => (if t373 = true then ((q4_in.f a2 0 (wrap64 ((l0_0.length : Int) - 1))).bind fun t374 => (if t374 = true then (some 0) else (some 6))) else (some 6))) else (some bt371.2))) = some r := h
 clear h
 replace H := Option.bind_eq_some_iff.mp H
 obtain ⟨⟨t371, t372⟩, A40, H⟩ := H
 replace H : (if t372 = 0 then ((q4_in.f a1 0 (wrap64 ((l0_0.length : Int) - 1))).bind fun t373 => (if t373 = true then ((q4_in.f a2 0 (wrap64 ((l0_0.length : Int) - 1))).bind fun t374 => (if t374 = true then (some 0) else (some 6))) else (some 6))) else (some t372)) = some r := H
 have A4 := Aside0.mk A40
 clear A40
 by_cases c5 : t372 = 0
 ·rw [if_pos c5] at H
  have c5b0 : (t372 == 0) = true := beq_iff_eq.mpr c5
  have c5b1 : (t372 != 0) = false := bne_eq_false_iff_eq.mpr c5
  clear c5
  replace H := Option.bind_eq_some_iff.mp H
  obtain ⟨t373, A60, H⟩ := H
  replace H : (if t373 = true then ((q4_in.f a2 0 (wrap64 ((l0_0.length : Int) - 1))).bind fun t374 => (if t374 = true then (some 0) else (some 6))) else (some 6)) = some r := H
  have A6 := Aside0.mk A60
  clear A60
  by_cases c7 : t373 = true
  ·subst c7
   replace H := ift H
   replace H := Option.bind_eq_some_iff.mp H
   obtain ⟨t374, A80, H⟩ := H
   replace H : (if t374 = true then (some 0) else (some 6)) = some r := H
   have A8 := Aside0.mk A80
   clear A80
   by_cases c9 : t374 = true
   ·subst c9
    replace H := ift H
    obtain rfl := Option.some.inj H
    go_enter Try.func45, Try.ntmps45
    go_wp2_with (first | ((with_reducible refine gate_dst (N := 3) rfl ?_); (try (refine gate_guard (by rfl) ?_; dsimp only)); refine box_event ?hg (N := 3) ?hd (cs := #[.slice A0_0 l0_0.length c0_0, .slice A0_1 l0_1.length c0_1]) (t := 25) ?hr ?_; (case hd => rfl); (case hg => rfl); (case hr => first | (go_simp; done) | (go_simp; rfl)); intro gb370 hg w10 hbox hb; have BK370 := Aside0.mk (hbox); have GW370 := bsz HB hg; have GE370 := bsz HB hg; replace HB := bstep HB hb; clear hb hbox hg; obtain ⟨hcz11_0, hcz11_1, hfz11_0, hfz11_1⟩ := cz2 BK370) | ((with_reducible refine gate_callee (f := 15) rfl ?_); refine gl 11 Try.func15 #[.agg #[.slice A0_0 l0_0.length c0_0, .slice A0_1 l0_1.length c0_1]] (h := ?_); (with_reducible refine (q4_Valid.calls k _ _ l0_0 _ _ l0_1 t371 t372 _ ?side1 ?side2 ?side3 ?side4 A4.out).mono ?_); (case side1 => exact cb HR0_0 HB); (case side2 => exact HC0_0.out); (case side3 => exact cb HR0_1 HB); (case side4 => exact HC0_1.out); rintro e w12 ⟨rfl, hb⟩; refine ⟨_, rfl, ?_⟩; replace BK370 := bkb BK370 hb; replace HB := bstep HB hb; (try clear hb); (try clear hb2); (try clear hk); (try clear hi); obtain ⟨hcz13_0, hcz13_1, hfz13_0, hfz13_1⟩ := cz2 BK370) | ((with_reducible refine gate_callee (f := 47) rfl ?_); refine gl 22 Try.func47 #[.int .i64 a1, .int .i64 0, .int .i64 (wrap64 ((l0_0.length : Int) - 1))] (h := ?_); (with_reducible refine (q4_in.calls a1 0 (wrap64 ((l0_0.length : Int) - 1)) true _ A6.out).mono ?_); rintro e w' ⟨rfl, ⟨nd, rfl⟩⟩; refine ⟨_, rfl, ?_⟩) | (go_at_call 47; (with_reducible refine (q4_in.calls a2 0 (wrap64 ((l0_0.length : Int) - 1)) true _ A8.out).mono ?_); rintro e w' ⟨rfl, ⟨nd, rfl⟩⟩))
    go_ret
    exact ⟨erf, bb HB⟩
   ·replace c9 := Bool.eq_false_iff.mpr c9
    subst c9
    replace H := iff_ H
    obtain rfl := Option.some.inj H
    go_enter Try.func45, Try.ntmps45
    go_wp2_with (first | ((with_reducible refine gate_dst (N := 3) rfl ?_); (try (refine gate_guard (by rfl) ?_; dsimp only)); refine box_event ?hg (N := 3) ?hd (cs := #[.slice A0_0 l0_0.length c0_0, .slice A0_1 l0_1.length c0_1]) (t := 25) ?hr ?_; (case hd => rfl); (case hg => rfl); (case hr => first | (go_simp; done) | (go_simp; rfl)); intro gb370 hg w14 hbox hb; have BK370 := Aside0.mk (hbox); have GW370 := bsz HB hg; have GE370 := bsz HB hg; replace HB := bstep HB hb; clear hb hbox hg; obtain ⟨hcz15_0, hcz15_1, hfz15_0, hfz15_1⟩ := cz2 BK370) | ((with_reducible refine gate_callee (f := 15) rfl ?_); refine gl 11 Try.func15 #[.agg #[.slice A0_0 l0_0.length c0_0, .slice A0_1 l0_1.length c0_1]] (h := ?_); (with_reducible refine (q4_Valid.calls k _ _ l0_0 _ _ l0_1 t371 t372 _ ?side1 ?side2 ?side3 ?side4 A4.out).mono ?_); (case side1 => exact cb HR0_0 HB); (case side2 => exact HC0_0.out); (case side3 => exact cb HR0_1 HB); (case side4 => exact HC0_1.out); rintro e w16 ⟨rfl, hb⟩; refine ⟨_, rfl, ?_⟩; replace BK370 := bkb BK370 hb; replace HB := bstep HB hb; (try clear hb); (try clear hb2); (try clear hk); (try clear hi); obtain ⟨hcz17_0, hcz17_1, hfz17_0, hfz17_1⟩ := cz2 BK370) | ((with_reducible refine gate_callee (f := 47) rfl ?_); refine gl 22 Try.func47 #[.int .i64 a1, .int .i64 0, .int .i64 (wrap64 ((l0_0.length : Int) - 1))] (h := ?_); (with_reducible refine (q4_in.calls a1 0 (wrap64 ((l0_0.length : Int) - 1)) true _ A6.out).mono ?_); rintro e w' ⟨rfl, ⟨nd, rfl⟩⟩; refine ⟨_, rfl, ?_⟩) | (go_at_call 47; (with_reducible refine (q4_in.calls a2 0 (wrap64 ((l0_0.length : Int) - 1)) false _ A8.out).mono ?_); rintro e w' ⟨rfl, ⟨nd, rfl⟩⟩))
    go_ret
    exact ⟨erf, bb HB⟩
  ·replace c7 := Bool.eq_false_iff.mpr c7
   subst c7
   replace H := iff_ H
   obtain rfl := Option.some.inj H
   go_enter Try.func45, Try.ntmps45
   go_wp2_with (first | ((with_reducible refine gate_dst (N := 3) rfl ?_); (try (refine gate_guard (by rfl) ?_; dsimp only)); refine box_event ?hg (N := 3) ?hd (cs := #[.slice A0_0 l0_0.length c0_0, .slice A0_1 l0_1.length c0_1]) (t := 25) ?hr ?_; (case hd => rfl); (case hg => rfl); (case hr => first | (go_simp; done) | (go_simp; rfl)); intro gb370 hg w18 hbox hb; have BK370 := Aside0.mk (hbox); have GW370 := bsz HB hg; have GE370 := bsz HB hg; replace HB := bstep HB hb; clear hb hbox hg; obtain ⟨hcz19_0, hcz19_1, hfz19_0, hfz19_1⟩ := cz2 BK370) | ((with_reducible refine gate_callee (f := 15) rfl ?_); refine gl 11 Try.func15 #[.agg #[.slice A0_0 l0_0.length c0_0, .slice A0_1 l0_1.length c0_1]] (h := ?_); (with_reducible refine (q4_Valid.calls k _ _ l0_0 _ _ l0_1 t371 t372 _ ?side1 ?side2 ?side3 ?side4 A4.out).mono ?_); (case side1 => exact cb HR0_0 HB); (case side2 => exact HC0_0.out); (case side3 => exact cb HR0_1 HB); (case side4 => exact HC0_1.out); rintro e w20 ⟨rfl, hb⟩; refine ⟨_, rfl, ?_⟩; replace BK370 := bkb BK370 hb; replace HB := bstep HB hb; (try clear hb); (try clear hb2); (try clear hk); (try clear hi); obtain ⟨hcz21_0, hcz21_1, hfz21_0, hfz21_1⟩ := cz2 BK370) | ((with_reducible refine gate_callee (f := 47) rfl ?_); refine gl 22 Try.func47 #[.int .i64 a1, .int .i64 0, .int .i64 (wrap64 ((l0_0.length : Int) - 1))] (h := ?_); (with_reducible refine (q4_in.calls a1 0 (wrap64 ((l0_0.length : Int) - 1)) false _ A6.out).mono ?_); rintro e w' ⟨rfl, ⟨nd, rfl⟩⟩; refine ⟨_, rfl, ?_⟩))
   go_ret
   exact ⟨erf, bb HB⟩
 ·rw [if_neg c5] at H
  have c5b0 : (t372 == 0) = false := beq_eq_false_iff_ne.mpr c5
  have c5b1 : (t372 != 0) = true := bne_iff_ne.mpr c5
  obtain rfl := Option.some.inj H
  go_enter Try.func45, Try.ntmps45
  go_wp2_with (first | ((with_reducible refine gate_dst (N := 3) rfl ?_); (try (refine gate_guard (by rfl) ?_; dsimp only)); refine box_event ?hg (N := 3) ?hd (cs := #[.slice A0_0 l0_0.length c0_0, .slice A0_1 l0_1.length c0_1]) (t := 25) ?hr ?_; (case hd => rfl); (case hg => rfl); (case hr => first | (go_simp; done) | (go_simp; rfl)); intro gb370 hg w22 hbox hb; have BK370 := Aside0.mk (hbox); have GW370 := bsz HB hg; have GE370 := bsz HB hg; replace HB := bstep HB hb; clear hb hbox hg; obtain ⟨hcz23_0, hcz23_1, hfz23_0, hfz23_1⟩ := cz2 BK370) | ((with_reducible refine gate_callee (f := 15) rfl ?_); refine gl 11 Try.func15 #[.agg #[.slice A0_0 l0_0.length c0_0, .slice A0_1 l0_1.length c0_1]] (h := ?_); (with_reducible refine (q4_Valid.calls k _ _ l0_0 _ _ l0_1 t371 t372 _ ?side1 ?side2 ?side3 ?side4 A4.out).mono ?_); (case side1 => exact cb HR0_0 HB); (case side2 => exact HC0_0.out); (case side3 => exact cb HR0_1 HB); (case side4 => exact HC0_1.out); rintro e w24 ⟨rfl, hb⟩; refine ⟨_, rfl, ?_⟩; replace BK370 := bkb BK370 hb; replace HB := bstep HB hb; (try clear hb); (try clear hb2); (try clear hk); (try clear hi)))
  go_ret
  exact ⟨erf, bb HB⟩
end Go.Proofs.Ytfpianecohobjaa.P
