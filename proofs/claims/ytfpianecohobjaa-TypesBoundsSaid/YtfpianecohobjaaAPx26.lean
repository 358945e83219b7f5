/- typesOrder_holds, typesBounds_holds, typesInherit_holds: a part of the proof that the law returns true for every input. No condition. -/
import Derived.Test.YtfpianecohobjaaAPx0
import Derived.Test.YtfpianecohobjaaAPx10
import Derived.Test.YtfpianecohobjaaAPx22
import Derived.Test.YtfpianecohobjaaAPx24
import Derived.Test.YtfpianecohobjaaAPx9
namespace Go.Proofs.Ytfpianecohobjaa.P
open Go.RowKit Go.Proofs.YtfpianecohobjaaW.PrintWords Go.Proofs.YtfpianecohobjaaW.PrintLast Go.Proofs.YtfpianecohobjaaW.PrintMore
set_option linter.unusedVariables false
set_option linter.unusedSimpArgs false
mutual
def w4_TypesBounds.j0 : Nat → Int → Int → Int → Int → Int → Bool → List (S68) → List (S71) → Option (Bool)
 | 0, _, _, _, _, _, _, _, _ => none
 | k + 1, x7, x8, x9, x10, x11, x12, x465000, x465001 => if x11 = 0 then ((types_Is.f k x465000 x465001 x10 x7).bind fun t469 => (if t469 = true then ((types_Is.f k x465000 x465001 x10 x8).bind fun t470 => (if t470 = true then ((types_Is.f k x465000 x465001 x9 x10).bind fun t471 => (w4_TypesBounds.j1 k x7 x8 x9 x11 x12 (x12 != t471) x465000 x465001)) else (w4_TypesBounds.j1 k x7 x8 x9 x11 x12 true x465000 x465001))) else (w4_TypesBounds.j1 k x7 x8 x9 x11 x12 true x465000 x465001))) else (w4_TypesBounds.j1 k x7 x8 x9 x11 x12 false x465000 x465001)
def w4_TypesBounds.j1 : Nat → Int → Int → Int → Int → Bool → Bool → List (S68) → List (S71) → Option (Bool)
 | 0, _, _, _, _, _, _, _, _ => none
 | k + 1, x7, x8, x9, x11, x12, x78, x465000, x465001 => if x78 = true then (some false) else (if x11 = 0 then (w4_TypesBounds.j2 k x7 x8 x9 false x465000 x465001) else (if x11 = 13 then (w4_TypesBounds.j2 k x7 x8 x9 x12 x465000 x465001) else (w4_TypesBounds.j2 k x7 x8 x9 true x465000 x465001)))
def w4_TypesBounds.j2 : Nat → Int → Int → Int → Bool → List (S68) → List (S71) → Option (Bool)
 | 0, _, _, _, _, _, _ => none
 | k + 1, x7, x8, x9, x87, x465000, x465001 => if x87 = true then (some false) else ((types_Join.f k x465000 x465001 x7 x8).bind fun bt472 => ((types_Is.f k x465000 x465001 x7 x9).bind fun t474 => (if t474 = true then ((types_Is.f k x465000 x465001 x8 x9).bind fun t475 => (w4_TypesBounds.j3 k x7 x8 x9 bt472.1 bt472.2 t475 x465000 x465001)) else (w4_TypesBounds.j3 k x7 x8 x9 bt472.1 bt472.2 false x465000 x465001))))
def w4_TypesBounds.j3 : Nat → Int → Int → Int → Int → Int → Bool → List (S68) → List (S71) → Option (Bool)
 | 0, _, _, _, _, _, _, _, _ => none
 | k + 1, x7, x8, x9, x13, x14, x15, x465000, x465001 => if x14 = 0 then ((types_Is.f k x465000 x465001 x7 x13).bind fun t476 => (if t476 = true then ((types_Is.f k x465000 x465001 x8 x13).bind fun t477 => (if t477 = true then ((types_Is.f k x465000 x465001 x13 x9).bind fun t478 => (some (x15 == t478))) else (some false))) else (some false))) else (if x14 = 10 then (some (!x15)) else (some false))
end
def w4_TypesBounds.f (k : Nat) (l0 : List (S81)) (a1_0 : Int) (a1_1 : Int) (a1_2 : Int) : Option (Bool) := (w4_awake.f k).bind fun t457 => (if t457 = true then ((q4_Made.f k l0 ([] : List (S81))).bind fun bt458 => (if (bt458.1.length : Int) = 0 then (none) else ((types_Meet.f k bt458.1 bt458.2 (Int.tmod (wrap64 (a1_0)) (bt458.1.length : Int)) (Int.tmod (wrap64 (a1_1)) (bt458.1.length : Int))).bind fun bt465 => ((types_Is.f k bt458.1 bt458.2 (Int.tmod (wrap64 (a1_2)) (bt458.1.length : Int)) (Int.tmod (wrap64 (a1_0)) (bt458.1.length : Int))).bind fun t467 => (if t467 = true then ((types_Is.f k bt458.1 bt458.2 (Int.tmod (wrap64 (a1_2)) (bt458.1.length : Int)) (Int.tmod (wrap64 (a1_1)) (bt458.1.length : Int))).bind fun t468 => (w4_TypesBounds.j0 k (Int.tmod (wrap64 (a1_0)) (bt458.1.length : Int)) (Int.tmod (wrap64 (a1_1)) (bt458.1.length : Int)) (Int.tmod (wrap64 (a1_2)) (bt458.1.length : Int)) bt465.1 bt465.2 t468 bt458.1 bt458.2)) else (w4_TypesBounds.j0 k (Int.tmod (wrap64 (a1_0)) (bt458.1.length : Int)) (Int.tmod (wrap64 (a1_1)) (bt458.1.length : Int)) (Int.tmod (wrap64 (a1_2)) (bt458.1.length : Int)) bt465.1 bt465.2 false bt458.1 bt458.2)))))) else (some false))
set_option maxHeartbeats 8000000 in
set_option maxRecDepth 100000 in
theorem w4_TypesBounds.calls (k : Nat) (A0 : Option Addr) (c0 : Nat) (l0 : List (S81)) (a1_0 : Int) (a1_1 : Int) (a1_2 : Int) (r : Bool) (w : World) (hr0 : Kd.C k81 w A0 l0.length l0) (hc0 : l0.length ≤ c0) (h : w4_TypesBounds.f k l0 a1_0 a1_1 a1_2 = some r) :
  Calls Try.prog 7 #[.slice A0 l0.length c0, .agg #[.int .u8 a1_0, .int .u8 a1_1, .int .u8 a1_2]] w fun e w' => e = .returned (.bool r) ∧ Below w.heap.size w w' := by
 have hu35 := Try.underlying35
 have hu25 := Try.underlying25
 have HR0 := Aside0.mk hr0
 have HC0 := Aside0.mk hc0
 clear hr0 hc0
 have HB := Aside0.mk (Below.refl w.heap.size w)
 have H : ((w4_awake.f k).bind fun t457 => (if t457 = true then ((q4_Made.f k l0 ([] : List (S81))).bind fun bt458 => (if (bt458.1.length : Int) = 0 then (none) else ((types_Meet.f k bt458.1 bt458.2 (Int.tmod (wrap64 (a1_0)) (bt458.1.length : Int)) (Int.tmod (wrap64 (a1_1)) (bt458.1.length : Int))).bind fun bt465 => ((types_Is.f k bt458.1 bt458.2 (Int.tmod (wrap64 (a1_2)) (bt458.1.length : Int)) (Int.tmod (wrap64 (a1_0)) (bt458.1.length : Int))).bind fun t467 => (if t467 = true then ((types_Is.f k bt458.1 bt458.2 (Int.tmod (wrap64 (a1_2)) (bt458.1.length : Int)) (Int.tmod (wrap64 (a1_1)) (bt458.1.length : Int))).bind fun t468 => (w4_TypesBounds.j0 k (Int.tmod (wrap64 (a1_0)) (bt458.1.length : Int)) (Int.tmod (wrap64 (a1_1)) (bt458.1.length : Int)) (Int.tmod (wrap64 (a1_2)) (bt458.1.length : Int)) bt465.1 bt465.2 t468 bt458.1 bt458.2)) else (w4_TypesBounds.j0 k (Int.tmod (wrap64 (a1_0)) (bt458.1.length : Int)) (Int.tmod (wrap64 (a1_1)) (bt458.1.length : Int)) (Int.tmod (wrap64 (a1_2)) (bt458.1.length : Int)) bt465.1 bt465.2 false bt458.1 bt458.2)))))) else (some false))) = some r := h
 clear h
 replace H := Option.bind_eq_some_iff.mp H
 obtain ⟨t457, A30, H⟩ := H
 replace H : (if t457 = true then ((q4_Made.f k l0 ([] : List (S81))).bind fun bt458 => (if (bt458.1.length : Int) = 0 then (none) else ((types_Meet.f k bt458.1 bt458.2 (Int.tmod (wrap64 (a1_0)) (bt458.1.length : Int)) (Int.tmod (wrap64 (a1_1)) (bt458.1.length : Int))).bind fun bt465 => ((types_Is.f k bt458.1 bt458.2 (Int.tmod (wrap64 (a1_2)) (bt458.1.length : Int)) (Int.tmod (wrap64 (a1_0)) (bt458.1.length : Int))).bind fun t467 => (if t467 = true then ((types_Is.f k bt458.1 bt458.2 (Int.tmod (wrap64 (a1_2)) (bt458.1.length : Int)) (Int.tmod (wrap64 (a1_1)) (bt458.1.length : Int))).bind fun t468 => (w4_TypesBounds.j0 k (Int.tmod (wrap64 (a1_0)) (bt458.1.length : Int)) (Int.tmod (wrap64 (a1_1)) (bt458.1.length : Int)) (Int.tmod (wrap64 (a1_2)) (bt458.1.length : Int)) bt465.1 bt465.2 t468 bt458.1 bt458.2)) else (w4_TypesBounds.j0 k (Int.tmod (wrap64 (a1_0)) (bt458.1.length : Int)) (Int.tmod (wrap64 (a1_1)) (bt458.1.length : Int)) (Int.tmod (wrap64 (a1_2)) (bt458.1.length : Int)) bt465.1 bt465.2 false bt458.1 bt458.2)))))) else (some false)) = some r := H
 have A3 := Aside0.mk A30
 clear A30
 by_cases c4 : t457 = true
 ·subst c4
  replace H := ift H
  replace H := Option.bind_eq_some_iff.mp H
  obtain ⟨⟨t458, t461⟩, A50, H⟩ := H
  replace H : (if (t458.length : Int) = 0 then (none) else ((types_Meet.f k t458 t461 (Int.tmod (wrap64 (a1_0)) (t458.length : Int)) (Int.tmod (wrap64 (a1_1)) (t458.length : Int))).bind fun bt465 => ((types_Is.f k t458 t461 (Int.tmod (wrap64 (a1_2)) (t458.length : Int)) (Int.tmod (wrap64 (a1_0)) (t458.length : Int))).bind fun t467 => (if t467 = true then ((types_Is.f k t458 t461 (Int.tmod (wrap64 (a1_2)) (t458.length : Int)) (Int.tmod (wrap64 (a1_1)) (t458.length : Int))).bind fun t468 => (w4_TypesBounds.j0 k (Int.tmod (wrap64 (a1_0)) (t458.length : Int)) (Int.tmod (wrap64 (a1_1)) (t458.length : Int)) (Int.tmod (wrap64 (a1_2)) (t458.length : Int)) bt465.1 bt465.2 t468 t458 t461)) else (w4_TypesBounds.j0 k (Int.tmod (wrap64 (a1_0)) (t458.length : Int)) (Int.tmod (wrap64 (a1_1)) (t458.length : Int)) (Int.tmod (wrap64 (a1_2)) (t458.length : Int)) bt465.1 bt465.2 false t458 t461))))) = some r := H
  have A5 := Aside0.mk A50
  clear A50
  by_cases c6 : (t458.length : Int) = 0
  ·rw [if_pos c6] at H
   exact absurd H (by simp)
  ·rw [if_neg c6] at H
   have c6b0 : ((t458.length : Int) == 0) = false := beq_eq_false_iff_ne.mpr c6
   have c6b1 : ((t458.length : Int) != 0) = true := bne_iff_ne.mpr c6
   have c6b2 : ¬ (t458 = []) := fun h_ => c6 (by rw [h_]; rfl)
   replace H := Option.bind_eq_some_iff.mp H
   obtain ⟨⟨t465, t466⟩, A70, H⟩ := H
   replace H : ((types_Is.f k t458 t461 (Int.tmod (wrap64 (a1_2)) (t458.length : Int)) (Int.tmod (wrap64 (a1_0)) (t458.length : Int))).bind fun t467 => (if t467 = true then ((types_Is.f k t458 t461 (Int.tmod (wrap64 (a1_2)) (t458.length : Int)) (Int.tmod (wrap64 (a1_1)) (t458.length : Int))).bind fun t468 => (w4_TypesBounds.j0 k (Int.tmod (wrap64 (a1_0)) (t458.length : Int)) (Int.tmod (wrap64 (a1_1)) (t458.length : Int)) (Int.tmod (wrap64 (a1_2)) (t458.length : Int)) t465 t466 t468 t458 t461)) else (w4_TypesBounds.j0 k (Int.tmod (wrap64 (a1_0)) (t458.length : Int)) (Int.tmod (wrap64 (a1_1)) (t458.length : Int)) (Int.tmod (wrap64 (a1_2)) (t458.length : Int)) t465 t466 false t458 t461))) = some r := H
   have A7 := Aside0.mk A70
   clear A70
   have HC8 := Aside0.mk H
   clear H
   go_enter Try.func7, Try.ntmps7
   go_upto_region 7 with (first | ((with_reducible refine gate_dst (N := 3) rfl ?_); refine box_event ?hg (N := 3) ?hd (cs := #[.int .u8 a1_0, .int .u8 a1_1, .int .u8 a1_2]) (t := 35) ?hr ?_; (case hd => rfl); (case hg => rfl); (case hr => first | (go_simp; done) | (go_simp; rfl)); intro gb456 hg w9 hbox hb; have BK456 := Aside0.mk (hbox); have GW456 := bsz HB hg; have GE456 := bsz HB hg; replace HB := bstep HB hb; clear hb hbox hg) | (go_at_call 12; (with_reducible refine (w4_awake.calls k  true _ A3.out).mono ?_); rintro e w10 ⟨rfl, hb⟩; replace BK456 := bkb BK456 hb; replace HB := bstep HB hb; (try clear hb); (try clear hb2); (try clear hk); (try clear hi)) | (go_at_call 22; (refine (q4_Made.calls k _ _ l0 _ _ ([] : List (S81)) t458 t461 _ ?side1 ?side2 ?side3 ?side4 A5.out).mono ?_); (case side1 => exact cb HR0 HB); (case side2 => exact HC0.out); (case side3 => exact Kd.C_nil _ _); (case side4 => exact Nat.le_refl _); rintro e w11 ⟨v459, v462, rfl, ho0, ho1, hb⟩; have HO460 := Aside0.mk (Kd.N_lower (Kd.N_mono (ok' := fun k_ => some k_ ≠ (v462 : Value).ownBlock ∧ k_ ≠ gb456) ho0 (fun k_ hk_ => ⟨hk_.2, (Kd.freshB (g := gb456) (o := .cells #[.int .u8 a1_0, .int .u8 a1_1, .int .u8 a1_2] 35 (0, 0)) (bk BK456) k_ hk_.1)⟩)) (below_size (bb HB))); have HO463 := Aside0.mk (Kd.R_lower (Kd.R_mono (ok' := fun k_ => True) ho1 (fun _ hk_ => trivial)) (below_size (bb HB))); replace BK456 := bkb BK456 hb; replace HB := bstep HB hb; (try clear hb); (try clear hb2); (try clear hk); (try clear hi); (try clear ho0); (try clear ho1)) | ((with_reducible refine gate_dst (N := 5) rfl ?_); refine box_event ?hg (N := 5) ?hd (cs := #[.slice none 0 0, .slice none 0 0]) (t := 25) ?hr ?_; (case hd => rfl); (case hg => rfl); (case hr => first | (go_simp; done) | (go_simp; rfl)); intro gb464 hg w12 hbox hb; replace HO460 := Aside0.mk (Kd.N_below (Kd.N_elderB (kN HO460) gb464 (Nat.le_of_eq hg.symm)) hb); replace HO463 := kRb HO463 hb; have BK464 := Aside0.mk (hbox); have GW464 := bsz HB hg; have GE464 := bsz HB hg; replace HB := bstep HB hb; have NB456_464 := blt BK456 hg; have NB464_456 := bgt BK456 hg; replace BK456 := bkb BK456 hb; clear hb hbox hg; obtain ⟨Ao13, co13, eo13⟩ := Kd.N_slice HO460.out; subst eo13; have hnb14 := NB464_456.out; have hnc14 := NB456_464.out; obtain ⟨hcz15_0, hcz15_1, hfz15_0, hfz15_1⟩ := cz2 BK464; obtain ⟨Ao16, co16, eo16⟩ := Kd.R_slice HO463.out; subst eo16; obtain ⟨hcz17_0, hcz17_1, hcz17_2, hfz17_0, hfz17_1, hfz17_2⟩ := cz3 BK456) | (go_at_call 16; (with_reducible refine (types_Meet.calls k _ _ t458 _ _ t461 (Int.tmod (wrap64 (a1_0)) (t458.length : Int)) (Int.tmod (wrap64 (a1_1)) (t458.length : Int)) t465 t466 _ ?side1 ?side2 ?side3 ?side4 A7.out).mono ?_); (case side1 => refine (Kd.N_reads' (e := 68) (base := w.heap.size) (ok := fun k_ => ((some k_ ≠ (.slice Ao16 t461.length co16 : Value).ownBlock ∧ k_ ≠ gb456) ∧ k_ ≠ gb464)) (n := t458.length) (c := co13) ?_).2.2; exact (by (with_reducible repeat (first | apply Kd.N_alloc | apply Kd.N_drewN | apply Kd.N_drew)); exact (Kd.N_mono (Kd.N_far (p := ⟨gb464, 1, none⟩) (Kd.N_far (p := ⟨gb464, 0, none⟩) (Kd.N_mono HO460.out (fun k_ hk => (⟨hk, hk.2⟩ : _ ∧ k_ ≠ gb464))) (fun _ hk => hk.2) (.slice Ao13 t458.length co13)) (fun _ hk => hk.2) (.slice Ao16 t461.length co16)) (fun _ h_ => h_.1)))); (case side2 => exact (Kd.N_reads' HO460.out).2.1); (case side3 => refine (Kd.R_reads' (e := 71) (base := w.heap.size) (ok := fun k_ => True) (n := t461.length) (c := co16) ?_).2.2; exact (by (with_reducible repeat (first | apply Kd.R_alloc | apply Kd.R_drewN | apply Kd.R_drew)); exact (Kd.R_mono (Kd.R_far (p := ⟨gb464, 1, none⟩) (Kd.R_far (p := ⟨gb464, 0, none⟩) (Kd.R_types HO463.out BK464.out (by decide)) (fun _ hk => hk.2) (.slice Ao13 t458.length co13)) (fun _ hk => hk.2) (.slice Ao16 t461.length co16)) (fun _ h_ => h_.1)))); (case side4 => exact (Kd.R_reads' HO463.out).2.1); rintro e w18 ⟨rfl, hb⟩; replace HO460 := Aside0.mk (Kd.N_below (by (with_reducible repeat (first | apply Kd.N_alloc | apply Kd.N_drewN | apply Kd.N_drew)); exact (Kd.N_mono (Kd.N_far (p := ⟨gb464, 1, none⟩) (Kd.N_far (p := ⟨gb464, 0, none⟩) (Kd.N_mono HO460.out (fun k_ hk => (⟨hk, hk.2⟩ : _ ∧ k_ ≠ gb464))) (fun _ hk => hk.2) (.slice Ao13 t458.length co13)) (fun _ hk => hk.2) (.slice Ao16 t461.length co16)) (fun _ h_ => h_.1))) hb); replace HO463 := Aside0.mk (Kd.R_below (by (with_reducible repeat (first | apply Kd.R_alloc | apply Kd.R_drewN | apply Kd.R_drew)); exact (Kd.R_mono (Kd.R_far (p := ⟨gb464, 1, none⟩) (Kd.R_far (p := ⟨gb464, 0, none⟩) (Kd.R_types HO463.out BK464.out (by decide)) (fun _ hk => hk.2) (.slice Ao13 t458.length co13)) (fun _ hk => hk.2) (.slice Ao16 t461.length co16)) (fun _ h_ => h_.1))) hb); replace BK456 := Aside0.mk (blk_below (g := gb456) (o := .cells #[.int .u8 a1_0, .int .u8 a1_1, .int .u8 a1_2] 35 (0, 0)) (by (with_reducible repeat (first | refine blk_drewN ?_ _ | refine blk_drew ?_ | refine blk_alloc ?_ _)); refine blk_far ?_ NB456_464.out _; (with_reducible repeat (first | refine blk_drewN ?_ _ | refine blk_drew ?_ | refine blk_alloc ?_ _)); refine blk_far ?_ NB456_464.out _; (with_reducible repeat (first | refine blk_drewN ?_ _ | refine blk_drew ?_ | refine blk_alloc ?_ _)); exact BK456.out) hb); replace BK464 := Aside0.mk (blk_below (g := gb464) (o := .cells #[.slice Ao13 t458.length co13, .slice Ao16 t461.length co16] 25 (0, 0)) (by (with_reducible repeat (first | refine blk_drewN ?_ _ | refine blk_drew ?_ | refine blk_alloc ?_ _)); refine blk_put (cs := #[.slice Ao13 t458.length co13, .slice none 0 0]) ?_ 1 _ rfl; (with_reducible repeat (first | refine blk_drewN ?_ _ | refine blk_drew ?_ | refine blk_alloc ?_ _)); refine blk_put (cs := #[.slice none 0 0, .slice none 0 0]) ?_ 0 _ rfl; (with_reducible repeat (first | refine blk_drewN ?_ _ | refine blk_drew ?_ | refine blk_alloc ?_ _)); exact BK464.out) hb); replace HB := bstep HB hb; (try clear hb); (try clear hb2); (try clear hk); (try clear hi)))
   repeat (go_quiet (first | ((with_reducible refine gate_dst (N := 3) rfl ?_); refine box_event ?hg (N := 3) ?hd (cs := #[.int .u8 a1_0, .int .u8 a1_1, .int .u8 a1_2]) (t := 35) ?hr ?_; (case hd => rfl); (case hg => rfl); (case hr => first | (go_simp; done) | (go_simp; rfl)); intro gb456 hg w9 hbox hb; have BK456 := Aside0.mk (hbox); have GW456 := bsz HB hg; have GE456 := bsz HB hg; replace HB := bstep HB hb; clear hb hbox hg) | (go_at_call 12; (with_reducible refine (w4_awake.calls k  true _ A3.out).mono ?_); rintro e w10 ⟨rfl, hb⟩; replace BK456 := bkb BK456 hb; replace HB := bstep HB hb; (try clear hb); (try clear hb2); (try clear hk); (try clear hi)) | (go_at_call 22; (refine (q4_Made.calls k _ _ l0 _ _ ([] : List (S81)) t458 t461 _ ?side1 ?side2 ?side3 ?side4 A5.out).mono ?_); (case side1 => exact cb HR0 HB); (case side2 => exact HC0.out); (case side3 => exact Kd.C_nil _ _); (case side4 => exact Nat.le_refl _); rintro e w11 ⟨v459, v462, rfl, ho0, ho1, hb⟩; have HO460 := Aside0.mk (Kd.N_lower (Kd.N_mono (ok' := fun k_ => some k_ ≠ (v462 : Value).ownBlock ∧ k_ ≠ gb456) ho0 (fun k_ hk_ => ⟨hk_.2, (Kd.freshB (g := gb456) (o := .cells #[.int .u8 a1_0, .int .u8 a1_1, .int .u8 a1_2] 35 (0, 0)) (bk BK456) k_ hk_.1)⟩)) (below_size (bb HB))); have HO463 := Aside0.mk (Kd.R_lower (Kd.R_mono (ok' := fun k_ => True) ho1 (fun _ hk_ => trivial)) (below_size (bb HB))); replace BK456 := bkb BK456 hb; replace HB := bstep HB hb; (try clear hb); (try clear hb2); (try clear hk); (try clear hi); (try clear ho0); (try clear ho1)) | ((with_reducible refine gate_dst (N := 5) rfl ?_); refine box_event ?hg (N := 5) ?hd (cs := #[.slice none 0 0, .slice none 0 0]) (t := 25) ?hr ?_; (case hd => rfl); (case hg => rfl); (case hr => first | (go_simp; done) | (go_simp; rfl)); intro gb464 hg w12 hbox hb; replace HO460 := Aside0.mk (Kd.N_below (Kd.N_elderB (kN HO460) gb464 (Nat.le_of_eq hg.symm)) hb); replace HO463 := kRb HO463 hb; have BK464 := Aside0.mk (hbox); have GW464 := bsz HB hg; have GE464 := bsz HB hg; replace HB := bstep HB hb; have NB456_464 := blt BK456 hg; have NB464_456 := bgt BK456 hg; replace BK456 := bkb BK456 hb; clear hb hbox hg; obtain ⟨Ao13, co13, eo13⟩ := Kd.N_slice HO460.out; subst eo13; have hnb14 := NB464_456.out; have hnc14 := NB456_464.out; obtain ⟨hcz15_0, hcz15_1, hfz15_0, hfz15_1⟩ := cz2 BK464; obtain ⟨Ao16, co16, eo16⟩ := Kd.R_slice HO463.out; subst eo16; obtain ⟨hcz17_0, hcz17_1, hcz17_2, hfz17_0, hfz17_1, hfz17_2⟩ := cz3 BK456) | (go_at_call 16; (with_reducible refine (types_Meet.calls k _ _ t458 _ _ t461 (Int.tmod (wrap64 (a1_0)) (t458.length : Int)) (Int.tmod (wrap64 (a1_1)) (t458.length : Int)) t465 t466 _ ?side1 ?side2 ?side3 ?side4 A7.out).mono ?_); (case side1 => refine (Kd.N_reads' (e := 68) (base := w.heap.size) (ok := fun k_ => ((some k_ ≠ (.slice Ao16 t461.length co16 : Value).ownBlock ∧ k_ ≠ gb456) ∧ k_ ≠ gb464)) (n := t458.length) (c := co13) ?_).2.2; exact (by (with_reducible repeat (first | apply Kd.N_alloc | apply Kd.N_drewN | apply Kd.N_drew)); exact (Kd.N_mono (Kd.N_far (p := ⟨gb464, 1, none⟩) (Kd.N_far (p := ⟨gb464, 0, none⟩) (Kd.N_mono HO460.out (fun k_ hk => (⟨hk, hk.2⟩ : _ ∧ k_ ≠ gb464))) (fun _ hk => hk.2) (.slice Ao13 t458.length co13)) (fun _ hk => hk.2) (.slice Ao16 t461.length co16)) (fun _ h_ => h_.1)))); (case side2 => exact (Kd.N_reads' HO460.out).2.1); (case side3 => refine (Kd.R_reads' (e := 71) (base := w.heap.size) (ok := fun k_ => True) (n := t461.length) (c := co16) ?_).2.2; exact (by (with_reducible repeat (first | apply Kd.R_alloc | apply Kd.R_drewN | apply Kd.R_drew)); exact (Kd.R_mono (Kd.R_far (p := ⟨gb464, 1, none⟩) (Kd.R_far (p := ⟨gb464, 0, none⟩) (Kd.R_types HO463.out BK464.out (by decide)) (fun _ hk => hk.2) (.slice Ao13 t458.length co13)) (fun _ hk => hk.2) (.slice Ao16 t461.length co16)) (fun _ h_ => h_.1)))); (case side4 => exact (Kd.R_reads' HO463.out).2.1); rintro e w18 ⟨rfl, hb⟩; replace HO460 := Aside0.mk (Kd.N_below (by (with_reducible repeat (first | apply Kd.N_alloc | apply Kd.N_drewN | apply Kd.N_drew)); exact (Kd.N_mono (Kd.N_far (p := ⟨gb464, 1, none⟩) (Kd.N_far (p := ⟨gb464, 0, none⟩) (Kd.N_mono HO460.out (fun k_ hk => (⟨hk, hk.2⟩ : _ ∧ k_ ≠ gb464))) (fun _ hk => hk.2) (.slice Ao13 t458.length co13)) (fun _ hk => hk.2) (.slice Ao16 t461.length co16)) (fun _ h_ => h_.1))) hb); replace HO463 := Aside0.mk (Kd.R_below (by (with_reducible repeat (first | apply Kd.R_alloc | apply Kd.R_drewN | apply Kd.R_drew)); exact (Kd.R_mono (Kd.R_far (p := ⟨gb464, 1, none⟩) (Kd.R_far (p := ⟨gb464, 0, none⟩) (Kd.R_types HO463.out BK464.out (by decide)) (fun _ hk => hk.2) (.slice Ao13 t458.length co13)) (fun _ hk => hk.2) (.slice Ao16 t461.length co16)) (fun _ h_ => h_.1))) hb); replace BK456 := Aside0.mk (blk_below (g := gb456) (o := .cells #[.int .u8 a1_0, .int .u8 a1_1, .int .u8 a1_2] 35 (0, 0)) (by (with_reducible repeat (first | refine blk_drewN ?_ _ | refine blk_drew ?_ | refine blk_alloc ?_ _)); refine blk_far ?_ NB456_464.out _; (with_reducible repeat (first | refine blk_drewN ?_ _ | refine blk_drew ?_ | refine blk_alloc ?_ _)); refine blk_far ?_ NB456_464.out _; (with_reducible repeat (first | refine blk_drewN ?_ _ | refine blk_drew ?_ | refine blk_alloc ?_ _)); exact BK456.out) hb); replace BK464 := Aside0.mk (blk_below (g := gb464) (o := .cells #[.slice Ao13 t458.length co13, .slice Ao16 t461.length co16] 25 (0, 0)) (by (with_reducible repeat (first | refine blk_drewN ?_ _ | refine blk_drew ?_ | refine blk_alloc ?_ _)); refine blk_put (cs := #[.slice Ao13 t458.length co13, .slice none 0 0]) ?_ 1 _ rfl; (with_reducible repeat (first | refine blk_drewN ?_ _ | refine blk_drew ?_ | refine blk_alloc ?_ _)); refine blk_put (cs := #[.slice none 0 0, .slice none 0 0]) ?_ 0 _ rfl; (with_reducible repeat (first | refine blk_drewN ?_ _ | refine blk_drew ?_ | refine blk_alloc ?_ _)); exact BK464.out) hb); replace HB := bstep HB hb; (try clear hb); (try clear hb2); (try clear hk); (try clear hi))); go_upto_region 7 with (first | ((with_reducible refine gate_dst (N := 3) rfl ?_); refine box_event ?hg (N := 3) ?hd (cs := #[.int .u8 a1_0, .int .u8 a1_1, .int .u8 a1_2]) (t := 35) ?hr ?_; (case hd => rfl); (case hg => rfl); (case hr => first | (go_simp; done) | (go_simp; rfl)); intro gb456 hg w9 hbox hb; have BK456 := Aside0.mk (hbox); have GW456 := bsz HB hg; have GE456 := bsz HB hg; replace HB := bstep HB hb; clear hb hbox hg) | (go_at_call 12; (with_reducible refine (w4_awake.calls k  true _ A3.out).mono ?_); rintro e w10 ⟨rfl, hb⟩; replace BK456 := bkb BK456 hb; replace HB := bstep HB hb; (try clear hb); (try clear hb2); (try clear hk); (try clear hi)) | (go_at_call 22; (refine (q4_Made.calls k _ _ l0 _ _ ([] : List (S81)) t458 t461 _ ?side1 ?side2 ?side3 ?side4 A5.out).mono ?_); (case side1 => exact cb HR0 HB); (case side2 => exact HC0.out); (case side3 => exact Kd.C_nil _ _); (case side4 => exact Nat.le_refl _); rintro e w11 ⟨v459, v462, rfl, ho0, ho1, hb⟩; have HO460 := Aside0.mk (Kd.N_lower (Kd.N_mono (ok' := fun k_ => some k_ ≠ (v462 : Value).ownBlock ∧ k_ ≠ gb456) ho0 (fun k_ hk_ => ⟨hk_.2, (Kd.freshB (g := gb456) (o := .cells #[.int .u8 a1_0, .int .u8 a1_1, .int .u8 a1_2] 35 (0, 0)) (bk BK456) k_ hk_.1)⟩)) (below_size (bb HB))); have HO463 := Aside0.mk (Kd.R_lower (Kd.R_mono (ok' := fun k_ => True) ho1 (fun _ hk_ => trivial)) (below_size (bb HB))); replace BK456 := bkb BK456 hb; replace HB := bstep HB hb; (try clear hb); (try clear hb2); (try clear hk); (try clear hi); (try clear ho0); (try clear ho1)) | ((with_reducible refine gate_dst (N := 5) rfl ?_); refine box_event ?hg (N := 5) ?hd (cs := #[.slice none 0 0, .slice none 0 0]) (t := 25) ?hr ?_; (case hd => rfl); (case hg => rfl); (case hr => first | (go_simp; done) | (go_simp; rfl)); intro gb464 hg w12 hbox hb; replace HO460 := Aside0.mk (Kd.N_below (Kd.N_elderB (kN HO460) gb464 (Nat.le_of_eq hg.symm)) hb); replace HO463 := kRb HO463 hb; have BK464 := Aside0.mk (hbox); have GW464 := bsz HB hg; have GE464 := bsz HB hg; replace HB := bstep HB hb; have NB456_464 := blt BK456 hg; have NB464_456 := bgt BK456 hg; replace BK456 := bkb BK456 hb; clear hb hbox hg; obtain ⟨Ao13, co13, eo13⟩ := Kd.N_slice HO460.out; subst eo13; have hnb14 := NB464_456.out; have hnc14 := NB456_464.out; obtain ⟨hcz15_0, hcz15_1, hfz15_0, hfz15_1⟩ := cz2 BK464; obtain ⟨Ao16, co16, eo16⟩ := Kd.R_slice HO463.out; subst eo16; obtain ⟨hcz17_0, hcz17_1, hcz17_2, hfz17_0, hfz17_1, hfz17_2⟩ := cz3 BK456) | (go_at_call 16; (with_reducible refine (types_Meet.calls k _ _ t458 _ _ t461 (Int.tmod (wrap64 (a1_0)) (t458.length : Int)) (Int.tmod (wrap64 (a1_1)) (t458.length : Int)) t465 t466 _ ?side1 ?side2 ?side3 ?side4 A7.out).mono ?_); (case side1 => refine (Kd.N_reads' (e := 68) (base := w.heap.size) (ok := fun k_ => ((some k_ ≠ (.slice Ao16 t461.length co16 : Value).ownBlock ∧ k_ ≠ gb456) ∧ k_ ≠ gb464)) (n := t458.length) (c := co13) ?_).2.2; exact (by (with_reducible repeat (first | apply Kd.N_alloc | apply Kd.N_drewN | apply Kd.N_drew)); exact (Kd.N_mono (Kd.N_far (p := ⟨gb464, 1, none⟩) (Kd.N_far (p := ⟨gb464, 0, none⟩) (Kd.N_mono HO460.out (fun k_ hk => (⟨hk, hk.2⟩ : _ ∧ k_ ≠ gb464))) (fun _ hk => hk.2) (.slice Ao13 t458.length co13)) (fun _ hk => hk.2) (.slice Ao16 t461.length co16)) (fun _ h_ => h_.1)))); (case side2 => exact (Kd.N_reads' HO460.out).2.1); (case side3 => refine (Kd.R_reads' (e := 71) (base := w.heap.size) (ok := fun k_ => True) (n := t461.length) (c := co16) ?_).2.2; exact (by (with_reducible repeat (first | apply Kd.R_alloc | apply Kd.R_drewN | apply Kd.R_drew)); exact (Kd.R_mono (Kd.R_far (p := ⟨gb464, 1, none⟩) (Kd.R_far (p := ⟨gb464, 0, none⟩) (Kd.R_types HO463.out BK464.out (by decide)) (fun _ hk => hk.2) (.slice Ao13 t458.length co13)) (fun _ hk => hk.2) (.slice Ao16 t461.length co16)) (fun _ h_ => h_.1)))); (case side4 => exact (Kd.R_reads' HO463.out).2.1); rintro e w18 ⟨rfl, hb⟩; replace HO460 := Aside0.mk (Kd.N_below (by (with_reducible repeat (first | apply Kd.N_alloc | apply Kd.N_drewN | apply Kd.N_drew)); exact (Kd.N_mono (Kd.N_far (p := ⟨gb464, 1, none⟩) (Kd.N_far (p := ⟨gb464, 0, none⟩) (Kd.N_mono HO460.out (fun k_ hk => (⟨hk, hk.2⟩ : _ ∧ k_ ≠ gb464))) (fun _ hk => hk.2) (.slice Ao13 t458.length co13)) (fun _ hk => hk.2) (.slice Ao16 t461.length co16)) (fun _ h_ => h_.1))) hb); replace HO463 := Aside0.mk (Kd.R_below (by (with_reducible repeat (first | apply Kd.R_alloc | apply Kd.R_drewN | apply Kd.R_drew)); exact (Kd.R_mono (Kd.R_far (p := ⟨gb464, 1, none⟩) (Kd.R_far (p := ⟨gb464, 0, none⟩) (Kd.R_types HO463.out BK464.out (by decide)) (fun _ hk => hk.2) (.slice Ao13 t458.length co13)) (fun _ hk => hk.2) (.slice Ao16 t461.length co16)) (fun _ h_ => h_.1))) hb); replace BK456 := Aside0.mk (blk_below (g := gb456) (o := .cells #[.int .u8 a1_0, .int .u8 a1_1, .int .u8 a1_2] 35 (0, 0)) (by (with_reducible repeat (first | refine blk_drewN ?_ _ | refine blk_drew ?_ | refine blk_alloc ?_ _)); refine blk_far ?_ NB456_464.out _; (with_reducible repeat (first | refine blk_drewN ?_ _ | refine blk_drew ?_ | refine blk_alloc ?_ _)); refine blk_far ?_ NB456_464.out _; (with_reducible repeat (first | refine blk_drewN ?_ _ | refine blk_drew ?_ | refine blk_alloc ?_ _)); exact BK456.out) hb); replace BK464 := Aside0.mk (blk_below (g := gb464) (o := .cells #[.slice Ao13 t458.length co13, .slice Ao16 t461.length co16] 25 (0, 0)) (by (with_reducible repeat (first | refine blk_drewN ?_ _ | refine blk_drew ?_ | refine blk_alloc ?_ _)); refine blk_put (cs := #[.slice Ao13 t458.length co13, .slice none 0 0]) ?_ 1 _ rfl; (with_reducible repeat (first | refine blk_drewN ?_ _ | refine blk_drew ?_ | refine blk_alloc ?_ _)); refine blk_put (cs := #[.slice none 0 0, .slice none 0 0]) ?_ 0 _ rfl; (with_reducible repeat (first | refine blk_drewN ?_ _ | refine blk_drew ?_ | refine blk_alloc ?_ _)); exact BK464.out) hb); replace HB := bstep HB hb; (try clear hb); (try clear hb2); (try clear hk); (try clear hi))))
   (try simp only [Act.put, List.setIfInBounds_toArray, List.set_cons_zero, List.set_cons_succ])
   go_cut [12] (fun v12 wc => ∃ (kq : Nat) (x12_7 : Bool), v12 = .bool x12_7 ∧ Aside0 (w4_TypesBounds.j0 kq (Int.tmod (wrap64 (a1_0)) (t458.length : Int)) (Int.tmod (wrap64 (a1_1)) (t458.length : Int)) (Int.tmod (wrap64 (a1_2)) (t458.length : Int)) t465 t466 x12_7 t458 t461 = some r) ∧ Aside0 (kq ≤ k) ∧ Aside0 (Kd.N k68 68 wc w.heap.size (fun k_ => some k_ ≠ ((.slice Ao16 t461.length co16) : Value).ownBlock ∧ k_ ≠ gb456 ∧ k_ ≠ gb464) (.slice Ao13 t458.length co13) t458) ∧ Aside0 (Kd.R k71 71 wc w.heap.size (fun _ => True) (.slice Ao16 t461.length co16) t461) ∧ Aside0 (wc.heap[gb456]? = some (.cells #[.int .u8 a1_0, .int .u8 a1_1, .int .u8 a1_2] 35 (0, 0))) ∧ Aside0 (wc.heap[gb464]? = some (.cells #[(.slice Ao13 t458.length co13), (.slice Ao16 t461.length co16)] 25 (0, 0))) ∧ Aside0 (Below w.heap.size w wc))
   case first =>
    have H := HC8.out
    clear HC8
    replace H := Option.bind_eq_some_iff.mp H
    obtain ⟨t467, A190, H⟩ := H
    replace H : (if t467 = true then ((types_Is.f k t458 t461 (Int.tmod (wrap64 (a1_2)) (t458.length : Int)) (Int.tmod (wrap64 (a1_1)) (t458.length : Int))).bind fun t468 => (w4_TypesBounds.j0 k (Int.tmod (wrap64 (a1_0)) (t458.length : Int)) (Int.tmod (wrap64 (a1_1)) (t458.length : Int)) (Int.tmod (wrap64 (a1_2)) (t458.length : Int)) t465 t466 t468 t458 t461)) else (w4_TypesBounds.j0 k (Int.tmod (wrap64 (a1_0)) (t458.length : Int)) (Int.tmod (wrap64 (a1_1)) (t458.length : Int)) (Int.tmod (wrap64 (a1_2)) (t458.length : Int)) t465 t466 false t458 t461)) = some r := H
    have A19 := Aside0.mk A190
    clear A190
    by_cases c20 : t467 = true
    ·subst c20
     replace H := ift H
     replace H := Option.bind_eq_some_iff.mp H
     obtain ⟨t468, A210, H⟩ := H
     replace H : (w4_TypesBounds.j0 k (Int.tmod (wrap64 (a1_0)) (t458.length : Int)) (Int.tmod (wrap64 (a1_1)) (t458.length : Int)) (Int.tmod (wrap64 (a1_2)) (t458.length : Int)) t465 t466 t468 t458 t461) = some r := H
     have A21 := Aside0.mk A210
     clear A210
     have H' := Aside0.mk H
     clear H
     have hnb22 := NB464_456.out
     have hnc22 := NB456_464.out
     obtain ⟨hcz23_0, hcz23_1, hfz23_0, hfz23_1⟩ := cz2 BK464
     go_wp2_with (first | (go_at_call 20; (with_reducible refine (types_Is.calls k _ _ t458 _ _ t461 (Int.tmod (wrap64 (a1_2)) (t458.length : Int)) (Int.tmod (wrap64 (a1_0)) (t458.length : Int)) true _ ?side1 ?side2 ?side3 ?side4 A19.out).mono ?_); (case side1 => repeat (first | exact (Kd.N_reads' HO460.out).2.2 | (with_reducible refine Kd.C_alloc ?_ _) | (with_reducible refine Kd.C_drewN ?_ _) | (with_reducible refine Kd.C_drew ?_))); (case side2 => exact (Kd.N_reads' HO460.out).2.1); (case side3 => repeat (first | exact (Kd.R_reads' HO463.out).2.2 | (with_reducible refine Kd.C_alloc ?_ _) | (with_reducible refine Kd.C_drewN ?_ _) | (with_reducible refine Kd.C_drew ?_))); (case side4 => exact (Kd.R_reads' HO463.out).2.1); rintro e w24 ⟨rfl, hb⟩; replace HO460 := kNb HO460 hb; replace HO463 := kRb HO463 hb; replace BK456 := bkb BK456 hb; replace BK464 := bkb BK464 hb; replace HB := bstep HB hb; (try clear hb); (try clear hb2); (try clear hk); (try clear hi); obtain ⟨hcz25_0, hcz25_1, hfz25_0, hfz25_1⟩ := cz2 BK464) | (go_at_call 20; (with_reducible refine (types_Is.calls k _ _ t458 _ _ t461 (Int.tmod (wrap64 (a1_2)) (t458.length : Int)) (Int.tmod (wrap64 (a1_1)) (t458.length : Int)) t468 _ ?side1 ?side2 ?side3 ?side4 A21.out).mono ?_); (case side1 => repeat (first | exact (Kd.N_reads' HO460.out).2.2 | (with_reducible refine Kd.C_alloc ?_ _) | (with_reducible refine Kd.C_drewN ?_ _) | (with_reducible refine Kd.C_drew ?_))); (case side2 => exact (Kd.N_reads' HO460.out).2.1); (case side3 => repeat (first | exact (Kd.R_reads' HO463.out).2.2 | (with_reducible refine Kd.C_alloc ?_ _) | (with_reducible refine Kd.C_drewN ?_ _) | (with_reducible refine Kd.C_drew ?_))); (case side4 => exact (Kd.R_reads' HO463.out).2.1); rintro e w26 ⟨rfl, hb⟩; replace HO460 := kNb HO460 hb; replace HO463 := kRb HO463 hb; replace BK456 := bkb BK456 hb; replace BK464 := bkb BK464 hb; replace HB := bstep HB hb; (try clear hb); (try clear hb2); (try clear hk); (try clear hi)))
     repeat (go_quiet (first | (go_at_call 20; (with_reducible refine (types_Is.calls k _ _ t458 _ _ t461 (Int.tmod (wrap64 (a1_2)) (t458.length : Int)) (Int.tmod (wrap64 (a1_0)) (t458.length : Int)) true _ ?side1 ?side2 ?side3 ?side4 A19.out).mono ?_); (case side1 => repeat (first | exact (Kd.N_reads' HO460.out).2.2 | (with_reducible refine Kd.C_alloc ?_ _) | (with_reducible refine Kd.C_drewN ?_ _) | (with_reducible refine Kd.C_drew ?_))); (case side2 => exact (Kd.N_reads' HO460.out).2.1); (case side3 => repeat (first | exact (Kd.R_reads' HO463.out).2.2 | (with_reducible refine Kd.C_alloc ?_ _) | (with_reducible refine Kd.C_drewN ?_ _) | (with_reducible refine Kd.C_drew ?_))); (case side4 => exact (Kd.R_reads' HO463.out).2.1); rintro e w24 ⟨rfl, hb⟩; replace HO460 := kNb HO460 hb; replace HO463 := kRb HO463 hb; replace BK456 := bkb BK456 hb; replace BK464 := bkb BK464 hb; replace HB := bstep HB hb; (try clear hb); (try clear hb2); (try clear hk); (try clear hi); obtain ⟨hcz25_0, hcz25_1, hfz25_0, hfz25_1⟩ := cz2 BK464) | (go_at_call 20; (with_reducible refine (types_Is.calls k _ _ t458 _ _ t461 (Int.tmod (wrap64 (a1_2)) (t458.length : Int)) (Int.tmod (wrap64 (a1_1)) (t458.length : Int)) t468 _ ?side1 ?side2 ?side3 ?side4 A21.out).mono ?_); (case side1 => repeat (first | exact (Kd.N_reads' HO460.out).2.2 | (with_reducible refine Kd.C_alloc ?_ _) | (with_reducible refine Kd.C_drewN ?_ _) | (with_reducible refine Kd.C_drew ?_))); (case side2 => exact (Kd.N_reads' HO460.out).2.1); (case side3 => repeat (first | exact (Kd.R_reads' HO463.out).2.2 | (with_reducible refine Kd.C_alloc ?_ _) | (with_reducible refine Kd.C_drewN ?_ _) | (with_reducible refine Kd.C_drew ?_))); (case side4 => exact (Kd.R_reads' HO463.out).2.1); rintro e w26 ⟨rfl, hb⟩; replace HO460 := kNb HO460 hb; replace HO463 := kRb HO463 hb; replace BK456 := bkb BK456 hb; replace BK464 := bkb BK464 hb; replace HB := bstep HB hb; (try clear hb); (try clear hb2); (try clear hk); (try clear hi))); try go_wp2_with (first | (go_at_call 20; (with_reducible refine (types_Is.calls k _ _ t458 _ _ t461 (Int.tmod (wrap64 (a1_2)) (t458.length : Int)) (Int.tmod (wrap64 (a1_0)) (t458.length : Int)) true _ ?side1 ?side2 ?side3 ?side4 A19.out).mono ?_); (case side1 => repeat (first | exact (Kd.N_reads' HO460.out).2.2 | (with_reducible refine Kd.C_alloc ?_ _) | (with_reducible refine Kd.C_drewN ?_ _) | (with_reducible refine Kd.C_drew ?_))); (case side2 => exact (Kd.N_reads' HO460.out).2.1); (case side3 => repeat (first | exact (Kd.R_reads' HO463.out).2.2 | (with_reducible refine Kd.C_alloc ?_ _) | (with_reducible refine Kd.C_drewN ?_ _) | (with_reducible refine Kd.C_drew ?_))); (case side4 => exact (Kd.R_reads' HO463.out).2.1); rintro e w24 ⟨rfl, hb⟩; replace HO460 := kNb HO460 hb; replace HO463 := kRb HO463 hb; replace BK456 := bkb BK456 hb; replace BK464 := bkb BK464 hb; replace HB := bstep HB hb; (try clear hb); (try clear hb2); (try clear hk); (try clear hi); obtain ⟨hcz25_0, hcz25_1, hfz25_0, hfz25_1⟩ := cz2 BK464) | (go_at_call 20; (with_reducible refine (types_Is.calls k _ _ t458 _ _ t461 (Int.tmod (wrap64 (a1_2)) (t458.length : Int)) (Int.tmod (wrap64 (a1_1)) (t458.length : Int)) t468 _ ?side1 ?side2 ?side3 ?side4 A21.out).mono ?_); (case side1 => repeat (first | exact (Kd.N_reads' HO460.out).2.2 | (with_reducible refine Kd.C_alloc ?_ _) | (with_reducible refine Kd.C_drewN ?_ _) | (with_reducible refine Kd.C_drew ?_))); (case side2 => exact (Kd.N_reads' HO460.out).2.1); (case side3 => repeat (first | exact (Kd.R_reads' HO463.out).2.2 | (with_reducible refine Kd.C_alloc ?_ _) | (with_reducible refine Kd.C_drewN ?_ _) | (with_reducible refine Kd.C_drew ?_))); (case side4 => exact (Kd.R_reads' HO463.out).2.1); rintro e w26 ⟨rfl, hb⟩; replace HO460 := kNb HO460 hb; replace HO463 := kRb HO463 hb; replace BK456 := bkb BK456 hb; replace BK464 := bkb BK464 hb; replace HB := bstep HB hb; (try clear hb); (try clear hb2); (try clear hk); (try clear hi))))
     go_meet
     case rel => exact ⟨_, (t468), eqs, H', ⟨by first | omega | exact Nat.le_refl _⟩, ⟨by (with_reducible repeat (first | apply Kd.N_alloc | apply Kd.N_drewN | apply Kd.N_drew)); exact Kd.N_mono HO460.out (fun _ hk => ⟨hk.1.1, ⟨hk.1.2, hk.2⟩⟩)⟩, ⟨kR HO463⟩, ⟨bk BK456⟩, ⟨bk BK464⟩, ⟨bb HB⟩⟩
    ·replace c20 := Bool.eq_false_iff.mpr c20
     subst c20
     replace H := iff_ H
     have H' := Aside0.mk H
     clear H
     have hnb27 := NB464_456.out
     have hnc27 := NB456_464.out
     obtain ⟨hcz28_0, hcz28_1, hfz28_0, hfz28_1⟩ := cz2 BK464
     go_wp2_with (first | (go_at_call 20; (with_reducible refine (types_Is.calls k _ _ t458 _ _ t461 (Int.tmod (wrap64 (a1_2)) (t458.length : Int)) (Int.tmod (wrap64 (a1_0)) (t458.length : Int)) false _ ?side1 ?side2 ?side3 ?side4 A19.out).mono ?_); (case side1 => repeat (first | exact (Kd.N_reads' HO460.out).2.2 | (with_reducible refine Kd.C_alloc ?_ _) | (with_reducible refine Kd.C_drewN ?_ _) | (with_reducible refine Kd.C_drew ?_))); (case side2 => exact (Kd.N_reads' HO460.out).2.1); (case side3 => repeat (first | exact (Kd.R_reads' HO463.out).2.2 | (with_reducible refine Kd.C_alloc ?_ _) | (with_reducible refine Kd.C_drewN ?_ _) | (with_reducible refine Kd.C_drew ?_))); (case side4 => exact (Kd.R_reads' HO463.out).2.1); rintro e w29 ⟨rfl, hb⟩; replace HO460 := kNb HO460 hb; replace HO463 := kRb HO463 hb; replace BK456 := bkb BK456 hb; replace BK464 := bkb BK464 hb; replace HB := bstep HB hb; (try clear hb); (try clear hb2); (try clear hk); (try clear hi)))
     repeat (go_quiet (first | (go_at_call 20; (with_reducible refine (types_Is.calls k _ _ t458 _ _ t461 (Int.tmod (wrap64 (a1_2)) (t458.length : Int)) (Int.tmod (wrap64 (a1_0)) (t458.length : Int)) false _ ?side1 ?side2 ?side3 ?side4 A19.out).mono ?_); (case side1 => repeat (first | exact (Kd.N_reads' HO460.out).2.2 | (with_reducible refine Kd.C_alloc ?_ _) | (with_reducible refine Kd.C_drewN ?_ _) | (with_reducible refine Kd.C_drew ?_))); (case side2 => exact (Kd.N_reads' HO460.out).2.1); (case side3 => repeat (first | exact (Kd.R_reads' HO463.out).2.2 | (with_reducible refine Kd.C_alloc ?_ _) | (with_reducible refine Kd.C_drewN ?_ _) | (with_reducible refine Kd.C_drew ?_))); (case side4 => exact (Kd.R_reads' HO463.out).2.1); rintro e w29 ⟨rfl, hb⟩; replace HO460 := kNb HO460 hb; replace HO463 := kRb HO463 hb; replace BK456 := bkb BK456 hb; replace BK464 := bkb BK464 hb; replace HB := bstep HB hb; (try clear hb); (try clear hb2); (try clear hk); (try clear hi))); try go_wp2_with (first | (go_at_call 20; (with_reducible refine (types_Is.calls k _ _ t458 _ _ t461 (Int.tmod (wrap64 (a1_2)) (t458.length : Int)) (Int.tmod (wrap64 (a1_0)) (t458.length : Int)) false _ ?side1 ?side2 ?side3 ?side4 A19.out).mono ?_); (case side1 => repeat (first | exact (Kd.N_reads' HO460.out).2.2 | (with_reducible refine Kd.C_alloc ?_ _) | (with_reducible refine Kd.C_drewN ?_ _) | (with_reducible refine Kd.C_drew ?_))); (case side2 => exact (Kd.N_reads' HO460.out).2.1); (case side3 => repeat (first | exact (Kd.R_reads' HO463.out).2.2 | (with_reducible refine Kd.C_alloc ?_ _) | (with_reducible refine Kd.C_drewN ?_ _) | (with_reducible refine Kd.C_drew ?_))); (case side4 => exact (Kd.R_reads' HO463.out).2.1); rintro e w29 ⟨rfl, hb⟩; replace HO460 := kNb HO460 hb; replace HO463 := kRb HO463 hb; replace BK456 := bkb BK456 hb; replace BK464 := bkb BK464 hb; replace HB := bstep HB hb; (try clear hb); (try clear hb2); (try clear hk); (try clear hi))))
     go_meet
     case rel => exact ⟨_, (false), eqs, H', ⟨by first | omega | exact Nat.le_refl _⟩, ⟨by (with_reducible repeat (first | apply Kd.N_alloc | apply Kd.N_drewN | apply Kd.N_drew)); exact Kd.N_mono HO460.out (fun _ hk => ⟨hk.1.1, ⟨hk.1.2, hk.2⟩⟩)⟩, ⟨kR HO463⟩, ⟨bk BK456⟩, ⟨bk BK464⟩, ⟨bb HB⟩⟩
   case rest =>
    clear HC8
    try clear c1
    try clear c2
    try clear p2
    try clear c4
    try clear c6
    try clear c6b0
    try clear c6b1
    try clear c6b2
    try clear p6
    try clear c7
    try clear c14
    try clear c20
    try clear c22
    try clear c27
    try clear hcz15_0
    try clear hcz15_1
    try clear hcz17_0
    try clear hcz17_1
    try clear hcz17_2
    try clear hcz23_0
    try clear hcz23_1
    try clear hcz25_0
    try clear hcz25_1
    try clear hcz28_0
    try clear hcz28_1
    try clear hfz15_0
    try clear hfz15_1
    try clear hfz17_0
    try clear hfz17_1
    try clear hfz17_2
    try clear hfz23_0
    try clear hfz23_1
    try clear hfz25_0
    try clear hfz25_1
    try clear hfz28_0
    try clear hfz28_1
    obtain ⟨kq, x12_7, rfl, HA, HJ7, HO_465000, HO_465001, BK456, BK464, HB⟩ := hcut
    cases kq with
    | zero => exact absurd HA.out (by simp [w4_TypesBounds.j0])
    | succ kj7 =>
     have H := HA.out
     clear HA
     simp only [w4_TypesBounds.j0] at H
     have HC30 := Aside0.mk H
     clear H
     go_upto_region 8 with (fail)
     repeat (go_quiet (fail); go_upto_region 8 with (fail))
     go_cut [78] (fun v78 wc => ∃ (kq : Nat) (x78_29 : Bool), v78 = .bool x78_29 ∧ Aside0 (w4_TypesBounds.j1 kq (Int.tmod (wrap64 (a1_0)) (t458.length : Int)) (Int.tmod (wrap64 (a1_1)) (t458.length : Int)) (Int.tmod (wrap64 (a1_2)) (t458.length : Int)) t466 x12_7 x78_29 t458 t461 = some r) ∧ Aside0 (kq ≤ kj7) ∧ Aside0 (Kd.N k68 68 wc w.heap.size (fun k_ => some k_ ≠ ((.slice Ao16 t461.length co16) : Value).ownBlock ∧ k_ ≠ gb456 ∧ k_ ≠ gb464) (.slice Ao13 t458.length co13) t458) ∧ Aside0 (Kd.R k71 71 wc w.heap.size (fun _ => True) (.slice Ao16 t461.length co16) t461) ∧ Aside0 (wc.heap[gb456]? = some (.cells #[.int .u8 a1_0, .int .u8 a1_1, .int .u8 a1_2] 35 (0, 0))) ∧ Aside0 (wc.heap[gb464]? = some (.cells #[(.slice Ao13 t458.length co13), (.slice Ao16 t461.length co16)] 25 (0, 0))) ∧ Aside0 (Below w.heap.size w wc))
     case first =>
      have H := HC30.out
      clear HC30
      by_cases c31 : t466 = 0
      ·rw [if_pos c31] at H
       have c31b0 : (t466 == 0) = true := beq_iff_eq.mpr c31
       have c31b1 : (t466 != 0) = false := bne_eq_false_iff_eq.mpr c31
       clear c31
       (first | rw [c31b0] | (simp only [i64_w, i32_w]; rw [c31b0]) | skip)
       replace H := Option.bind_eq_some_iff.mp H
       obtain ⟨t469, A320, H⟩ := H
       replace H : (if t469 = true then ((types_Is.f kj7 t458 t461 t465 (Int.tmod (wrap64 (a1_1)) (t458.length : Int))).bind fun t470 => (if t470 = true then ((types_Is.f kj7 t458 t461 (Int.tmod (wrap64 (a1_2)) (t458.length : Int)) t465).bind fun t471 => (w4_TypesBounds.j1 kj7 (Int.tmod (wrap64 (a1_0)) (t458.length : Int)) (Int.tmod (wrap64 (a1_1)) (t458.length : Int)) (Int.tmod (wrap64 (a1_2)) (t458.length : Int)) t466 x12_7 (x12_7 != t471) t458 t461)) else (w4_TypesBounds.j1 kj7 (Int.tmod (wrap64 (a1_0)) (t458.length : Int)) (Int.tmod (wrap64 (a1_1)) (t458.length : Int)) (Int.tmod (wrap64 (a1_2)) (t458.length : Int)) t466 x12_7 true t458 t461))) else (w4_TypesBounds.j1 kj7 (Int.tmod (wrap64 (a1_0)) (t458.length : Int)) (Int.tmod (wrap64 (a1_1)) (t458.length : Int)) (Int.tmod (wrap64 (a1_2)) (t458.length : Int)) t466 x12_7 true t458 t461)) = some r := H
       have A32 := Aside0.mk A320
       clear A320
       by_cases c33 : t469 = true
       ·subst c33
        replace H := ift H
        replace H := Option.bind_eq_some_iff.mp H
        obtain ⟨t470, A340, H⟩ := H
        replace H : (if t470 = true then ((types_Is.f kj7 t458 t461 (Int.tmod (wrap64 (a1_2)) (t458.length : Int)) t465).bind fun t471 => (w4_TypesBounds.j1 kj7 (Int.tmod (wrap64 (a1_0)) (t458.length : Int)) (Int.tmod (wrap64 (a1_1)) (t458.length : Int)) (Int.tmod (wrap64 (a1_2)) (t458.length : Int)) t466 x12_7 (x12_7 != t471) t458 t461)) else (w4_TypesBounds.j1 kj7 (Int.tmod (wrap64 (a1_0)) (t458.length : Int)) (Int.tmod (wrap64 (a1_1)) (t458.length : Int)) (Int.tmod (wrap64 (a1_2)) (t458.length : Int)) t466 x12_7 true t458 t461)) = some r := H
        have A34 := Aside0.mk A340
        clear A340
        by_cases c35 : t470 = true
        ·subst c35
         replace H := ift H
         replace H := Option.bind_eq_some_iff.mp H
         obtain ⟨t471, A360, H⟩ := H
         replace H : (w4_TypesBounds.j1 kj7 (Int.tmod (wrap64 (a1_0)) (t458.length : Int)) (Int.tmod (wrap64 (a1_1)) (t458.length : Int)) (Int.tmod (wrap64 (a1_2)) (t458.length : Int)) t466 x12_7 (x12_7 != t471) t458 t461) = some r := H
         have A36 := Aside0.mk A360
         clear A360
         have H' := Aside0.mk H
         clear H
         have hnb37 := NB464_456.out
         have hnc37 := NB456_464.out
         obtain ⟨hcz38_0, hcz38_1, hfz38_0, hfz38_1⟩ := cz2 BK464
         go_wp2_with (first | (go_at_call 20; (with_reducible refine (types_Is.calls kj7 _ _ t458 _ _ t461 t465 (Int.tmod (wrap64 (a1_0)) (t458.length : Int)) true _ ?side1 ?side2 ?side3 ?side4 A32.out).mono ?_); (case side1 => repeat (first | exact (Kd.N_reads' HO_465000.out).2.2 | (with_reducible refine Kd.C_alloc ?_ _) | (with_reducible refine Kd.C_drewN ?_ _) | (with_reducible refine Kd.C_drew ?_))); (case side2 => exact (Kd.N_reads' HO_465000.out).2.1); (case side3 => repeat (first | exact (Kd.R_reads' HO_465001.out).2.2 | (with_reducible refine Kd.C_alloc ?_ _) | (with_reducible refine Kd.C_drewN ?_ _) | (with_reducible refine Kd.C_drew ?_))); (case side4 => exact (Kd.R_reads' HO_465001.out).2.1); rintro e w39 ⟨rfl, hb⟩; replace HO_465000 := kNb HO_465000 hb; replace HO_465001 := kRb HO_465001 hb; replace BK456 := bkb BK456 hb; replace BK464 := bkb BK464 hb; replace HB := bstep HB hb; (try clear hb); (try clear hb2); (try clear hk); (try clear hi); obtain ⟨hcz40_0, hcz40_1, hfz40_0, hfz40_1⟩ := cz2 BK464) | (go_at_call 20; (with_reducible refine (types_Is.calls kj7 _ _ t458 _ _ t461 t465 (Int.tmod (wrap64 (a1_1)) (t458.length : Int)) true _ ?side1 ?side2 ?side3 ?side4 A34.out).mono ?_); (case side1 => repeat (first | exact (Kd.N_reads' HO_465000.out).2.2 | (with_reducible refine Kd.C_alloc ?_ _) | (with_reducible refine Kd.C_drewN ?_ _) | (with_reducible refine Kd.C_drew ?_))); (case side2 => exact (Kd.N_reads' HO_465000.out).2.1); (case side3 => repeat (first | exact (Kd.R_reads' HO_465001.out).2.2 | (with_reducible refine Kd.C_alloc ?_ _) | (with_reducible refine Kd.C_drewN ?_ _) | (with_reducible refine Kd.C_drew ?_))); (case side4 => exact (Kd.R_reads' HO_465001.out).2.1); rintro e w41 ⟨rfl, hb⟩; replace HO_465000 := kNb HO_465000 hb; replace HO_465001 := kRb HO_465001 hb; replace BK456 := bkb BK456 hb; replace BK464 := bkb BK464 hb; replace HB := bstep HB hb; (try clear hb); (try clear hb2); (try clear hk); (try clear hi); obtain ⟨hcz42_0, hcz42_1, hfz42_0, hfz42_1⟩ := cz2 BK464) | (go_at_call 20; (with_reducible refine (types_Is.calls kj7 _ _ t458 _ _ t461 (Int.tmod (wrap64 (a1_2)) (t458.length : Int)) t465 t471 _ ?side1 ?side2 ?side3 ?side4 A36.out).mono ?_); (case side1 => repeat (first | exact (Kd.N_reads' HO_465000.out).2.2 | (with_reducible refine Kd.C_alloc ?_ _) | (with_reducible refine Kd.C_drewN ?_ _) | (with_reducible refine Kd.C_drew ?_))); (case side2 => exact (Kd.N_reads' HO_465000.out).2.1); (case side3 => repeat (first | exact (Kd.R_reads' HO_465001.out).2.2 | (with_reducible refine Kd.C_alloc ?_ _) | (with_reducible refine Kd.C_drewN ?_ _) | (with_reducible refine Kd.C_drew ?_))); (case side4 => exact (Kd.R_reads' HO_465001.out).2.1); rintro e w43 ⟨rfl, hb⟩; replace HO_465000 := kNb HO_465000 hb; replace HO_465001 := kRb HO_465001 hb; replace BK456 := bkb BK456 hb; replace BK464 := bkb BK464 hb; replace HB := bstep HB hb; (try clear hb); (try clear hb2); (try clear hk); (try clear hi)))
         repeat (go_quiet (first | (go_at_call 20; (with_reducible refine (types_Is.calls kj7 _ _ t458 _ _ t461 t465 (Int.tmod (wrap64 (a1_0)) (t458.length : Int)) true _ ?side1 ?side2 ?side3 ?side4 A32.out).mono ?_); (case side1 => repeat (first | exact (Kd.N_reads' HO_465000.out).2.2 | (with_reducible refine Kd.C_alloc ?_ _) | (with_reducible refine Kd.C_drewN ?_ _) | (with_reducible refine Kd.C_drew ?_))); (case side2 => exact (Kd.N_reads' HO_465000.out).2.1); (case side3 => repeat (first | exact (Kd.R_reads' HO_465001.out).2.2 | (with_reducible refine Kd.C_alloc ?_ _) | (with_reducible refine Kd.C_drewN ?_ _) | (with_reducible refine Kd.C_drew ?_))); (case side4 => exact (Kd.R_reads' HO_465001.out).2.1); rintro e w39 ⟨rfl, hb⟩; replace HO_465000 := kNb HO_465000 hb; replace HO_465001 := kRb HO_465001 hb; replace BK456 := bkb BK456 hb; replace BK464 := bkb BK464 hb; replace HB := bstep HB hb; (try clear hb); (try clear hb2); (try clear hk); (try clear hi); obtain ⟨hcz40_0, hcz40_1, hfz40_0, hfz40_1⟩ := cz2 BK464) | (go_at_call 20; (with_reducible refine (types_Is.calls kj7 _ _ t458 _ _ t461 t465 (Int.tmod (wrap64 (a1_1)) (t458.length : Int)) true _ ?side1 ?side2 ?side3 ?side4 A34.out).mono ?_); (case side1 => repeat (first | exact (Kd.N_reads' HO_465000.out).2.2 | (with_reducible refine Kd.C_alloc ?_ _) | (with_reducible refine Kd.C_drewN ?_ _) | (with_reducible refine Kd.C_drew ?_))); (case side2 => exact (Kd.N_reads' HO_465000.out).2.1); (case side3 => repeat (first | exact (Kd.R_reads' HO_465001.out).2.2 | (with_reducible refine Kd.C_alloc ?_ _) | (with_reducible refine Kd.C_drewN ?_ _) | (with_reducible refine Kd.C_drew ?_))); (case side4 => exact (Kd.R_reads' HO_465001.out).2.1); rintro e w41 ⟨rfl, hb⟩; replace HO_465000 := kNb HO_465000 hb; replace HO_465001 := kRb HO_465001 hb; replace BK456 := bkb BK456 hb; replace BK464 := bkb BK464 hb; replace HB := bstep HB hb; (try clear hb); (try clear hb2); (try clear hk); (try clear hi); obtain ⟨hcz42_0, hcz42_1, hfz42_0, hfz42_1⟩ := cz2 BK464) | (go_at_call 20; (with_reducible refine (types_Is.calls kj7 _ _ t458 _ _ t461 (Int.tmod (wrap64 (a1_2)) (t458.length : Int)) t465 t471 _ ?side1 ?side2 ?side3 ?side4 A36.out).mono ?_); (case side1 => repeat (first | exact (Kd.N_reads' HO_465000.out).2.2 | (with_reducible refine Kd.C_alloc ?_ _) | (with_reducible refine Kd.C_drewN ?_ _) | (with_reducible refine Kd.C_drew ?_))); (case side2 => exact (Kd.N_reads' HO_465000.out).2.1); (case side3 => repeat (first | exact (Kd.R_reads' HO_465001.out).2.2 | (with_reducible refine Kd.C_alloc ?_ _) | (with_reducible refine Kd.C_drewN ?_ _) | (with_reducible refine Kd.C_drew ?_))); (case side4 => exact (Kd.R_reads' HO_465001.out).2.1); rintro e w43 ⟨rfl, hb⟩; replace HO_465000 := kNb HO_465000 hb; replace HO_465001 := kRb HO_465001 hb; replace BK456 := bkb BK456 hb; replace BK464 := bkb BK464 hb; replace HB := bstep HB hb; (try clear hb); (try clear hb2); (try clear hk); (try clear hi))); try go_wp2_with (first | (go_at_call 20; (with_reducible refine (types_Is.calls kj7 _ _ t458 _ _ t461 t465 (Int.tmod (wrap64 (a1_0)) (t458.length : Int)) true _ ?side1 ?side2 ?side3 ?side4 A32.out).mono ?_); (case side1 => repeat (first | exact (Kd.N_reads' HO_465000.out).2.2 | (with_reducible refine Kd.C_alloc ?_ _) | (with_reducible refine Kd.C_drewN ?_ _) | (with_reducible refine Kd.C_drew ?_))); (case side2 => exact (Kd.N_reads' HO_465000.out).2.1); (case side3 => repeat (first | exact (Kd.R_reads' HO_465001.out).2.2 | (with_reducible refine Kd.C_alloc ?_ _) | (with_reducible refine Kd.C_drewN ?_ _) | (with_reducible refine Kd.C_drew ?_))); (case side4 => exact (Kd.R_reads' HO_465001.out).2.1); rintro e w39 ⟨rfl, hb⟩; replace HO_465000 := kNb HO_465000 hb; replace HO_465001 := kRb HO_465001 hb; replace BK456 := bkb BK456 hb; replace BK464 := bkb BK464 hb; replace HB := bstep HB hb; (try clear hb); (try clear hb2); (try clear hk); (try clear hi); obtain ⟨hcz40_0, hcz40_1, hfz40_0, hfz40_1⟩ := cz2 BK464) | (go_at_call 20; (with_reducible refine (types_Is.calls kj7 _ _ t458 _ _ t461 t465 (Int.tmod (wrap64 (a1_1)) (t458.length : Int)) true _ ?side1 ?side2 ?side3 ?side4 A34.out).mono ?_); (case side1 => repeat (first | exact (Kd.N_reads' HO_465000.out).2.2 | (with_reducible refine Kd.C_alloc ?_ _) | (with_reducible refine Kd.C_drewN ?_ _) | (with_reducible refine Kd.C_drew ?_))); (case side2 => exact (Kd.N_reads' HO_465000.out).2.1); (case side3 => repeat (first | exact (Kd.R_reads' HO_465001.out).2.2 | (with_reducible refine Kd.C_alloc ?_ _) | (with_reducible refine Kd.C_drewN ?_ _) | (with_reducible refine Kd.C_drew ?_))); (case side4 => exact (Kd.R_reads' HO_465001.out).2.1); rintro e w41 ⟨rfl, hb⟩; replace HO_465000 := kNb HO_465000 hb; replace HO_465001 := kRb HO_465001 hb; replace BK456 := bkb BK456 hb; replace BK464 := bkb BK464 hb; replace HB := bstep HB hb; (try clear hb); (try clear hb2); (try clear hk); (try clear hi); obtain ⟨hcz42_0, hcz42_1, hfz42_0, hfz42_1⟩ := cz2 BK464) | (go_at_call 20; (with_reducible refine (types_Is.calls kj7 _ _ t458 _ _ t461 (Int.tmod (wrap64 (a1_2)) (t458.length : Int)) t465 t471 _ ?side1 ?side2 ?side3 ?side4 A36.out).mono ?_); (case side1 => repeat (first | exact (Kd.N_reads' HO_465000.out).2.2 | (with_reducible refine Kd.C_alloc ?_ _) | (with_reducible refine Kd.C_drewN ?_ _) | (with_reducible refine Kd.C_drew ?_))); (case side2 => exact (Kd.N_reads' HO_465000.out).2.1); (case side3 => repeat (first | exact (Kd.R_reads' HO_465001.out).2.2 | (with_reducible refine Kd.C_alloc ?_ _) | (with_reducible refine Kd.C_drewN ?_ _) | (with_reducible refine Kd.C_drew ?_))); (case side4 => exact (Kd.R_reads' HO_465001.out).2.1); rintro e w43 ⟨rfl, hb⟩; replace HO_465000 := kNb HO_465000 hb; replace HO_465001 := kRb HO_465001 hb; replace BK456 := bkb BK456 hb; replace BK464 := bkb BK464 hb; replace HB := bstep HB hb; (try clear hb); (try clear hb2); (try clear hk); (try clear hi))))
         go_meet
         case rel => exact ⟨_, ((x12_7 != t471)), eqs, H', ⟨by have := HJ7.out; first | omega | exact Nat.le_refl _⟩, ⟨kN HO_465000⟩, ⟨kR HO_465001⟩, ⟨bk BK456⟩, ⟨bk BK464⟩, ⟨bb HB⟩⟩
        ·replace c35 := Bool.eq_false_iff.mpr c35
         subst c35
         replace H := iff_ H
         have H' := Aside0.mk H
         clear H
         have hnb44 := NB464_456.out
         have hnc44 := NB456_464.out
         obtain ⟨hcz45_0, hcz45_1, hfz45_0, hfz45_1⟩ := cz2 BK464
         go_wp2_with (first | (go_at_call 20; (with_reducible refine (types_Is.calls kj7 _ _ t458 _ _ t461 t465 (Int.tmod (wrap64 (a1_0)) (t458.length : Int)) true _ ?side1 ?side2 ?side3 ?side4 A32.out).mono ?_); (case side1 => repeat (first | exact (Kd.N_reads' HO_465000.out).2.2 | (with_reducible refine Kd.C_alloc ?_ _) | (with_reducible refine Kd.C_drewN ?_ _) | (with_reducible refine Kd.C_drew ?_))); (case side2 => exact (Kd.N_reads' HO_465000.out).2.1); (case side3 => repeat (first | exact (Kd.R_reads' HO_465001.out).2.2 | (with_reducible refine Kd.C_alloc ?_ _) | (with_reducible refine Kd.C_drewN ?_ _) | (with_reducible refine Kd.C_drew ?_))); (case side4 => exact (Kd.R_reads' HO_465001.out).2.1); rintro e w46 ⟨rfl, hb⟩; replace HO_465000 := kNb HO_465000 hb; replace HO_465001 := kRb HO_465001 hb; replace BK456 := bkb BK456 hb; replace BK464 := bkb BK464 hb; replace HB := bstep HB hb; (try clear hb); (try clear hb2); (try clear hk); (try clear hi); obtain ⟨hcz47_0, hcz47_1, hfz47_0, hfz47_1⟩ := cz2 BK464) | (go_at_call 20; (with_reducible refine (types_Is.calls kj7 _ _ t458 _ _ t461 t465 (Int.tmod (wrap64 (a1_1)) (t458.length : Int)) false _ ?side1 ?side2 ?side3 ?side4 A34.out).mono ?_); (case side1 => repeat (first | exact (Kd.N_reads' HO_465000.out).2.2 | (with_reducible refine Kd.C_alloc ?_ _) | (with_reducible refine Kd.C_drewN ?_ _) | (with_reducible refine Kd.C_drew ?_))); (case side2 => exact (Kd.N_reads' HO_465000.out).2.1); (case side3 => repeat (first | exact (Kd.R_reads' HO_465001.out).2.2 | (with_reducible refine Kd.C_alloc ?_ _) | (with_reducible refine Kd.C_drewN ?_ _) | (with_reducible refine Kd.C_drew ?_))); (case side4 => exact (Kd.R_reads' HO_465001.out).2.1); rintro e w48 ⟨rfl, hb⟩; replace HO_465000 := kNb HO_465000 hb; replace HO_465001 := kRb HO_465001 hb; replace BK456 := bkb BK456 hb; replace BK464 := bkb BK464 hb; replace HB := bstep HB hb; (try clear hb); (try clear hb2); (try clear hk); (try clear hi)))
         repeat (go_quiet (first | (go_at_call 20; (with_reducible refine (types_Is.calls kj7 _ _ t458 _ _ t461 t465 (Int.tmod (wrap64 (a1_0)) (t458.length : Int)) true _ ?side1 ?side2 ?side3 ?side4 A32.out).mono ?_); (case side1 => repeat (first | exact (Kd.N_reads' HO_465000.out).2.2 | (with_reducible refine Kd.C_alloc ?_ _) | (with_reducible refine Kd.C_drewN ?_ _) | (with_reducible refine Kd.C_drew ?_))); (case side2 => exact (Kd.N_reads' HO_465000.out).2.1); (case side3 => repeat (first | exact (Kd.R_reads' HO_465001.out).2.2 | (with_reducible refine Kd.C_alloc ?_ _) | (with_reducible refine Kd.C_drewN ?_ _) | (with_reducible refine Kd.C_drew ?_))); (case side4 => exact (Kd.R_reads' HO_465001.out).2.1); rintro e w46 ⟨rfl, hb⟩; replace HO_465000 := kNb HO_465000 hb; replace HO_465001 := kRb HO_465001 hb; replace BK456 := bkb BK456 hb; replace BK464 := bkb BK464 hb; replace HB := bstep HB hb; (try clear hb); (try clear hb2); (try clear hk); (try clear hi); obtain ⟨hcz47_0, hcz47_1, hfz47_0, hfz47_1⟩ := cz2 BK464) | (go_at_call 20; (with_reducible refine (types_Is.calls kj7 _ _ t458 _ _ t461 t465 (Int.tmod (wrap64 (a1_1)) (t458.length : Int)) false _ ?side1 ?side2 ?side3 ?side4 A34.out).mono ?_); (case side1 => repeat (first | exact (Kd.N_reads' HO_465000.out).2.2 | (with_reducible refine Kd.C_alloc ?_ _) | (with_reducible refine Kd.C_drewN ?_ _) | (with_reducible refine Kd.C_drew ?_))); (case side2 => exact (Kd.N_reads' HO_465000.out).2.1); (case side3 => repeat (first | exact (Kd.R_reads' HO_465001.out).2.2 | (with_reducible refine Kd.C_alloc ?_ _) | (with_reducible refine Kd.C_drewN ?_ _) | (with_reducible refine Kd.C_drew ?_))); (case side4 => exact (Kd.R_reads' HO_465001.out).2.1); rintro e w48 ⟨rfl, hb⟩; replace HO_465000 := kNb HO_465000 hb; replace HO_465001 := kRb HO_465001 hb; replace BK456 := bkb BK456 hb; replace BK464 := bkb BK464 hb; replace HB := bstep HB hb; (try clear hb); (try clear hb2); (try clear hk); (try clear hi))); try go_wp2_with (first | (go_at_call 20; (with_reducible refine (types_Is.calls kj7 _ _ t458 _ _ t461 t465 (Int.tmod (wrap64 (a1_0)) (t458.length : Int)) true _ ?side1 ?side2 ?side3 ?side4 A32.out).mono ?_); (case side1 => repeat (first | exact (Kd.N_reads' HO_465000.out).2.2 | (with_reducible refine Kd.C_alloc ?_ _) | (with_reducible refine Kd.C_drewN ?_ _) | (with_reducible refine Kd.C_drew ?_))); (case side2 => exact (Kd.N_reads' HO_465000.out).2.1); (case side3 => repeat (first | exact (Kd.R_reads' HO_465001.out).2.2 | (with_reducible refine Kd.C_alloc ?_ _) | (with_reducible refine Kd.C_drewN ?_ _) | (with_reducible refine Kd.C_drew ?_))); (case side4 => exact (Kd.R_reads' HO_465001.out).2.1); rintro e w46 ⟨rfl, hb⟩; replace HO_465000 := kNb HO_465000 hb; replace HO_465001 := kRb HO_465001 hb; replace BK456 := bkb BK456 hb; replace BK464 := bkb BK464 hb; replace HB := bstep HB hb; (try clear hb); (try clear hb2); (try clear hk); (try clear hi); obtain ⟨hcz47_0, hcz47_1, hfz47_0, hfz47_1⟩ := cz2 BK464) | (go_at_call 20; (with_reducible refine (types_Is.calls kj7 _ _ t458 _ _ t461 t465 (Int.tmod (wrap64 (a1_1)) (t458.length : Int)) false _ ?side1 ?side2 ?side3 ?side4 A34.out).mono ?_); (case side1 => repeat (first | exact (Kd.N_reads' HO_465000.out).2.2 | (with_reducible refine Kd.C_alloc ?_ _) | (with_reducible refine Kd.C_drewN ?_ _) | (with_reducible refine Kd.C_drew ?_))); (case side2 => exact (Kd.N_reads' HO_465000.out).2.1); (case side3 => repeat (first | exact (Kd.R_reads' HO_465001.out).2.2 | (with_reducible refine Kd.C_alloc ?_ _) | (with_reducible refine Kd.C_drewN ?_ _) | (with_reducible refine Kd.C_drew ?_))); (case side4 => exact (Kd.R_reads' HO_465001.out).2.1); rintro e w48 ⟨rfl, hb⟩; replace HO_465000 := kNb HO_465000 hb; replace HO_465001 := kRb HO_465001 hb; replace BK456 := bkb BK456 hb; replace BK464 := bkb BK464 hb; replace HB := bstep HB hb; (try clear hb); (try clear hb2); (try clear hk); (try clear hi))))
         go_meet
         case rel => exact ⟨_, (true), eqs, H', ⟨by have := HJ7.out; first | omega | exact Nat.le_refl _⟩, ⟨kN HO_465000⟩, ⟨kR HO_465001⟩, ⟨bk BK456⟩, ⟨bk BK464⟩, ⟨bb HB⟩⟩
       ·replace c33 := Bool.eq_false_iff.mpr c33
        subst c33
        replace H := iff_ H
        have H' := Aside0.mk H
        clear H
        have hnb49 := NB464_456.out
        have hnc49 := NB456_464.out
        obtain ⟨hcz50_0, hcz50_1, hfz50_0, hfz50_1⟩ := cz2 BK464
        go_wp2_with (first | (go_at_call 20; (with_reducible refine (types_Is.calls kj7 _ _ t458 _ _ t461 t465 (Int.tmod (wrap64 (a1_0)) (t458.length : Int)) false _ ?side1 ?side2 ?side3 ?side4 A32.out).mono ?_); (case side1 => repeat (first | exact (Kd.N_reads' HO_465000.out).2.2 | (with_reducible refine Kd.C_alloc ?_ _) | (with_reducible refine Kd.C_drewN ?_ _) | (with_reducible refine Kd.C_drew ?_))); (case side2 => exact (Kd.N_reads' HO_465000.out).2.1); (case side3 => repeat (first | exact (Kd.R_reads' HO_465001.out).2.2 | (with_reducible refine Kd.C_alloc ?_ _) | (with_reducible refine Kd.C_drewN ?_ _) | (with_reducible refine Kd.C_drew ?_))); (case side4 => exact (Kd.R_reads' HO_465001.out).2.1); rintro e w51 ⟨rfl, hb⟩; replace HO_465000 := kNb HO_465000 hb; replace HO_465001 := kRb HO_465001 hb; replace BK456 := bkb BK456 hb; replace BK464 := bkb BK464 hb; replace HB := bstep HB hb; (try clear hb); (try clear hb2); (try clear hk); (try clear hi)))
        repeat (go_quiet (first | (go_at_call 20; (with_reducible refine (types_Is.calls kj7 _ _ t458 _ _ t461 t465 (Int.tmod (wrap64 (a1_0)) (t458.length : Int)) false _ ?side1 ?side2 ?side3 ?side4 A32.out).mono ?_); (case side1 => repeat (first | exact (Kd.N_reads' HO_465000.out).2.2 | (with_reducible refine Kd.C_alloc ?_ _) | (with_reducible refine Kd.C_drewN ?_ _) | (with_reducible refine Kd.C_drew ?_))); (case side2 => exact (Kd.N_reads' HO_465000.out).2.1); (case side3 => repeat (first | exact (Kd.R_reads' HO_465001.out).2.2 | (with_reducible refine Kd.C_alloc ?_ _) | (with_reducible refine Kd.C_drewN ?_ _) | (with_reducible refine Kd.C_drew ?_))); (case side4 => exact (Kd.R_reads' HO_465001.out).2.1); rintro e w51 ⟨rfl, hb⟩; replace HO_465000 := kNb HO_465000 hb; replace HO_465001 := kRb HO_465001 hb; replace BK456 := bkb BK456 hb; replace BK464 := bkb BK464 hb; replace HB := bstep HB hb; (try clear hb); (try clear hb2); (try clear hk); (try clear hi))); try go_wp2_with (first | (go_at_call 20; (with_reducible refine (types_Is.calls kj7 _ _ t458 _ _ t461 t465 (Int.tmod (wrap64 (a1_0)) (t458.length : Int)) false _ ?side1 ?side2 ?side3 ?side4 A32.out).mono ?_); (case side1 => repeat (first | exact (Kd.N_reads' HO_465000.out).2.2 | (with_reducible refine Kd.C_alloc ?_ _) | (with_reducible refine Kd.C_drewN ?_ _) | (with_reducible refine Kd.C_drew ?_))); (case side2 => exact (Kd.N_reads' HO_465000.out).2.1); (case side3 => repeat (first | exact (Kd.R_reads' HO_465001.out).2.2 | (with_reducible refine Kd.C_alloc ?_ _) | (with_reducible refine Kd.C_drewN ?_ _) | (with_reducible refine Kd.C_drew ?_))); (case side4 => exact (Kd.R_reads' HO_465001.out).2.1); rintro e w51 ⟨rfl, hb⟩; replace HO_465000 := kNb HO_465000 hb; replace HO_465001 := kRb HO_465001 hb; replace BK456 := bkb BK456 hb; replace BK464 := bkb BK464 hb; replace HB := bstep HB hb; (try clear hb); (try clear hb2); (try clear hk); (try clear hi))))
        go_meet
        case rel => exact ⟨_, (true), eqs, H', ⟨by have := HJ7.out; first | omega | exact Nat.le_refl _⟩, ⟨kN HO_465000⟩, ⟨kR HO_465001⟩, ⟨bk BK456⟩, ⟨bk BK464⟩, ⟨bb HB⟩⟩
      ·rw [if_neg c31] at H
       have c31b0 : (t466 == 0) = false := beq_eq_false_iff_ne.mpr c31
       have c31b1 : (t466 != 0) = true := bne_iff_ne.mpr c31
       (first | rw [c31b0] | (simp only [i64_w, i32_w]; rw [c31b0]) | skip)
       have H' := Aside0.mk H
       clear H
       go_wp2
       repeat (go_quiet (fail); try go_wp2)
       go_meet
       case rel => exact ⟨_, (false), eqs, H', ⟨by have := HJ7.out; first | omega | exact Nat.le_refl _⟩, ⟨kN HO_465000⟩, ⟨kR HO_465001⟩, ⟨bk BK456⟩, ⟨bk BK464⟩, ⟨bb HB⟩⟩
     case rest =>
      clear HC30
      try clear c1
      try clear c2
      try clear p2
      try clear c3
      try clear c4
      try clear c6
      try clear c6b0
      try clear c6b1
      try clear c6b2
      try clear p6
      try clear c7
      try clear c14
      try clear c20
      try clear c22
      try clear c27
      try clear c31
      try clear c31b0
      try clear c31b1
      try clear c33
      try clear c35
      try clear c37
      try clear c44
      try clear c49
      try clear hcz15_0
      try clear hcz15_1
      try clear hcz17_0
      try clear hcz17_1
      try clear hcz17_2
      try clear hcz23_0
      try clear hcz23_1
      try clear hcz25_0
      try clear hcz25_1
      try clear hcz28_0
      try clear hcz28_1
      try clear hcz38_0
      try clear hcz38_1
      try clear hcz40_0
      try clear hcz40_1
      try clear hcz42_0
      try clear hcz42_1
      try clear hcz45_0
      try clear hcz45_1
      try clear hcz47_0
      try clear hcz47_1
      try clear hcz50_0
      try clear hcz50_1
      try clear hfz15_0
      try clear hfz15_1
      try clear hfz17_0
      try clear hfz17_1
      try clear hfz17_2
      try clear hfz23_0
      try clear hfz23_1
      try clear hfz25_0
      try clear hfz25_1
      try clear hfz28_0
      try clear hfz28_1
      try clear hfz38_0
      try clear hfz38_1
      try clear hfz40_0
      try clear hfz40_1
      try clear hfz42_0
      try clear hfz42_1
      try clear hfz45_0
      try clear hfz45_1
      try clear hfz47_0
      try clear hfz47_1
      try clear hfz50_0
      try clear hfz50_1
      try clear p2
      try clear p6
      obtain ⟨kq, x78_29, rfl, HA, HJ29, HO_465000, HO_465001, BK456, BK464, HB⟩ := hcut
      cases kq with
      | zero => exact absurd HA.out (by simp [w4_TypesBounds.j1])
      | succ kj29 =>
       have H := HA.out
       clear HA
       simp only [w4_TypesBounds.j1] at H
       by_cases c52 : x78_29 = true
       ·subst c52
        replace H := ift H
        obtain rfl := Option.some.inj H
        go_wp2
        repeat (go_quiet (fail); try go_wp2)
        go_ret
        exact ⟨erf, bb HB⟩
       ·replace c52 := Bool.eq_false_iff.mpr c52
        subst c52
        replace H := iff_ H
        have HC53 := Aside0.mk H
        clear H
        go_upto_region 10 with (fail)
        repeat (go_quiet (fail); go_upto_region 10 with (fail))
        go_cut [87] (fun v87 wc => ∃ (kq : Nat) (x87_52 : Bool), v87 = .bool x87_52 ∧ Aside0 (w4_TypesBounds.j2 kq (Int.tmod (wrap64 (a1_0)) (t458.length : Int)) (Int.tmod (wrap64 (a1_1)) (t458.length : Int)) (Int.tmod (wrap64 (a1_2)) (t458.length : Int)) x87_52 t458 t461 = some r) ∧ Aside0 (kq ≤ kj29) ∧ Aside0 (Kd.N k68 68 wc w.heap.size (fun k_ => some k_ ≠ ((.slice Ao16 t461.length co16) : Value).ownBlock ∧ k_ ≠ gb456 ∧ k_ ≠ gb464) (.slice Ao13 t458.length co13) t458) ∧ Aside0 (Kd.R k71 71 wc w.heap.size (fun _ => True) (.slice Ao16 t461.length co16) t461) ∧ Aside0 (wc.heap[gb456]? = some (.cells #[.int .u8 a1_0, .int .u8 a1_1, .int .u8 a1_2] 35 (0, 0))) ∧ Aside0 (wc.heap[gb464]? = some (.cells #[(.slice Ao13 t458.length co13), (.slice Ao16 t461.length co16)] 25 (0, 0))) ∧ Aside0 (Below w.heap.size w wc))
        case first =>
         have H := HC53.out
         clear HC53
         by_cases c54 : t466 = 0
         ·rw [if_pos c54] at H
          have c54b0 : (t466 == 0) = true := beq_iff_eq.mpr c54
          have c54b1 : (t466 != 0) = false := bne_eq_false_iff_eq.mpr c54
          clear c54
          (first | rw [c54b0] | (simp only [i64_w, i32_w]; rw [c54b0]) | skip)
          have H' := Aside0.mk H
          clear H
          go_wp2
          repeat (go_quiet (fail); try go_wp2)
          go_meet
          case rel => exact ⟨_, (false), eqs, H', ⟨by have := HJ7.out; have := HJ29.out; first | omega | exact Nat.le_refl _⟩, ⟨kN HO_465000⟩, ⟨kR HO_465001⟩, ⟨bk BK456⟩, ⟨bk BK464⟩, ⟨bb HB⟩⟩
         ·rw [if_neg c54] at H
          have c54b0 : (t466 == 0) = false := beq_eq_false_iff_ne.mpr c54
          have c54b1 : (t466 != 0) = true := bne_iff_ne.mpr c54
          (first | rw [c54b0] | (simp only [i64_w, i32_w]; rw [c54b0]) | skip)
          by_cases c55 : t466 = 13
          ·rw [if_pos c55] at H
           have c55b0 : (t466 == 13) = true := beq_iff_eq.mpr c55
           have c55b1 : (t466 != 13) = false := bne_eq_false_iff_eq.mpr c55
           clear c55
           have H' := Aside0.mk H
           clear H
           go_wp2
           repeat (go_quiet (fail); try go_wp2)
           go_meet
           case rel => exact ⟨_, (x12_7), eqs, H', ⟨by have := HJ7.out; have := HJ29.out; first | omega | exact Nat.le_refl _⟩, ⟨kN HO_465000⟩, ⟨kR HO_465001⟩, ⟨bk BK456⟩, ⟨bk BK464⟩, ⟨bb HB⟩⟩
          ·rw [if_neg c55] at H
           have c55b0 : (t466 == 13) = false := beq_eq_false_iff_ne.mpr c55
           have c55b1 : (t466 != 13) = true := bne_iff_ne.mpr c55
           have H' := Aside0.mk H
           clear H
           go_wp2
           repeat (go_quiet (fail); try go_wp2)
           go_meet
           case rel => exact ⟨_, (true), eqs, H', ⟨by have := HJ7.out; have := HJ29.out; first | omega | exact Nat.le_refl _⟩, ⟨kN HO_465000⟩, ⟨kR HO_465001⟩, ⟨bk BK456⟩, ⟨bk BK464⟩, ⟨bb HB⟩⟩
        case rest =>
         clear HC53
         try clear c1
         try clear c2
         try clear p2
         try clear c3
         try clear c4
         try clear c5
         try clear c6
         try clear c6b0
         try clear c6b1
         try clear c6b2
         try clear p6
         try clear c7
         try clear c14
         try clear c20
         try clear c22
         try clear c27
         try clear c31
         try clear c31b0
         try clear c31b1
         try clear c33
         try clear c35
         try clear c37
         try clear c44
         try clear c49
         try clear c52
         try clear c54
         try clear c54b0
         try clear c54b1
         try clear c55
         try clear c55b0
         try clear c55b1
         try clear hcz15_0
         try clear hcz15_1
         try clear hcz17_0
         try clear hcz17_1
         try clear hcz17_2
         try clear hcz23_0
         try clear hcz23_1
         try clear hcz25_0
         try clear hcz25_1
         try clear hcz28_0
         try clear hcz28_1
         try clear hcz38_0
         try clear hcz38_1
         try clear hcz40_0
         try clear hcz40_1
         try clear hcz42_0
         try clear hcz42_1
         try clear hcz45_0
         try clear hcz45_1
         try clear hcz47_0
         try clear hcz47_1
         try clear hcz50_0
         try clear hcz50_1
         try clear hfz15_0
         try clear hfz15_1
         try clear hfz17_0
         try clear hfz17_1
         try clear hfz17_2
         try clear hfz23_0
         try clear hfz23_1
         try clear hfz25_0
         try clear hfz25_1
         try clear hfz28_0
         try clear hfz28_1
         try clear hfz38_0
         try clear hfz38_1
         try clear hfz40_0
         try clear hfz40_1
         try clear hfz42_0
         try clear hfz42_1
         try clear hfz45_0
         try clear hfz45_1
         try clear hfz47_0
         try clear hfz47_1
         try clear hfz50_0
         try clear hfz50_1
         try clear p2
         try clear p6
         obtain ⟨kq, x87_52, rfl, HA, HJ52, HO_465000, HO_465001, BK456, BK464, HB⟩ := hcut
         cases kq with
         | zero => exact absurd HA.out (by simp [w4_TypesBounds.j2])
         | succ kj52 =>
          have H := HA.out
          clear HA
          simp only [w4_TypesBounds.j2] at H
          by_cases c56 : x87_52 = true
          ·subst c56
           replace H := ift H
           obtain rfl := Option.some.inj H
           go_wp2
           repeat (go_quiet (fail); try go_wp2)
           go_ret
           exact ⟨erf, bb HB⟩
          ·replace c56 := Bool.eq_false_iff.mpr c56
           subst c56
           replace H := iff_ H
           replace H := Option.bind_eq_some_iff.mp H
           obtain ⟨⟨t472, t473⟩, A570, H⟩ := H
           replace H : ((types_Is.f kj52 t458 t461 (Int.tmod (wrap64 (a1_0)) (t458.length : Int)) (Int.tmod (wrap64 (a1_2)) (t458.length : Int))).bind fun t474 => (if t474 = true then ((types_Is.f kj52 t458 t461 (Int.tmod (wrap64 (a1_1)) (t458.length : Int)) (Int.tmod (wrap64 (a1_2)) (t458.length : Int))).bind fun t475 => (w4_TypesBounds.j3 kj52 (Int.tmod (wrap64 (a1_0)) (t458.length : Int)) (Int.tmod (wrap64 (a1_1)) (t458.length : Int)) (Int.tmod (wrap64 (a1_2)) (t458.length : Int)) t472 t473 t475 t458 t461)) else (w4_TypesBounds.j3 kj52 (Int.tmod (wrap64 (a1_0)) (t458.length : Int)) (Int.tmod (wrap64 (a1_1)) (t458.length : Int)) (Int.tmod (wrap64 (a1_2)) (t458.length : Int)) t472 t473 false t458 t461))) = some r := H
           have A57 := Aside0.mk A570
           clear A570
           have HC58 := Aside0.mk H
           clear H
           have hnb59 := NB464_456.out
           have hnc59 := NB456_464.out
           obtain ⟨hcz60_0, hcz60_1, hfz60_0, hfz60_1⟩ := cz2 BK464
           go_upto_region 13 with (first | (go_at_call 18; (with_reducible refine (types_Join.calls kj52 _ _ t458 _ _ t461 (Int.tmod (wrap64 (a1_0)) (t458.length : Int)) (Int.tmod (wrap64 (a1_1)) (t458.length : Int)) t472 t473 _ ?side1 ?side2 ?side3 ?side4 A57.out).mono ?_); (case side1 => repeat (first | exact (Kd.N_reads' HO_465000.out).2.2 | (with_reducible refine Kd.C_alloc ?_ _) | (with_reducible refine Kd.C_drewN ?_ _) | (with_reducible refine Kd.C_drew ?_))); (case side2 => exact (Kd.N_reads' HO_465000.out).2.1); (case side3 => repeat (first | exact (Kd.R_reads' HO_465001.out).2.2 | (with_reducible refine Kd.C_alloc ?_ _) | (with_reducible refine Kd.C_drewN ?_ _) | (with_reducible refine Kd.C_drew ?_))); (case side4 => exact (Kd.R_reads' HO_465001.out).2.1); rintro e w61 ⟨rfl, hb⟩; replace HO_465000 := kNb HO_465000 hb; replace HO_465001 := kRb HO_465001 hb; replace BK456 := bkb BK456 hb; replace BK464 := bkb BK464 hb; replace HB := bstep HB hb; (try clear hb); (try clear hb2); (try clear hk); (try clear hi)))
           repeat (go_quiet (first | (go_at_call 18; (with_reducible refine (types_Join.calls kj52 _ _ t458 _ _ t461 (Int.tmod (wrap64 (a1_0)) (t458.length : Int)) (Int.tmod (wrap64 (a1_1)) (t458.length : Int)) t472 t473 _ ?side1 ?side2 ?side3 ?side4 A57.out).mono ?_); (case side1 => repeat (first | exact (Kd.N_reads' HO_465000.out).2.2 | (with_reducible refine Kd.C_alloc ?_ _) | (with_reducible refine Kd.C_drewN ?_ _) | (with_reducible refine Kd.C_drew ?_))); (case side2 => exact (Kd.N_reads' HO_465000.out).2.1); (case side3 => repeat (first | exact (Kd.R_reads' HO_465001.out).2.2 | (with_reducible refine Kd.C_alloc ?_ _) | (with_reducible refine Kd.C_drewN ?_ _) | (with_reducible refine Kd.C_drew ?_))); (case side4 => exact (Kd.R_reads' HO_465001.out).2.1); rintro e w61 ⟨rfl, hb⟩; replace HO_465000 := kNb HO_465000 hb; replace HO_465001 := kRb HO_465001 hb; replace BK456 := bkb BK456 hb; replace BK464 := bkb BK464 hb; replace HB := bstep HB hb; (try clear hb); (try clear hb2); (try clear hk); (try clear hi))); go_upto_region 13 with (first | (go_at_call 18; (with_reducible refine (types_Join.calls kj52 _ _ t458 _ _ t461 (Int.tmod (wrap64 (a1_0)) (t458.length : Int)) (Int.tmod (wrap64 (a1_1)) (t458.length : Int)) t472 t473 _ ?side1 ?side2 ?side3 ?side4 A57.out).mono ?_); (case side1 => repeat (first | exact (Kd.N_reads' HO_465000.out).2.2 | (with_reducible refine Kd.C_alloc ?_ _) | (with_reducible refine Kd.C_drewN ?_ _) | (with_reducible refine Kd.C_drew ?_))); (case side2 => exact (Kd.N_reads' HO_465000.out).2.1); (case side3 => repeat (first | exact (Kd.R_reads' HO_465001.out).2.2 | (with_reducible refine Kd.C_alloc ?_ _) | (with_reducible refine Kd.C_drewN ?_ _) | (with_reducible refine Kd.C_drew ?_))); (case side4 => exact (Kd.R_reads' HO_465001.out).2.1); rintro e w61 ⟨rfl, hb⟩; replace HO_465000 := kNb HO_465000 hb; replace HO_465001 := kRb HO_465001 hb; replace BK456 := bkb BK456 hb; replace BK464 := bkb BK464 hb; replace HB := bstep HB hb; (try clear hb); (try clear hb2); (try clear hk); (try clear hi))))
           (try simp only [Act.put, List.setIfInBounds_toArray, List.set_cons_zero, List.set_cons_succ])
           go_cut [15] (fun v15 wc => ∃ (kq : Nat) (x15_57 : Bool), v15 = .bool x15_57 ∧ Aside0 (w4_TypesBounds.j3 kq (Int.tmod (wrap64 (a1_0)) (t458.length : Int)) (Int.tmod (wrap64 (a1_1)) (t458.length : Int)) (Int.tmod (wrap64 (a1_2)) (t458.length : Int)) t472 t473 x15_57 t458 t461 = some r) ∧ Aside0 (kq ≤ kj52) ∧ Aside0 (Kd.N k68 68 wc w.heap.size (fun k_ => some k_ ≠ ((.slice Ao16 t461.length co16) : Value).ownBlock ∧ k_ ≠ gb456 ∧ k_ ≠ gb464) (.slice Ao13 t458.length co13) t458) ∧ Aside0 (Kd.R k71 71 wc w.heap.size (fun _ => True) (.slice Ao16 t461.length co16) t461) ∧ Aside0 (wc.heap[gb456]? = some (.cells #[.int .u8 a1_0, .int .u8 a1_1, .int .u8 a1_2] 35 (0, 0))) ∧ Aside0 (wc.heap[gb464]? = some (.cells #[(.slice Ao13 t458.length co13), (.slice Ao16 t461.length co16)] 25 (0, 0))) ∧ Aside0 (Below w.heap.size w wc))
           case first =>
            have H := HC58.out
            clear HC58
            replace H := Option.bind_eq_some_iff.mp H
            obtain ⟨t474, A620, H⟩ := H
            replace H : (if t474 = true then ((types_Is.f kj52 t458 t461 (Int.tmod (wrap64 (a1_1)) (t458.length : Int)) (Int.tmod (wrap64 (a1_2)) (t458.length : Int))).bind fun t475 => (w4_TypesBounds.j3 kj52 (Int.tmod (wrap64 (a1_0)) (t458.length : Int)) (Int.tmod (wrap64 (a1_1)) (t458.length : Int)) (Int.tmod (wrap64 (a1_2)) (t458.length : Int)) t472 t473 t475 t458 t461)) else (w4_TypesBounds.j3 kj52 (Int.tmod (wrap64 (a1_0)) (t458.length : Int)) (Int.tmod (wrap64 (a1_1)) (t458.length : Int)) (Int.tmod (wrap64 (a1_2)) (t458.length : Int)) t472 t473 false t458 t461)) = some r := H
            have A62 := Aside0.mk A620
            clear A620
            by_cases c63 : t474 = true
            ·subst c63
             replace H := ift H
             replace H := Option.bind_eq_some_iff.mp H
             obtain ⟨t475, A640, H⟩ := H
             replace H : (w4_TypesBounds.j3 kj52 (Int.tmod (wrap64 (a1_0)) (t458.length : Int)) (Int.tmod (wrap64 (a1_1)) (t458.length : Int)) (Int.tmod (wrap64 (a1_2)) (t458.length : Int)) t472 t473 t475 t458 t461) = some r := H
             have A64 := Aside0.mk A640
             clear A640
             have H' := Aside0.mk H
             clear H
             have hnb65 := NB464_456.out
             have hnc65 := NB456_464.out
             obtain ⟨hcz66_0, hcz66_1, hfz66_0, hfz66_1⟩ := cz2 BK464
             go_wp2_with (first | (go_at_call 20; (with_reducible refine (types_Is.calls kj52 _ _ t458 _ _ t461 (Int.tmod (wrap64 (a1_0)) (t458.length : Int)) (Int.tmod (wrap64 (a1_2)) (t458.length : Int)) true _ ?side1 ?side2 ?side3 ?side4 A62.out).mono ?_); (case side1 => repeat (first | exact (Kd.N_reads' HO_465000.out).2.2 | (with_reducible refine Kd.C_alloc ?_ _) | (with_reducible refine Kd.C_drewN ?_ _) | (with_reducible refine Kd.C_drew ?_))); (case side2 => exact (Kd.N_reads' HO_465000.out).2.1); (case side3 => repeat (first | exact (Kd.R_reads' HO_465001.out).2.2 | (with_reducible refine Kd.C_alloc ?_ _) | (with_reducible refine Kd.C_drewN ?_ _) | (with_reducible refine Kd.C_drew ?_))); (case side4 => exact (Kd.R_reads' HO_465001.out).2.1); rintro e w67 ⟨rfl, hb⟩; replace HO_465000 := kNb HO_465000 hb; replace HO_465001 := kRb HO_465001 hb; replace BK456 := bkb BK456 hb; replace BK464 := bkb BK464 hb; replace HB := bstep HB hb; (try clear hb); (try clear hb2); (try clear hk); (try clear hi); obtain ⟨hcz68_0, hcz68_1, hfz68_0, hfz68_1⟩ := cz2 BK464) | (go_at_call 20; (with_reducible refine (types_Is.calls kj52 _ _ t458 _ _ t461 (Int.tmod (wrap64 (a1_1)) (t458.length : Int)) (Int.tmod (wrap64 (a1_2)) (t458.length : Int)) t475 _ ?side1 ?side2 ?side3 ?side4 A64.out).mono ?_); (case side1 => repeat (first | exact (Kd.N_reads' HO_465000.out).2.2 | (with_reducible refine Kd.C_alloc ?_ _) | (with_reducible refine Kd.C_drewN ?_ _) | (with_reducible refine Kd.C_drew ?_))); (case side2 => exact (Kd.N_reads' HO_465000.out).2.1); (case side3 => repeat (first | exact (Kd.R_reads' HO_465001.out).2.2 | (with_reducible refine Kd.C_alloc ?_ _) | (with_reducible refine Kd.C_drewN ?_ _) | (with_reducible refine Kd.C_drew ?_))); (case side4 => exact (Kd.R_reads' HO_465001.out).2.1); rintro e w69 ⟨rfl, hb⟩; replace HO_465000 := kNb HO_465000 hb; replace HO_465001 := kRb HO_465001 hb; replace BK456 := bkb BK456 hb; replace BK464 := bkb BK464 hb; replace HB := bstep HB hb; (try clear hb); (try clear hb2); (try clear hk); (try clear hi)))
             repeat (go_quiet (first | (go_at_call 20; (with_reducible refine (types_Is.calls kj52 _ _ t458 _ _ t461 (Int.tmod (wrap64 (a1_0)) (t458.length : Int)) (Int.tmod (wrap64 (a1_2)) (t458.length : Int)) true _ ?side1 ?side2 ?side3 ?side4 A62.out).mono ?_); (case side1 => repeat (first | exact (Kd.N_reads' HO_465000.out).2.2 | (with_reducible refine Kd.C_alloc ?_ _) | (with_reducible refine Kd.C_drewN ?_ _) | (with_reducible refine Kd.C_drew ?_))); (case side2 => exact (Kd.N_reads' HO_465000.out).2.1); (case side3 => repeat (first | exact (Kd.R_reads' HO_465001.out).2.2 | (with_reducible refine Kd.C_alloc ?_ _) | (with_reducible refine Kd.C_drewN ?_ _) | (with_reducible refine Kd.C_drew ?_))); (case side4 => exact (Kd.R_reads' HO_465001.out).2.1); rintro e w67 ⟨rfl, hb⟩; replace HO_465000 := kNb HO_465000 hb; replace HO_465001 := kRb HO_465001 hb; replace BK456 := bkb BK456 hb; replace BK464 := bkb BK464 hb; replace HB := bstep HB hb; (try clear hb); (try clear hb2); (try clear hk); (try clear hi); obtain ⟨hcz68_0, hcz68_1, hfz68_0, hfz68_1⟩ := cz2 BK464) | (go_at_call 20; (with_reducible refine (types_Is.calls kj52 _ _ t458 _ _ t461 (Int.tmod (wrap64 (a1_1)) (t458.length : Int)) (Int.tmod (wrap64 (a1_2)) (t458.length : Int)) t475 _ ?side1 ?side2 ?side3 ?side4 A64.out).mono ?_); (case side1 => repeat (first | exact (Kd.N_reads' HO_465000.out).2.2 | (with_reducible refine Kd.C_alloc ?_ _) | (with_reducible refine Kd.C_drewN ?_ _) | (with_reducible refine Kd.C_drew ?_))); (case side2 => exact (Kd.N_reads' HO_465000.out).2.1); (case side3 => repeat (first | exact (Kd.R_reads' HO_465001.out).2.2 | (with_reducible refine Kd.C_alloc ?_ _) | (with_reducible refine Kd.C_drewN ?_ _) | (with_reducible refine Kd.C_drew ?_))); (case side4 => exact (Kd.R_reads' HO_465001.out).2.1); rintro e w69 ⟨rfl, hb⟩; replace HO_465000 := kNb HO_465000 hb; replace HO_465001 := kRb HO_465001 hb; replace BK456 := bkb BK456 hb; replace BK464 := bkb BK464 hb; replace HB := bstep HB hb; (try clear hb); (try clear hb2); (try clear hk); (try clear hi))); try go_wp2_with (first | (go_at_call 20; (with_reducible refine (types_Is.calls kj52 _ _ t458 _ _ t461 (Int.tmod (wrap64 (a1_0)) (t458.length : Int)) (Int.tmod (wrap64 (a1_2)) (t458.length : Int)) true _ ?side1 ?side2 ?side3 ?side4 A62.out).mono ?_); (case side1 => repeat (first | exact (Kd.N_reads' HO_465000.out).2.2 | (with_reducible refine Kd.C_alloc ?_ _) | (with_reducible refine Kd.C_drewN ?_ _) | (with_reducible refine Kd.C_drew ?_))); (case side2 => exact (Kd.N_reads' HO_465000.out).2.1); (case side3 => repeat (first | exact (Kd.R_reads' HO_465001.out).2.2 | (with_reducible refine Kd.C_alloc ?_ _) | (with_reducible refine Kd.C_drewN ?_ _) | (with_reducible refine Kd.C_drew ?_))); (case side4 => exact (Kd.R_reads' HO_465001.out).2.1); rintro e w67 ⟨rfl, hb⟩; replace HO_465000 := kNb HO_465000 hb; replace HO_465001 := kRb HO_465001 hb; replace BK456 := bkb BK456 hb; replace BK464 := bkb BK464 hb; replace HB := bstep HB hb; (try clear hb); (try clear hb2); (try clear hk); (try clear hi); obtain ⟨hcz68_0, hcz68_1, hfz68_0, hfz68_1⟩ := cz2 BK464) | (go_at_call 20; (with_reducible refine (types_Is.calls kj52 _ _ t458 _ _ t461 (Int.tmod (wrap64 (a1_1)) (t458.length : Int)) (Int.tmod (wrap64 (a1_2)) (t458.length : Int)) t475 _ ?side1 ?side2 ?side3 ?side4 A64.out).mono ?_); (case side1 => repeat (first | exact (Kd.N_reads' HO_465000.out).2.2 | (with_reducible refine Kd.C_alloc ?_ _) | (with_reducible refine Kd.C_drewN ?_ _) | (with_reducible refine Kd.C_drew ?_))); (case side2 => exact (Kd.N_reads' HO_465000.out).2.1); (case side3 => repeat (first | exact (Kd.R_reads' HO_465001.out).2.2 | (with_reducible refine Kd.C_alloc ?_ _) | (with_reducible refine Kd.C_drewN ?_ _) | (with_reducible refine Kd.C_drew ?_))); (case side4 => exact (Kd.R_reads' HO_465001.out).2.1); rintro e w69 ⟨rfl, hb⟩; replace HO_465000 := kNb HO_465000 hb; replace HO_465001 := kRb HO_465001 hb; replace BK456 := bkb BK456 hb; replace BK464 := bkb BK464 hb; replace HB := bstep HB hb; (try clear hb); (try clear hb2); (try clear hk); (try clear hi))))
             go_meet
             case rel => exact ⟨_, (t475), eqs, H', ⟨by have := HJ7.out; have := HJ29.out; have := HJ52.out; first | omega | exact Nat.le_refl _⟩, ⟨kN HO_465000⟩, ⟨kR HO_465001⟩, ⟨bk BK456⟩, ⟨bk BK464⟩, ⟨bb HB⟩⟩
            ·replace c63 := Bool.eq_false_iff.mpr c63
             subst c63
             replace H := iff_ H
             have H' := Aside0.mk H
             clear H
             have hnb70 := NB464_456.out
             have hnc70 := NB456_464.out
             obtain ⟨hcz71_0, hcz71_1, hfz71_0, hfz71_1⟩ := cz2 BK464
             go_wp2_with (first | (go_at_call 20; (with_reducible refine (types_Is.calls kj52 _ _ t458 _ _ t461 (Int.tmod (wrap64 (a1_0)) (t458.length : Int)) (Int.tmod (wrap64 (a1_2)) (t458.length : Int)) false _ ?side1 ?side2 ?side3 ?side4 A62.out).mono ?_); (case side1 => repeat (first | exact (Kd.N_reads' HO_465000.out).2.2 | (with_reducible refine Kd.C_alloc ?_ _) | (with_reducible refine Kd.C_drewN ?_ _) | (with_reducible refine Kd.C_drew ?_))); (case side2 => exact (Kd.N_reads' HO_465000.out).2.1); (case side3 => repeat (first | exact (Kd.R_reads' HO_465001.out).2.2 | (with_reducible refine Kd.C_alloc ?_ _) | (with_reducible refine Kd.C_drewN ?_ _) | (with_reducible refine Kd.C_drew ?_))); (case side4 => exact (Kd.R_reads' HO_465001.out).2.1); rintro e w72 ⟨rfl, hb⟩; replace HO_465000 := kNb HO_465000 hb; replace HO_465001 := kRb HO_465001 hb; replace BK456 := bkb BK456 hb; replace BK464 := bkb BK464 hb; replace HB := bstep HB hb; (try clear hb); (try clear hb2); (try clear hk); (try clear hi)))
             repeat (go_quiet (first | (go_at_call 20; (with_reducible refine (types_Is.calls kj52 _ _ t458 _ _ t461 (Int.tmod (wrap64 (a1_0)) (t458.length : Int)) (Int.tmod (wrap64 (a1_2)) (t458.length : Int)) false _ ?side1 ?side2 ?side3 ?side4 A62.out).mono ?_); (case side1 => repeat (first | exact (Kd.N_reads' HO_465000.out).2.2 | (with_reducible refine Kd.C_alloc ?_ _) | (with_reducible refine Kd.C_drewN ?_ _) | (with_reducible refine Kd.C_drew ?_))); (case side2 => exact (Kd.N_reads' HO_465000.out).2.1); (case side3 => repeat (first | exact (Kd.R_reads' HO_465001.out).2.2 | (with_reducible refine Kd.C_alloc ?_ _) | (with_reducible refine Kd.C_drewN ?_ _) | (with_reducible refine Kd.C_drew ?_))); (case side4 => exact (Kd.R_reads' HO_465001.out).2.1); rintro e w72 ⟨rfl, hb⟩; replace HO_465000 := kNb HO_465000 hb; replace HO_465001 := kRb HO_465001 hb; replace BK456 := bkb BK456 hb; replace BK464 := bkb BK464 hb; replace HB := bstep HB hb; (try clear hb); (try clear hb2); (try clear hk); (try clear hi))); try go_wp2_with (first | (go_at_call 20; (with_reducible refine (types_Is.calls kj52 _ _ t458 _ _ t461 (Int.tmod (wrap64 (a1_0)) (t458.length : Int)) (Int.tmod (wrap64 (a1_2)) (t458.length : Int)) false _ ?side1 ?side2 ?side3 ?side4 A62.out).mono ?_); (case side1 => repeat (first | exact (Kd.N_reads' HO_465000.out).2.2 | (with_reducible refine Kd.C_alloc ?_ _) | (with_reducible refine Kd.C_drewN ?_ _) | (with_reducible refine Kd.C_drew ?_))); (case side2 => exact (Kd.N_reads' HO_465000.out).2.1); (case side3 => repeat (first | exact (Kd.R_reads' HO_465001.out).2.2 | (with_reducible refine Kd.C_alloc ?_ _) | (with_reducible refine Kd.C_drewN ?_ _) | (with_reducible refine Kd.C_drew ?_))); (case side4 => exact (Kd.R_reads' HO_465001.out).2.1); rintro e w72 ⟨rfl, hb⟩; replace HO_465000 := kNb HO_465000 hb; replace HO_465001 := kRb HO_465001 hb; replace BK456 := bkb BK456 hb; replace BK464 := bkb BK464 hb; replace HB := bstep HB hb; (try clear hb); (try clear hb2); (try clear hk); (try clear hi))))
             go_meet
             case rel => exact ⟨_, (false), eqs, H', ⟨by have := HJ7.out; have := HJ29.out; have := HJ52.out; first | omega | exact Nat.le_refl _⟩, ⟨kN HO_465000⟩, ⟨kR HO_465001⟩, ⟨bk BK456⟩, ⟨bk BK464⟩, ⟨bb HB⟩⟩
           case rest =>
            clear HC58
            try clear c1
            try clear c2
            try clear p2
            try clear c3
            try clear c4
            try clear c5
            try clear c6
            try clear c6b0
            try clear c6b1
            try clear c6b2
            try clear p6
            try clear c7
            try clear c14
            try clear c20
            try clear c22
            try clear c27
            try clear c31
            try clear c31b0
            try clear c31b1
            try clear c33
            try clear c35
            try clear c37
            try clear c44
            try clear c49
            try clear c52
            try clear c54
            try clear c54b0
            try clear c54b1
            try clear c55
            try clear c55b0
            try clear c55b1
            try clear c56
            try clear c59
            try clear c63
            try clear p64
            try clear c65
            try clear c70
            try clear hcz15_0
            try clear hcz15_1
            try clear hcz17_0
            try clear hcz17_1
            try clear hcz17_2
            try clear hcz23_0
            try clear hcz23_1
            try clear hcz25_0
            try clear hcz25_1
            try clear hcz28_0
            try clear hcz28_1
            try clear hcz38_0
            try clear hcz38_1
            try clear hcz40_0
            try clear hcz40_1
            try clear hcz42_0
            try clear hcz42_1
            try clear hcz45_0
            try clear hcz45_1
            try clear hcz47_0
            try clear hcz47_1
            try clear hcz50_0
            try clear hcz50_1
            try clear hcz60_0
            try clear hcz60_1
            try clear hcz66_0
            try clear hcz66_1
            try clear hcz68_0
            try clear hcz68_1
            try clear hcz71_0
            try clear hcz71_1
            try clear hfz15_0
            try clear hfz15_1
            try clear hfz17_0
            try clear hfz17_1
            try clear hfz17_2
            try clear hfz23_0
            try clear hfz23_1
            try clear hfz25_0
            try clear hfz25_1
            try clear hfz28_0
            try clear hfz28_1
            try clear hfz38_0
            try clear hfz38_1
            try clear hfz40_0
            try clear hfz40_1
            try clear hfz42_0
            try clear hfz42_1
            try clear hfz45_0
            try clear hfz45_1
            try clear hfz47_0
            try clear hfz47_1
            try clear hfz50_0
            try clear hfz50_1
            try clear hfz60_0
            try clear hfz60_1
            try clear hfz66_0
            try clear hfz66_1
            try clear hfz68_0
            try clear hfz68_1
            try clear hfz71_0
            try clear hfz71_1
            try clear p2
            try clear p6
            obtain ⟨kq, x15_57, rfl, HA, HJ57, HO_465000, HO_465001, BK456, BK464, HB⟩ := hcut
            cases kq with
            | zero => exact absurd HA.out (by simp [w4_TypesBounds.j3])
            | succ kj57 =>
             have H := HA.out
             clear HA
             simp only [w4_TypesBounds.j3] at H
             by_cases c73 : t473 = 0
             ·rw [if_pos c73] at H
              have c73b0 : (t473 == 0) = true := beq_iff_eq.mpr c73
              have c73b1 : (t473 != 0) = false := bne_eq_false_iff_eq.mpr c73
              clear c73
              replace H := Option.bind_eq_some_iff.mp H
              obtain ⟨t476, A740, H⟩ := H
              replace H : (if t476 = true then ((types_Is.f kj57 t458 t461 (Int.tmod (wrap64 (a1_1)) (t458.length : Int)) t472).bind fun t477 => (if t477 = true then ((types_Is.f kj57 t458 t461 t472 (Int.tmod (wrap64 (a1_2)) (t458.length : Int))).bind fun t478 => (some (x15_57 == t478))) else (some false))) else (some false)) = some r := H
              have A74 := Aside0.mk A740
              clear A740
              by_cases c75 : t476 = true
              ·subst c75
               replace H := ift H
               replace H := Option.bind_eq_some_iff.mp H
               obtain ⟨t477, A760, H⟩ := H
               replace H : (if t477 = true then ((types_Is.f kj57 t458 t461 t472 (Int.tmod (wrap64 (a1_2)) (t458.length : Int))).bind fun t478 => (some (x15_57 == t478))) else (some false)) = some r := H
               have A76 := Aside0.mk A760
               clear A760
               by_cases c77 : t477 = true
               ·subst c77
                replace H := ift H
                replace H := Option.bind_eq_some_iff.mp H
                obtain ⟨t478, A780, H⟩ := H
                replace H : (some (x15_57 == t478)) = some r := H
                have A78 := Aside0.mk A780
                clear A780
                obtain rfl := Option.some.inj H
                have hnb79 := NB464_456.out
                have hnc79 := NB456_464.out
                obtain ⟨hcz80_0, hcz80_1, hfz80_0, hfz80_1⟩ := cz2 BK464
                go_wp2_with (first | (go_at_call 20; (with_reducible refine (types_Is.calls kj57 _ _ t458 _ _ t461 (Int.tmod (wrap64 (a1_0)) (t458.length : Int)) t472 true _ ?side1 ?side2 ?side3 ?side4 A74.out).mono ?_); (case side1 => repeat (first | exact (Kd.N_reads' HO_465000.out).2.2 | (with_reducible refine Kd.C_alloc ?_ _) | (with_reducible refine Kd.C_drewN ?_ _) | (with_reducible refine Kd.C_drew ?_))); (case side2 => exact (Kd.N_reads' HO_465000.out).2.1); (case side3 => repeat (first | exact (Kd.R_reads' HO_465001.out).2.2 | (with_reducible refine Kd.C_alloc ?_ _) | (with_reducible refine Kd.C_drewN ?_ _) | (with_reducible refine Kd.C_drew ?_))); (case side4 => exact (Kd.R_reads' HO_465001.out).2.1); rintro e w81 ⟨rfl, hb⟩; replace HO_465000 := kNb HO_465000 hb; replace HO_465001 := kRb HO_465001 hb; replace BK456 := bkb BK456 hb; replace BK464 := bkb BK464 hb; replace HB := bstep HB hb; (try clear hb); (try clear hb2); (try clear hk); (try clear hi); obtain ⟨hcz82_0, hcz82_1, hfz82_0, hfz82_1⟩ := cz2 BK464) | (go_at_call 20; (with_reducible refine (types_Is.calls kj57 _ _ t458 _ _ t461 (Int.tmod (wrap64 (a1_1)) (t458.length : Int)) t472 true _ ?side1 ?side2 ?side3 ?side4 A76.out).mono ?_); (case side1 => repeat (first | exact (Kd.N_reads' HO_465000.out).2.2 | (with_reducible refine Kd.C_alloc ?_ _) | (with_reducible refine Kd.C_drewN ?_ _) | (with_reducible refine Kd.C_drew ?_))); (case side2 => exact (Kd.N_reads' HO_465000.out).2.1); (case side3 => repeat (first | exact (Kd.R_reads' HO_465001.out).2.2 | (with_reducible refine Kd.C_alloc ?_ _) | (with_reducible refine Kd.C_drewN ?_ _) | (with_reducible refine Kd.C_drew ?_))); (case side4 => exact (Kd.R_reads' HO_465001.out).2.1); rintro e w83 ⟨rfl, hb⟩; replace HO_465000 := kNb HO_465000 hb; replace HO_465001 := kRb HO_465001 hb; replace BK456 := bkb BK456 hb; replace BK464 := bkb BK464 hb; replace HB := bstep HB hb; (try clear hb); (try clear hb2); (try clear hk); (try clear hi); obtain ⟨hcz84_0, hcz84_1, hfz84_0, hfz84_1⟩ := cz2 BK464) | (go_at_call 20; (with_reducible refine (types_Is.calls kj57 _ _ t458 _ _ t461 t472 (Int.tmod (wrap64 (a1_2)) (t458.length : Int)) t478 _ ?side1 ?side2 ?side3 ?side4 A78.out).mono ?_); (case side1 => repeat (first | exact (Kd.N_reads' HO_465000.out).2.2 | (with_reducible refine Kd.C_alloc ?_ _) | (with_reducible refine Kd.C_drewN ?_ _) | (with_reducible refine Kd.C_drew ?_))); (case side2 => exact (Kd.N_reads' HO_465000.out).2.1); (case side3 => repeat (first | exact (Kd.R_reads' HO_465001.out).2.2 | (with_reducible refine Kd.C_alloc ?_ _) | (with_reducible refine Kd.C_drewN ?_ _) | (with_reducible refine Kd.C_drew ?_))); (case side4 => exact (Kd.R_reads' HO_465001.out).2.1); rintro e w85 ⟨rfl, hb⟩; replace HO_465000 := kNb HO_465000 hb; replace HO_465001 := kRb HO_465001 hb; replace BK456 := bkb BK456 hb; replace BK464 := bkb BK464 hb; replace HB := bstep HB hb; (try clear hb); (try clear hb2); (try clear hk); (try clear hi)))
                repeat (go_quiet (first | (go_at_call 20; (with_reducible refine (types_Is.calls kj57 _ _ t458 _ _ t461 (Int.tmod (wrap64 (a1_0)) (t458.length : Int)) t472 true _ ?side1 ?side2 ?side3 ?side4 A74.out).mono ?_); (case side1 => repeat (first | exact (Kd.N_reads' HO_465000.out).2.2 | (with_reducible refine Kd.C_alloc ?_ _) | (with_reducible refine Kd.C_drewN ?_ _) | (with_reducible refine Kd.C_drew ?_))); (case side2 => exact (Kd.N_reads' HO_465000.out).2.1); (case side3 => repeat (first | exact (Kd.R_reads' HO_465001.out).2.2 | (with_reducible refine Kd.C_alloc ?_ _) | (with_reducible refine Kd.C_drewN ?_ _) | (with_reducible refine Kd.C_drew ?_))); (case side4 => exact (Kd.R_reads' HO_465001.out).2.1); rintro e w81 ⟨rfl, hb⟩; replace HO_465000 := kNb HO_465000 hb; replace HO_465001 := kRb HO_465001 hb; replace BK456 := bkb BK456 hb; replace BK464 := bkb BK464 hb; replace HB := bstep HB hb; (try clear hb); (try clear hb2); (try clear hk); (try clear hi); obtain ⟨hcz82_0, hcz82_1, hfz82_0, hfz82_1⟩ := cz2 BK464) | (go_at_call 20; (with_reducible refine (types_Is.calls kj57 _ _ t458 _ _ t461 (Int.tmod (wrap64 (a1_1)) (t458.length : Int)) t472 true _ ?side1 ?side2 ?side3 ?side4 A76.out).mono ?_); (case side1 => repeat (first | exact (Kd.N_reads' HO_465000.out).2.2 | (with_reducible refine Kd.C_alloc ?_ _) | (with_reducible refine Kd.C_drewN ?_ _) | (with_reducible refine Kd.C_drew ?_))); (case side2 => exact (Kd.N_reads' HO_465000.out).2.1); (case side3 => repeat (first | exact (Kd.R_reads' HO_465001.out).2.2 | (with_reducible refine Kd.C_alloc ?_ _) | (with_reducible refine Kd.C_drewN ?_ _) | (with_reducible refine Kd.C_drew ?_))); (case side4 => exact (Kd.R_reads' HO_465001.out).2.1); rintro e w83 ⟨rfl, hb⟩; replace HO_465000 := kNb HO_465000 hb; replace HO_465001 := kRb HO_465001 hb; replace BK456 := bkb BK456 hb; replace BK464 := bkb BK464 hb; replace HB := bstep HB hb; (try clear hb); (try clear hb2); (try clear hk); (try clear hi); obtain ⟨hcz84_0, hcz84_1, hfz84_0, hfz84_1⟩ := cz2 BK464) | (go_at_call 20; (with_reducible refine (types_Is.calls kj57 _ _ t458 _ _ t461 t472 (Int.tmod (wrap64 (a1_2)) (t458.length : Int)) t478 _ ?side1 ?side2 ?side3 ?side4 A78.out).mono ?_); (case side1 => repeat (first | exact (Kd.N_reads' HO_465000.out).2.2 | (with_reducible refine Kd.C_alloc ?_ _) | (with_reducible refine Kd.C_drewN ?_ _) | (with_reducible refine Kd.C_drew ?_))); (case side2 => exact (Kd.N_reads' HO_465000.out).2.1); (case side3 => repeat (first | exact (Kd.R_reads' HO_465001.out).2.2 | (with_reducible refine Kd.C_alloc ?_ _) | (with_reducible refine Kd.C_drewN ?_ _) | (with_reducible refine Kd.C_drew ?_))); (case side4 => exact (Kd.R_reads' HO_465001.out).2.1); rintro e w85 ⟨rfl, hb⟩; replace HO_465000 := kNb HO_465000 hb; replace HO_465001 := kRb HO_465001 hb; replace BK456 := bkb BK456 hb; replace BK464 := bkb BK464 hb; replace HB := bstep HB hb; (try clear hb); (try clear hb2); (try clear hk); (try clear hi))); try go_wp2_with (first | (go_at_call 20; (with_reducible refine (types_Is.calls kj57 _ _ t458 _ _ t461 (Int.tmod (wrap64 (a1_0)) (t458.length : Int)) t472 true _ ?side1 ?side2 ?side3 ?side4 A74.out).mono ?_); (case side1 => repeat (first | exact (Kd.N_reads' HO_465000.out).2.2 | (with_reducible refine Kd.C_alloc ?_ _) | (with_reducible refine Kd.C_drewN ?_ _) | (with_reducible refine Kd.C_drew ?_))); (case side2 => exact (Kd.N_reads' HO_465000.out).2.1); (case side3 => repeat (first | exact (Kd.R_reads' HO_465001.out).2.2 | (with_reducible refine Kd.C_alloc ?_ _) | (with_reducible refine Kd.C_drewN ?_ _) | (with_reducible refine Kd.C_drew ?_))); (case side4 => exact (Kd.R_reads' HO_465001.out).2.1); rintro e w81 ⟨rfl, hb⟩; replace HO_465000 := kNb HO_465000 hb; replace HO_465001 := kRb HO_465001 hb; replace BK456 := bkb BK456 hb; replace BK464 := bkb BK464 hb; replace HB := bstep HB hb; (try clear hb); (try clear hb2); (try clear hk); (try clear hi); obtain ⟨hcz82_0, hcz82_1, hfz82_0, hfz82_1⟩ := cz2 BK464) | (go_at_call 20; (with_reducible refine (types_Is.calls kj57 _ _ t458 _ _ t461 (Int.tmod (wrap64 (a1_1)) (t458.length : Int)) t472 true _ ?side1 ?side2 ?side3 ?side4 A76.out).mono ?_); (case side1 => repeat (first | exact (Kd.N_reads' HO_465000.out).2.2 | (with_reducible refine Kd.C_alloc ?_ _) | (with_reducible refine Kd.C_drewN ?_ _) | (with_reducible refine Kd.C_drew ?_))); (case side2 => exact (Kd.N_reads' HO_465000.out).2.1); (case side3 => repeat (first | exact (Kd.R_reads' HO_465001.out).2.2 | (with_reducible refine Kd.C_alloc ?_ _) | (with_reducible refine Kd.C_drewN ?_ _) | (with_reducible refine Kd.C_drew ?_))); (case side4 => exact (Kd.R_reads' HO_465001.out).2.1); rintro e w83 ⟨rfl, hb⟩; replace HO_465000 := kNb HO_465000 hb; replace HO_465001 := kRb HO_465001 hb; replace BK456 := bkb BK456 hb; replace BK464 := bkb BK464 hb; replace HB := bstep HB hb; (try clear hb); (try clear hb2); (try clear hk); (try clear hi); obtain ⟨hcz84_0, hcz84_1, hfz84_0, hfz84_1⟩ := cz2 BK464) | (go_at_call 20; (with_reducible refine (types_Is.calls kj57 _ _ t458 _ _ t461 t472 (Int.tmod (wrap64 (a1_2)) (t458.length : Int)) t478 _ ?side1 ?side2 ?side3 ?side4 A78.out).mono ?_); (case side1 => repeat (first | exact (Kd.N_reads' HO_465000.out).2.2 | (with_reducible refine Kd.C_alloc ?_ _) | (with_reducible refine Kd.C_drewN ?_ _) | (with_reducible refine Kd.C_drew ?_))); (case side2 => exact (Kd.N_reads' HO_465000.out).2.1); (case side3 => repeat (first | exact (Kd.R_reads' HO_465001.out).2.2 | (with_reducible refine Kd.C_alloc ?_ _) | (with_reducible refine Kd.C_drewN ?_ _) | (with_reducible refine Kd.C_drew ?_))); (case side4 => exact (Kd.R_reads' HO_465001.out).2.1); rintro e w85 ⟨rfl, hb⟩; replace HO_465000 := kNb HO_465000 hb; replace HO_465001 := kRb HO_465001 hb; replace BK456 := bkb BK456 hb; replace BK464 := bkb BK464 hb; replace HB := bstep HB hb; (try clear hb); (try clear hb2); (try clear hk); (try clear hi))))
                go_ret
                exact ⟨erf, bb HB⟩
               ·replace c77 := Bool.eq_false_iff.mpr c77
                subst c77
                replace H := iff_ H
                obtain rfl := Option.some.inj H
                have hnb86 := NB464_456.out
                have hnc86 := NB456_464.out
                obtain ⟨hcz87_0, hcz87_1, hfz87_0, hfz87_1⟩ := cz2 BK464
                go_wp2_with (first | (go_at_call 20; (with_reducible refine (types_Is.calls kj57 _ _ t458 _ _ t461 (Int.tmod (wrap64 (a1_0)) (t458.length : Int)) t472 true _ ?side1 ?side2 ?side3 ?side4 A74.out).mono ?_); (case side1 => repeat (first | exact (Kd.N_reads' HO_465000.out).2.2 | (with_reducible refine Kd.C_alloc ?_ _) | (with_reducible refine Kd.C_drewN ?_ _) | (with_reducible refine Kd.C_drew ?_))); (case side2 => exact (Kd.N_reads' HO_465000.out).2.1); (case side3 => repeat (first | exact (Kd.R_reads' HO_465001.out).2.2 | (with_reducible refine Kd.C_alloc ?_ _) | (with_reducible refine Kd.C_drewN ?_ _) | (with_reducible refine Kd.C_drew ?_))); (case side4 => exact (Kd.R_reads' HO_465001.out).2.1); rintro e w88 ⟨rfl, hb⟩; replace HO_465000 := kNb HO_465000 hb; replace HO_465001 := kRb HO_465001 hb; replace BK456 := bkb BK456 hb; replace BK464 := bkb BK464 hb; replace HB := bstep HB hb; (try clear hb); (try clear hb2); (try clear hk); (try clear hi); obtain ⟨hcz89_0, hcz89_1, hfz89_0, hfz89_1⟩ := cz2 BK464) | (go_at_call 20; (with_reducible refine (types_Is.calls kj57 _ _ t458 _ _ t461 (Int.tmod (wrap64 (a1_1)) (t458.length : Int)) t472 false _ ?side1 ?side2 ?side3 ?side4 A76.out).mono ?_); (case side1 => repeat (first | exact (Kd.N_reads' HO_465000.out).2.2 | (with_reducible refine Kd.C_alloc ?_ _) | (with_reducible refine Kd.C_drewN ?_ _) | (with_reducible refine Kd.C_drew ?_))); (case side2 => exact (Kd.N_reads' HO_465000.out).2.1); (case side3 => repeat (first | exact (Kd.R_reads' HO_465001.out).2.2 | (with_reducible refine Kd.C_alloc ?_ _) | (with_reducible refine Kd.C_drewN ?_ _) | (with_reducible refine Kd.C_drew ?_))); (case side4 => exact (Kd.R_reads' HO_465001.out).2.1); rintro e w90 ⟨rfl, hb⟩; replace HO_465000 := kNb HO_465000 hb; replace HO_465001 := kRb HO_465001 hb; replace BK456 := bkb BK456 hb; replace BK464 := bkb BK464 hb; replace HB := bstep HB hb; (try clear hb); (try clear hb2); (try clear hk); (try clear hi)))
                repeat (go_quiet (first | (go_at_call 20; (with_reducible refine (types_Is.calls kj57 _ _ t458 _ _ t461 (Int.tmod (wrap64 (a1_0)) (t458.length : Int)) t472 true _ ?side1 ?side2 ?side3 ?side4 A74.out).mono ?_); (case side1 => repeat (first | exact (Kd.N_reads' HO_465000.out).2.2 | (with_reducible refine Kd.C_alloc ?_ _) | (with_reducible refine Kd.C_drewN ?_ _) | (with_reducible refine Kd.C_drew ?_))); (case side2 => exact (Kd.N_reads' HO_465000.out).2.1); (case side3 => repeat (first | exact (Kd.R_reads' HO_465001.out).2.2 | (with_reducible refine Kd.C_alloc ?_ _) | (with_reducible refine Kd.C_drewN ?_ _) | (with_reducible refine Kd.C_drew ?_))); (case side4 => exact (Kd.R_reads' HO_465001.out).2.1); rintro e w88 ⟨rfl, hb⟩; replace HO_465000 := kNb HO_465000 hb; replace HO_465001 := kRb HO_465001 hb; replace BK456 := bkb BK456 hb; replace BK464 := bkb BK464 hb; replace HB := bstep HB hb; (try clear hb); (try clear hb2); (try clear hk); (try clear hi); obtain ⟨hcz89_0, hcz89_1, hfz89_0, hfz89_1⟩ := cz2 BK464) | (go_at_call 20; (with_reducible refine (types_Is.calls kj57 _ _ t458 _ _ t461 (Int.tmod (wrap64 (a1_1)) (t458.length : Int)) t472 false _ ?side1 ?side2 ?side3 ?side4 A76.out).mono ?_); (case side1 => repeat (first | exact (Kd.N_reads' HO_465000.out).2.2 | (with_reducible refine Kd.C_alloc ?_ _) | (with_reducible refine Kd.C_drewN ?_ _) | (with_reducible refine Kd.C_drew ?_))); (case side2 => exact (Kd.N_reads' HO_465000.out).2.1); (case side3 => repeat (first | exact (Kd.R_reads' HO_465001.out).2.2 | (with_reducible refine Kd.C_alloc ?_ _) | (with_reducible refine Kd.C_drewN ?_ _) | (with_reducible refine Kd.C_drew ?_))); (case side4 => exact (Kd.R_reads' HO_465001.out).2.1); rintro e w90 ⟨rfl, hb⟩; replace HO_465000 := kNb HO_465000 hb; replace HO_465001 := kRb HO_465001 hb; replace BK456 := bkb BK456 hb; replace BK464 := bkb BK464 hb; replace HB := bstep HB hb; (try clear hb); (try clear hb2); (try clear hk); (try clear hi))); try go_wp2_with (first | (go_at_call 20; (with_reducible refine (types_Is.calls kj57 _ _ t458 _ _ t461 (Int.tmod (wrap64 (a1_0)) (t458.length : Int)) t472 true _ ?side1 ?side2 ?side3 ?side4 A74.out).mono ?_); (case side1 => repeat (first | exact (Kd.N_reads' HO_465000.out).2.2 | (with_reducible refine Kd.C_alloc ?_ _) | (with_reducible refine Kd.C_drewN ?_ _) | (with_reducible refine Kd.C_drew ?_))); (case side2 => exact (Kd.N_reads' HO_465000.out).2.1); (case side3 => repeat (first | exact (Kd.R_reads' HO_465001.out).2.2 | (with_reducible refine Kd.C_alloc ?_ _) | (with_reducible refine Kd.C_drewN ?_ _) | (with_reducible refine Kd.C_drew ?_))); (case side4 => exact (Kd.R_reads' HO_465001.out).2.1); rintro e w88 ⟨rfl, hb⟩; replace HO_465000 := kNb HO_465000 hb; replace HO_465001 := kRb HO_465001 hb; replace BK456 := bkb BK456 hb; replace BK464 := bkb BK464 hb; replace HB := bstep HB hb; (try clear hb); (try clear hb2); (try clear hk); (try clear hi); obtain ⟨hcz89_0, hcz89_1, hfz89_0, hfz89_1⟩ := cz2 BK464) | (go_at_call 20; (with_reducible refine (types_Is.calls kj57 _ _ t458 _ _ t461 (Int.tmod (wrap64 (a1_1)) (t458.length : Int)) t472 false _ ?side1 ?side2 ?side3 ?side4 A76.out).mono ?_); (case side1 => repeat (first | exact (Kd.N_reads' HO_465000.out).2.2 | (with_reducible refine Kd.C_alloc ?_ _) | (with_reducible refine Kd.C_drewN ?_ _) | (with_reducible refine Kd.C_drew ?_))); (case side2 => exact (Kd.N_reads' HO_465000.out).2.1); (case side3 => repeat (first | exact (Kd.R_reads' HO_465001.out).2.2 | (with_reducible refine Kd.C_alloc ?_ _) | (with_reducible refine Kd.C_drewN ?_ _) | (with_reducible refine Kd.C_drew ?_))); (case side4 => exact (Kd.R_reads' HO_465001.out).2.1); rintro e w90 ⟨rfl, hb⟩; replace HO_465000 := kNb HO_465000 hb; replace HO_465001 := kRb HO_465001 hb; replace BK456 := bkb BK456 hb; replace BK464 := bkb BK464 hb; replace HB := bstep HB hb; (try clear hb); (try clear hb2); (try clear hk); (try clear hi))))
                go_ret
                exact ⟨erf, bb HB⟩
              ·replace c75 := Bool.eq_false_iff.mpr c75
               subst c75
               replace H := iff_ H
               obtain rfl := Option.some.inj H
               have hnb91 := NB464_456.out
               have hnc91 := NB456_464.out
               obtain ⟨hcz92_0, hcz92_1, hfz92_0, hfz92_1⟩ := cz2 BK464
               go_wp2_with (first | (go_at_call 20; (with_reducible refine (types_Is.calls kj57 _ _ t458 _ _ t461 (Int.tmod (wrap64 (a1_0)) (t458.length : Int)) t472 false _ ?side1 ?side2 ?side3 ?side4 A74.out).mono ?_); (case side1 => repeat (first | exact (Kd.N_reads' HO_465000.out).2.2 | (with_reducible refine Kd.C_alloc ?_ _) | (with_reducible refine Kd.C_drewN ?_ _) | (with_reducible refine Kd.C_drew ?_))); (case side2 => exact (Kd.N_reads' HO_465000.out).2.1); (case side3 => repeat (first | exact (Kd.R_reads' HO_465001.out).2.2 | (with_reducible refine Kd.C_alloc ?_ _) | (with_reducible refine Kd.C_drewN ?_ _) | (with_reducible refine Kd.C_drew ?_))); (case side4 => exact (Kd.R_reads' HO_465001.out).2.1); rintro e w93 ⟨rfl, hb⟩; replace HO_465000 := kNb HO_465000 hb; replace HO_465001 := kRb HO_465001 hb; replace BK456 := bkb BK456 hb; replace BK464 := bkb BK464 hb; replace HB := bstep HB hb; (try clear hb); (try clear hb2); (try clear hk); (try clear hi)))
               repeat (go_quiet (first | (go_at_call 20; (with_reducible refine (types_Is.calls kj57 _ _ t458 _ _ t461 (Int.tmod (wrap64 (a1_0)) (t458.length : Int)) t472 false _ ?side1 ?side2 ?side3 ?side4 A74.out).mono ?_); (case side1 => repeat (first | exact (Kd.N_reads' HO_465000.out).2.2 | (with_reducible refine Kd.C_alloc ?_ _) | (with_reducible refine Kd.C_drewN ?_ _) | (with_reducible refine Kd.C_drew ?_))); (case side2 => exact (Kd.N_reads' HO_465000.out).2.1); (case side3 => repeat (first | exact (Kd.R_reads' HO_465001.out).2.2 | (with_reducible refine Kd.C_alloc ?_ _) | (with_reducible refine Kd.C_drewN ?_ _) | (with_reducible refine Kd.C_drew ?_))); (case side4 => exact (Kd.R_reads' HO_465001.out).2.1); rintro e w93 ⟨rfl, hb⟩; replace HO_465000 := kNb HO_465000 hb; replace HO_465001 := kRb HO_465001 hb; replace BK456 := bkb BK456 hb; replace BK464 := bkb BK464 hb; replace HB := bstep HB hb; (try clear hb); (try clear hb2); (try clear hk); (try clear hi))); try go_wp2_with (first | (go_at_call 20; (with_reducible refine (types_Is.calls kj57 _ _ t458 _ _ t461 (Int.tmod (wrap64 (a1_0)) (t458.length : Int)) t472 false _ ?side1 ?side2 ?side3 ?side4 A74.out).mono ?_); (case side1 => repeat (first | exact (Kd.N_reads' HO_465000.out).2.2 | (with_reducible refine Kd.C_alloc ?_ _) | (with_reducible refine Kd.C_drewN ?_ _) | (with_reducible refine Kd.C_drew ?_))); (case side2 => exact (Kd.N_reads' HO_465000.out).2.1); (case side3 => repeat (first | exact (Kd.R_reads' HO_465001.out).2.2 | (with_reducible refine Kd.C_alloc ?_ _) | (with_reducible refine Kd.C_drewN ?_ _) | (with_reducible refine Kd.C_drew ?_))); (case side4 => exact (Kd.R_reads' HO_465001.out).2.1); rintro e w93 ⟨rfl, hb⟩; replace HO_465000 := kNb HO_465000 hb; replace HO_465001 := kRb HO_465001 hb; replace BK456 := bkb BK456 hb; replace BK464 := bkb BK464 hb; replace HB := bstep HB hb; (try clear hb); (try clear hb2); (try clear hk); (try clear hi))))
               go_ret
               exact ⟨erf, bb HB⟩
             ·rw [if_neg c73] at H
              have c73b0 : (t473 == 0) = false := beq_eq_false_iff_ne.mpr c73
              have c73b1 : (t473 != 0) = true := bne_iff_ne.mpr c73
              by_cases c94 : t473 = 10
              ·rw [if_pos c94] at H
               have c94b0 : (t473 == 10) = true := beq_iff_eq.mpr c94
               have c94b1 : (t473 != 10) = false := bne_eq_false_iff_eq.mpr c94
               clear c94
               obtain rfl := Option.some.inj H
               go_wp2
               repeat (go_quiet (fail); try go_wp2)
               go_ret
               exact ⟨erf, bb HB⟩
              ·rw [if_neg c94] at H
               have c94b0 : (t473 == 10) = false := beq_eq_false_iff_ne.mpr c94
               have c94b1 : (t473 != 10) = true := bne_iff_ne.mpr c94
               obtain rfl := Option.some.inj H
               go_wp2
               repeat (go_quiet (fail); try go_wp2)
               go_ret
               exact ⟨erf, bb HB⟩
 ·replace c4 := Bool.eq_false_iff.mpr c4
  subst c4
  replace H := iff_ H
  obtain rfl := Option.some.inj H
  go_enter Try.func7, Try.ntmps7
  go_wp2_with (first | ((with_reducible refine gate_dst (N := 3) rfl ?_); refine box_event ?hg (N := 3) ?hd (cs := #[.int .u8 a1_0, .int .u8 a1_1, .int .u8 a1_2]) (t := 35) ?hr ?_; (case hd => rfl); (case hg => rfl); (case hr => first | (go_simp; done) | (go_simp; rfl)); intro gb456 hg w95 hbox hb; have BK456 := Aside0.mk (hbox); have GW456 := bsz HB hg; have GE456 := bsz HB hg; replace HB := bstep HB hb; clear hb hbox hg) | (go_at_call 12; (with_reducible refine (w4_awake.calls k  false _ A3.out).mono ?_); rintro e w96 ⟨rfl, hb⟩; replace BK456 := bkb BK456 hb; replace HB := bstep HB hb; (try clear hb); (try clear hb2); (try clear hk); (try clear hi)))
  repeat (go_quiet (first | ((with_reducible refine gate_dst (N := 3) rfl ?_); refine box_event ?hg (N := 3) ?hd (cs := #[.int .u8 a1_0, .int .u8 a1_1, .int .u8 a1_2]) (t := 35) ?hr ?_; (case hd => rfl); (case hg => rfl); (case hr => first | (go_simp; done) | (go_simp; rfl)); intro gb456 hg w95 hbox hb; have BK456 := Aside0.mk (hbox); have GW456 := bsz HB hg; have GE456 := bsz HB hg; replace HB := bstep HB hb; clear hb hbox hg) | (go_at_call 12; (with_reducible refine (w4_awake.calls k  false _ A3.out).mono ?_); rintro e w96 ⟨rfl, hb⟩; replace BK456 := bkb BK456 hb; replace HB := bstep HB hb; (try clear hb); (try clear hb2); (try clear hk); (try clear hi))); try go_wp2_with (first | ((with_reducible refine gate_dst (N := 3) rfl ?_); refine box_event ?hg (N := 3) ?hd (cs := #[.int .u8 a1_0, .int .u8 a1_1, .int .u8 a1_2]) (t := 35) ?hr ?_; (case hd => rfl); (case hg => rfl); (case hr => first | (go_simp; done) | (go_simp; rfl)); intro gb456 hg w95 hbox hb; have BK456 := Aside0.mk (hbox); have GW456 := bsz HB hg; have GE456 := bsz HB hg; replace HB := bstep HB hb; clear hb hbox hg) | (go_at_call 12; (with_reducible refine (w4_awake.calls k  false _ A3.out).mono ?_); rintro e w96 ⟨rfl, hb⟩; replace BK456 := bkb BK456 hb; replace HB := bstep HB hb; (try clear hb); (try clear hb2); (try clear hk); (try clear hi))))
  go_ret
  exact ⟨erf, bb HB⟩
end Go.Proofs.Ytfpianecohobjaa.P
