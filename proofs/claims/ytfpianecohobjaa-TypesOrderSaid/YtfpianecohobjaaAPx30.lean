/- typesOrder_holds, typesBounds_holds, typesInherit_holds: a part of the proof that the law returns true for every input. No condition. -/
import Derived.Test.YtfpianecohobjaaAPx0
import Derived.Test.YtfpianecohobjaaAPx13
import Derived.Test.YtfpianecohobjaaAPx2
import Derived.Test.YtfpianecohobjaaAPx20
import Derived.Test.YtfpianecohobjaaAPx21
import Derived.Test.YtfpianecohobjaaAPx7
import Derived.Test.YtfpianecohobjaaAH0
namespace Go.Proofs.Ytfpianecohobjaa.P
open Go.RowKit Go.Proofs.YtfpianecohobjaaW.PrintWords Go.Proofs.YtfpianecohobjaaW.PrintLast Go.Proofs.YtfpianecohobjaaW.PrintMore
set_option linter.unusedVariables false
set_option linter.unusedSimpArgs false
def types_Attrs.l0 : Nat → List (S77) → Int → Int → Option ((List (S77)) × Int)
 | 0, _, _, _ => none
 | k + 1, x7, x20, x21 => if x21 < x20 then (if 0 ≤ x21 then (if x21 < (x7.length : Int) then ((clone_string.f ((rd_T77 x7 x21).f3)).bind fun t531 => (types_Attrs.l0 k (x7.set (x21 : Int).toNat (⟨(rd_T77 x7 x21).f0, (rd_T77 x7 x21).f1, (rd_T77 x7 x21).f2, t531⟩ : S77)) x20 (wrap64 (x21 + 1)))) else (none)) else (none)) else (some (x7, 0))
def types_Attrs.f (k : Nat) (l0_0 : List (S68)) (l0_1 : List (S71)) (a1 : Int) : Option ((List (S77)) × Int) := (types_given.f k l0_0 l0_1 (([a1] : List Int))).bind fun t526 => (if t526 = 0 then ((types_attrs.f k l0_0 l0_1 a1).bind fun t527 => (types_Attrs.l0 k t527 (t527.length : Int) 0)) else (some (([] : List (S77)), t526)))
set_option maxHeartbeats 8000000 in
set_option maxRecDepth 100000 in
theorem types_Attrs.calls (k : Nat) (P0_0_ : Nat → Prop) (A0_0 : Option Addr) (c0_0 : Nat) (l0_0 : List (S68)) (A0_1 : Option Addr) (c0_1 : Nat) (l0_1 : List (S71)) (a1 : Int) (r1 : List (S77)) (r2 : Int) (w : World) (hs0_0 : Kd.V k68 68 w w.heap.size (fun k_ => P0_0_ k_) (.slice A0_0 l0_0.length c0_0) l0_0) (hr0_1 : Kd.C k71 w A0_1 l0_1.length l0_1) (hc0_1 : l0_1.length ≤ c0_1) (h : types_Attrs.f k l0_0 l0_1 a1 = some (r1, r2)) :
  Calls Try.prog 29 #[.agg #[.slice A0_0 l0_0.length c0_0, .slice A0_1 l0_1.length c0_1], .int .i64 a1] w fun e w' => ∃ v0_ : Value, e = .returned (.tuple #[v0_, .int .i64 r2]) ∧ Kd.N k77 77 w' w.heap.size (fun k_ => (P0_0_ k_ ∨ w.heap.size ≤ k_)) v0_ r1 ∧ Below w.heap.size w w' := by
 have hu25 := Try.underlying25
 have HO0_0 := Aside0.mk (show Kd.V k68 68 w w.heap.size (fun k_ => (P0_0_ k_ ∨ w.heap.size ≤ k_)) (.slice A0_0 l0_0.length c0_0) l0_0 from Kd.V_mono hs0_0 (fun k_ hk => .inl hk))
 have HR0_1 := Aside0.mk hr0_1
 have HC0_1 := Aside0.mk hc0_1
 clear hr0_1 hc0_1
 have HB := Aside0.mk (Below.refl w.heap.size w)
 have H : ((types_given.f k l0_0 l0_1 (([a1] : List Int))).bind fun t526 => (if t526 = 0 then ((types_attrs.f k l0_0 l0_1 a1).bind fun t527 => (types_Attrs.l0 k t527 (t527.length : Int) 0)) else (some (([] : List (S77)), t526)))) = some (r1, r2) := h
 clear h
 obtain ⟨y523, hy523⟩ : ∃ y_ : List Int, y_ = (([a1] : List Int)) := ⟨_, rfl⟩
 replace H : ((types_given.f k l0_0 l0_1 y523).bind fun t526 => (if t526 = 0 then ((types_attrs.f k l0_0 l0_1 a1).bind fun t527 => (types_Attrs.l0 k t527 (t527.length : Int) 0)) else (some (([] : List (S77)), t526)))) = some (r1, r2) := by first | (rw [hy523]; with_reducible exact H) | (have H2_ := (Option.bind_some _ _).symm.trans H; rw [hy523]; with_reducible exact H2_) | (have H2_ := (Option.bind_some _ _).symm.trans H; with_reducible exact H2_) | with_reducible exact H | (rw [hy523]; exact H) | exact H
 have Ny523 := Aside0.mk hy523
 clear hy523
 replace H := Option.bind_eq_some_iff.mp H
 obtain ⟨t526, A30, H⟩ := H
 replace H : (if t526 = 0 then ((types_attrs.f k l0_0 l0_1 a1).bind fun t527 => (types_Attrs.l0 k t527 (t527.length : Int) 0)) else (some (([] : List (S77)), t526))) = some (r1, r2) := H
 have A3 := Aside0.mk A30
 clear A30
 by_cases c4 : t526 = 0
 ·rw [if_pos c4] at H
  have c4b0 : (t526 == 0) = true := beq_iff_eq.mpr c4
  have c4b1 : (t526 != 0) = false := bne_eq_false_iff_eq.mpr c4
  clear c4
  replace H := Option.bind_eq_some_iff.mp H
  obtain ⟨t527, A50, H⟩ := H
  replace H : (types_Attrs.l0 k t527 (t527.length : Int) 0) = some (r1, r2) := H
  have A5 := Aside0.mk A50
  clear A50
  have H' := Aside0.mk H
  clear H
  go_enter Try.func29, Try.ntmps29
  go_wp2_with (first | ((with_reducible refine gate_dst (N := 2) rfl ?_); refine box_event ?hg (N := 2) ?hd (cs := #[.slice A0_0 l0_0.length c0_0, .slice A0_1 l0_1.length c0_1]) (t := 25) ?hr ?_; (case hd => rfl); (case hg => rfl); (case hr => first | (go_simp; done) | (go_simp; rfl)); intro gb522 hg w6 hbox hb; replace HO0_0 := Aside0.mk (Kd.V_below (Kd.V_elderB (kV HO0_0) gb522 (Nat.le_of_eq hg.symm)) hb); have BK522 := Aside0.mk (hbox); have GW522 := bsz HB hg; have GE522 := bsz HB hg; replace HB := bstep HB hb; clear hb hbox hg; obtain ⟨hcz7_0, hcz7_1, hfz7_0, hfz7_1⟩ := cz2 BK522) | ((with_reducible refine gate_dst (N := 11) rfl ?_); refine Kd.R_lit (Kd.int .i64) _ 3 ?hg (N := 11) ?hd (xs := ([a1] : List Int)) (inner := [.int .i64 a1]) (ok := fun _ => True) (okp := fun _ => True) ?hr ?hp (fun _ hk => hk) trivial (Below.refl _ _) (Nat.le_refl _) (by simp) ?_; (case hd => rfl); (case hg => rfl); (case hr => first | (go_simp; done) | (go_simp; rfl)); (case hp => exact (Reps.one (show Kd.M (Kd.int .i64) _ _ _ a1 [.int .i64 a1] from rfl) (Reps.none _ _))); intro v524 w8 ho9 hb hg_ hnew_; clear hg_ hnew_; (first | rw [← Ny523.out] at ho9 | (simp only [Int.reduceToNat] at ho9; rw [← Ny523.out] at ho9)); replace HO0_0 := Aside0.mk (Kd.V_elder' (kV HO0_0) (Kd.R_base ho9) hb); have HO525 := Aside0.mk (Kd.R_lower (Kd.R_newM (M := fun k_ => (w.heap.size ≤ k_)) ho9 (below_size (bb HB)) (fun k_ h_ => h_)) (below_size (bb HB))); replace BK522 := bkb BK522 hb; replace HB := bstep HB hb; clear hb ho9; obtain ⟨Ao10, co10, eo10⟩ := Kd.R_slice HO525.out; subst eo10) | ((with_reducible refine gate_callee (f := 43) rfl ?_); refine gl 12 Try.func43 #[.agg #[.slice A0_0 l0_0.length c0_0, .slice A0_1 l0_1.length c0_1], .slice Ao10 y523.length co10] (h := ?_); (with_reducible refine (types_given.calls k _ _ l0_0 _ _ l0_1 _ _ y523 t526 _ ?side1 ?side2 ?side3 ?side4 ?side5 ?side6 A3.out).mono ?_); (case side1 => repeat (first | exact (Kd.V_reads' HO0_0.out).2.2 | (with_reducible refine Kd.C_alloc ?_ _) | (with_reducible refine Kd.C_drewN ?_ _) | (with_reducible refine Kd.C_drew ?_))); (case side2 => exact (Kd.V_reads' HO0_0.out).2.1); (case side3 => exact cb HR0_1 HB); (case side4 => exact HC0_1.out); (case side5 => repeat (first | exact (Kd.R_reads' HO525.out).2.2 | (with_reducible refine Kd.C_alloc ?_ _) | (with_reducible refine Kd.C_drewN ?_ _) | (with_reducible refine Kd.C_drew ?_))); (case side6 => exact (Kd.R_reads' HO525.out).2.1); rintro e w11 ⟨rfl, hb⟩; refine ⟨_, rfl, ?_⟩; replace HO0_0 := kVb HO0_0 hb; replace HO525 := kRb HO525 hb; replace BK522 := bkb BK522 hb; replace HB := bstep HB hb; (try clear hb); (try clear hb2); (try clear hk); (try clear hi); obtain ⟨hcz12_0, hcz12_1, hfz12_0, hfz12_1⟩ := cz2 BK522) | ((with_reducible refine gate_callee (f := 49) rfl ?_); refine gl 18 Try.func49 #[.agg #[.slice A0_0 l0_0.length c0_0, .slice A0_1 l0_1.length c0_1], .int .i64 a1] (h := ?_); (with_reducible refine (types_attrs.calls k (fun k_ => (((P0_0_ k_ ∨ w.heap.size ≤ k_) ∧ k_ ≠ gb522) ∧ some k_ ≠ (.slice Ao10 y523.length co10 : Value).ownBlock)) _ _ l0_0 _ _ l0_1 a1 t527 _ ?side1 ?side2 ?side3 A5.out).mono ?_); (case side1 => exact HO0_0.out); (case side2 => exact cb HR0_1 HB); (case side3 => exact HC0_1.out); rintro e w13 ⟨v528, rfl, ho0, hb⟩; refine ⟨_, rfl, ?_⟩; replace HO0_0 := Aside0.mk (Kd.V_elder' (kV HO0_0) (Kd.N_base ho0) hb); have HO529 := Aside0.mk (Kd.N_lower (Kd.N_mono (ok' := fun k_ => (P0_0_ k_ ∨ w.heap.size ≤ k_) ∧ some k_ ≠ (.slice Ao10 y523.length co10 : Value).ownBlock ∧ k_ ≠ gb522) ho0 (fun k_ hk_ => ⟨Or.elim hk_ (fun hs_ => hs_.1.1) (fun hn_ => (.inr (Nat.le_trans (below_size (bb HB)) hn_))), Or.elim hk_ (fun hs_ => hs_.2) (fun hn_ => (Kd.fresh' (Kd.R_lt (kR HO525)) k_ hn_)), Or.elim hk_ (fun hs_ => hs_.1.2) (fun hn_ => (Kd.freshB (g := gb522) (o := .cells #[.slice A0_0 l0_0.length c0_0, .slice A0_1 l0_1.length c0_1] 25 (0, 0)) (bk BK522) k_ hn_))⟩)) (below_size (bb HB))); replace HO525 := kRb HO525 hb; replace BK522 := bkb BK522 hb; replace HB := bstep HB hb; (try clear hb); (try clear hb2); (try clear hk); (try clear hi); (try clear ho0); obtain ⟨Ao14, co14, eo14⟩ := Kd.N_slice HO529.out; subst eo14))
  go_loopg [21] k (fun kq v21 w' => ∃ (x7_1 : List (S77)) (x21_1 : Int), v21 = .int .i64 x21_1 ∧ Aside0 (types_Attrs.l0 kq x7_1 (t527.length : Int) x21_1 = some (r1, r2)) ∧ Aside0 (kq ≤ k) ∧ Aside0 (Kd.N k77 77 w' w.heap.size (fun k_ => (P0_0_ k_ ∨ w.heap.size ≤ k_) ∧ k_ ≠ gb522) (.slice Ao14 t527.length co14) x7_1) ∧ Aside0 (Kd.V k68 68 w' w.heap.size (fun k_ => (P0_0_ k_ ∨ w.heap.size ≤ k_) ∧ some k_ ≠ ((.slice Ao14 t527.length co14) : Value).ownBlock ∧ k_ ≠ gb522) (.slice A0_0 l0_0.length c0_0) l0_0) ∧ Aside0 (w'.heap[gb522]? = some (.cells #[(.slice A0_0 l0_0.length c0_0), (.slice A0_1 l0_1.length c0_1)] 25 (0, 0))) ∧ Aside0 (Below w.heap.size w w'))
  case atStart => exact ⟨(t527), (0), eqs, H', ⟨Nat.le_refl _⟩, ⟨by (with_reducible repeat (first | apply Kd.N_alloc | apply Kd.N_drewN | apply Kd.N_drew)); exact Kd.N_mono HO529.out (fun _ hk => ⟨hk.1, hk.2.2⟩)⟩, ⟨by (with_reducible repeat (first | apply Kd.V_alloc | apply Kd.V_drewN | apply Kd.V_drew)); exact Kd.V_mono HO0_0.out (fun _ hk => ⟨hk.1.1.1, ⟨hk.2, hk.1.1.2⟩⟩)⟩, ⟨bk BK522⟩, ⟨bb HB⟩⟩
  case round =>
   clear H'
   try clear c2
   try clear p2
   try clear c4
   try clear c4b0
   try clear c4b1
   try clear hcz12_0
   try clear hcz12_1
   try clear hcz7_0
   try clear hcz7_1
   try clear hfz12_0
   try clear hfz12_1
   try clear hfz7_0
   try clear hfz7_1
   obtain ⟨x7_1, x21_1, rfl, HA, HK1, HO_7, HO_523000, BK522, HB⟩ := hrel
   have hl7_1 := (Kd.N_reads' HO_7.out).1
   rw [hl7_1] at HO_7
   (try simp only [hl7_1])
   (try simp only [hl7_1] at BK522)
   (try simp only [hl7_1] at HO_523000)
   cases gk with
   | zero => exact absurd HA.out (by simp [types_Attrs.l0])
   | succ k1 =>
    have H := HA.out
    clear HA
    simp only [types_Attrs.l0] at H
    by_cases c15 : x21_1 < (t527.length : Int)
    ·rw [if_pos c15] at H
     have c15b0 : decide (x21_1 < (t527.length : Int)) = true := decide_eq_true c15
     clear c15
     by_cases c16 : 0 ≤ x21_1
     ·rw [if_pos c16] at H
      have c16b0 : decide (0 ≤ x21_1) = true := decide_eq_true c16
      clear c16
      by_cases c17 : x21_1 < (x7_1.length : Int)
      ·rw [if_pos c17] at H
       have c17b0 : decide (x21_1 < (x7_1.length : Int)) = true := decide_eq_true c17
       clear c17
       replace H := Option.bind_eq_some_iff.mp H
       obtain ⟨t531, A180, H⟩ := H
       replace H : (types_Attrs.l0 k1 (x7_1.set (x21_1 : Int).toNat (⟨(rd_T77 x7_1 x21_1).f0, (rd_T77 x7_1 x21_1).f1, (rd_T77 x7_1 x21_1).f2, t531⟩ : S77)) (t527.length : Int) (wrap64 (x21_1 + 1))) = some (r1, r2) := H
       have A18 := Aside0.mk A180
       clear A180
       obtain ⟨y534, hy534⟩ : ∃ y_ : List (S77), y_ = (x7_1.set (x21_1 : Int).toNat (⟨(rd_T77 x7_1 x21_1).f0, (rd_T77 x7_1 x21_1).f1, (rd_T77 x7_1 x21_1).f2, t531⟩ : S77)) := ⟨_, rfl⟩
       replace H : (types_Attrs.l0 k1 y534 (t527.length : Int) (wrap64 (x21_1 + 1))) = some (r1, r2) := by first | (rw [hy534]; with_reducible exact H) | (have H2_ := (Option.bind_some _ _).symm.trans H; rw [hy534]; with_reducible exact H2_) | (have H2_ := (Option.bind_some _ _).symm.trans H; with_reducible exact H2_) | with_reducible exact H | (rw [hy534]; exact H) | exact H
       have Ny534 := Aside0.mk hy534
       clear hy534
       have H' := Aside0.mk H
       clear H
       have p530 : 0 ≤ x21_1 := odt
       have q530 : x21_1 < (x7_1.length : Int) := odt
       obtain ⟨ad530, A530_3, c530_3, e530, hx530_0, hx530_1, hx530_2, hx530_3, hl530_3, hi530_3⟩ := at_T77 (Kd.N_reads' HO_7.out).2.2 x21_1 p530 q530
       cases e530
       obtain ⟨ce530, hce530, hMe530, hcc530⟩ := Kd.N_get HO_7.out z77 x21_1 p530 (by first | exact q530 | exact odt | (have e_ := (Kd.N_reads' HO_7.out).1; omega))
       obtain ⟨ua530_3, uc530_3, rfl, ul530_3, ge530_3⟩ := k77_openF hMe530
       have hv530_3 := hcc530 3 _ rfl
       rw [add_field _ _ 3 (by omega)] at hv530_3
       replace hv530_3 := Option.some.inj (hv530_3.symm.trans hx530_3)
       injection hv530_3 with hva_ hvn_ hvc_
       rw [hva_] at ge530_3
       rw [hvc_] at ul530_3
       have HL530_3 := Aside0.mk (show Kd.V Kd.string 9 _ w.heap.size _ _ ((rd_T77 x7_1 x21_1).f3) from Kd.V_mk ul530_3 ge530_3)
       clear hva_ hvn_ hvc_ ge530_3 ul530_3 hcc530 hce530
       have HR530_3 := Aside0.mk hi530_3
       have HC530_3 := Aside0.mk hl530_3
       clear hi530_3 hl530_3
       replace p530 := eq_true p530
       replace q530 := eq_true q530
       go_wp2_with (first | ((with_reducible refine gate_callee (f := 50) rfl ?_); refine gl 31 Try.func50 #[.slice A530_3 ((rd_T77 x7_1 x21_1).f3).length c530_3] (h := ?_); (with_reducible refine (clone_string.calls _ _ ((rd_T77 x7_1 x21_1).f3) t531 _ ?side1 ?side2 A18.out).mono ?_); (case side1 => repeat (first | exact (kC HR530_3) | (with_reducible refine Kd.C_alloc ?_ _) | (with_reducible refine Kd.C_drewN ?_ _) | (with_reducible refine Kd.C_drew ?_))); (case side2 => exact HC530_3.out); rintro e w20 ⟨v532, rfl, ho0, hb⟩; refine ⟨_, rfl, ?_⟩; replace HO_7 := Aside0.mk (Kd.N_elder' (kN HO_7) (Kd.R_base ho0) hb); replace HO_523000 := Aside0.mk (Kd.V_elder' (kV HO_523000) (Kd.R_base ho0) hb); replace HL530_3 := Aside0.mk (Kd.V_elder' (kV HL530_3) (Kd.R_base ho0) hb); have HO533 := Aside0.mk (Kd.R_lower (Kd.R_newM (M := fun k_ => (w.heap.size ≤ k_)) ho0 (below_size (bb HB)) (fun k_ h_ => h_)) (below_size (bb HB))); replace BK522 := bkb BK522 hb; replace HR530_3 := kCb HR530_3 hb; replace HB := bstep HB hb; (try clear hb); (try clear hb2); (try clear hk); (try clear hi); (try clear ho0); obtain ⟨Ao533, co533, eo533⟩ := Kd.R_slice HO533.out; subst eo533; have p19 : 0 ≤ x21_1 := odt; have q19 : (x21_1 : Int) < ((x7_1.length : Int) : Int) := odt; obtain ⟨go19, co19, eo19, gb19, gl19, cl19, HG19⟩ := Kd.N_form HO_7.out (by omega); (first | cases eo19 | (injection eo19 with ea_ en_ ec_; (first | subst ea_ | (injection ea_ with ea_; subst ea_)); subst ec_; clear en_)); have GB19 := Aside0.mk gb19; have GG19 := Aside0.mk HG19; clear gb19 gl19 HG19; (first | simp only [add_plain] at hx530_0 | skip); (first | simp only [add_plain] at hx530_1 | skip); (first | simp only [add_plain] at hx530_2 | skip); (first | simp only [add_plain] at hx530_3 | skip); obtain ⟨ce19, hcl19, hM19, hcc19, hfr19⟩ := Kd.N_elem HO_7.out z77 (x21_1 : Int) p19 q19; obtain ⟨ua19_3, uc19_3, rfl, ul19_3, ge19_3⟩ := k77_openF hM19; have hx19_0 : w20.cell? ⟨go19, (x21_1 : Int).toNat * 4, none⟩ = some (.string ((rd_T77 x7_1 x21_1).f0)) := hcc19 0 _ rfl; have hx19_1 : w20.cell? ⟨go19, (x21_1 : Int).toNat * 4 + 1, none⟩ = some (.int .i64 ((rd_T77 x7_1 x21_1).f1)) := hcc19 1 _ rfl; have hx19_2 : w20.cell? ⟨go19, (x21_1 : Int).toNat * 4 + 2, none⟩ = some (.int .i64 ((rd_T77 x7_1 x21_1).f2)) := hcc19 2 _ rfl; have hx19_3 : w20.cell? ⟨go19, (x21_1 : Int).toNat * 4 + 3, none⟩ = some (.slice ua19_3 ((rd_T77 x7_1 x21_1).f3).length uc19_3) := hcc19 3 _ rfl; have hf19_0 : w20.frozen? ⟨go19, (x21_1 : Int).toNat * 4, none⟩ = false := hfr19 0; have hf19_1 : w20.frozen? ⟨go19, (x21_1 : Int).toNat * 4 + 1, none⟩ = false := hfr19 1; have hf19_2 : w20.frozen? ⟨go19, (x21_1 : Int).toNat * 4 + 2, none⟩ = false := hfr19 2; have hf19_3 : w20.frozen? ⟨go19, (x21_1 : Int).toNat * 4 + 3, none⟩ = false := hfr19 3; clear hcl19 hcc19 hfr19 hM19; replace p19 := eq_true p19; replace q19 := eq_true q19; have n_ := Aside0.mk (Kd.N_mono (ok' := (fun k_ => (P0_0_ k_ ∨ w.heap.size ≤ k_) ∧ some k_ ≠ (.slice Ao533 t531.length co533 : Value).ownBlock ∧ k_ ≠ gb522)) HO_7.out (fun k_ hk => ⟨hk.1.1, ⟨hk.2, hk.1.2⟩⟩)); clear HO_7; have HO_7 := n_; clear n_; have HX21 := Aside0.mk (show Kd.N k77 77 w20 w.heap.size (fun k_ => (P0_0_ k_ ∨ w.heap.size ≤ k_) ∧ k_ ≠ gb522) (.slice (some ⟨go19, 0, none⟩) x7_1.length co14) x7_1 from (by (with_reducible repeat (first | apply Kd.N_alloc | apply Kd.N_drewN | apply Kd.N_drew)); exact Kd.N_mono HO_7.out (fun _ hk => ⟨hk.1, hk.2.2⟩))); obtain ⟨ce21, hcl21, hM21, hcc21, hfr21⟩ := Kd.N_elem HX21.out z77 (x21_1 : Int) (odt) (by have h_ : (x21_1 : Int) < ((x7_1.length : Int) : Int) := odt; first | exact h_ | (have e_ := (Kd.N_reads' HO_7.out).1; omega) | simpa using h_); obtain ⟨ua21_3, uc21_3, rfl, ul21_3, ge21_3⟩ := k77_openF hM21; have HP21 := Kd.N_seg HX21.out (x21_1 : Int) (odt) (by have h_ : (x21_1 : Int) < ((x7_1.length : Int) : Int) := odt; first | exact h_ | (have e_ := (Kd.N_reads' HO_7.out).1; omega) | simpa using h_) (seg := [(.slice Ao533 t531.length co533 : Value)]) (j := 3) hcl21 hcc21 (show 4 ≤ 4 from by decide) (x' := (⟨(rd_T77 x7_1 x21_1).f0, (rd_T77 x7_1 x21_1).f1, (rd_T77 x7_1 x21_1).f2, t531⟩ : S77)) (k77_mkF _ _ (⟨(rd_T77 x7_1 x21_1).f0, (rd_T77 x7_1 x21_1).f1, (rd_T77 x7_1 x21_1).f2, t531⟩ : S77) (Kd.R_reads' (Kd.R_mono (ok' := (fun k_ => ((fun k_ => (P0_0_ k_ ∨ w.heap.size ≤ k_) ∧ k_ ≠ gb522)) k_ ∧ k_ ≠ go19)) (Kd.R_types (Kd.R_apart' (HO533.out) (Kd.N_typed HO_7.out) (by decide)) BK522.out (by decide)) (fun k_ hk => ⟨⟨(.inr (hk.1.1.1)), hk.2⟩, fun e_ => (hk.1.2) (by rw [e_]; rfl)⟩))).2.1 (Kd.R_F (Kd.R_mono (ok' := (fun k_ => ((fun k_ => (P0_0_ k_ ∨ w.heap.size ≤ k_) ∧ k_ ≠ gb522)) k_ ∧ k_ ≠ go19)) (Kd.R_types (Kd.R_apart' (HO533.out) (Kd.N_typed HO_7.out) (by decide)) BK522.out (by decide)) (fun k_ hk => ⟨⟨(.inr (hk.1.1.1)), hk.2⟩, fun e_ => (hk.1.2) (by rw [e_]; rfl)⟩)))) (fun _ hk => hk); have hx21_3 := hcc21 3 _ rfl; (try simp only [show (k77).sz = 4 from rfl, Nat.mul_one, Nat.add_zero] at hx21_3); have hf21_3 := hfr21 3; (try simp only [show (k77).sz = 4 from rfl, Nat.mul_one, Nat.add_zero] at hf21_3); clear hcl21 hcc21 hfr21 hM21) | ((with_reducible refine gate_store (t := 75) (p := 33) rfl ?_); refine store_event (t := 75) (p := 33) (v := ?vo_w22) (w1 := (w20.setCell ⟨go19, (x21_1 : Int).toNat * 4 + 3, none⟩ ((.slice Ao533 t531.length co533 : Value)))) ?hg ?ho ?hn ?hr ?_; (case ho => rfl); (case hg => rfl); (case hn => rfl); (case hr => first | (go_simp; done) | (go_simp; rfl)); intro w22 hw; have hg : w20.grownBy w22 (some go19) := (by rw [hw]; exact HP21.2); have hp_ : Kd.N k77 77 w22 w.heap.size (fun k_ => (P0_0_ k_ ∨ w.heap.size ≤ k_) ∧ k_ ≠ gb522) (.slice (some ⟨go19, 0, none⟩) x7_1.length co14) y534 := (by rw [hw, Ny534.out]; exact HP21.1); clear HP21; replace HO_523000 := Aside0.mk (Kd.V_afterv (v := (.slice (some ⟨go19, 0, none⟩) x7_1.length co14)) (v1 := (.slice (some ⟨go19, 0, none⟩) x7_1.length co14)) (ok := (fun k_ => (P0_0_ k_ ∨ w.heap.size ≤ k_) ∧ some k_ ≠ (.slice Ao533 t531.length co533 : Value).ownBlock ∧ k_ ≠ gb522)) (by (with_reducible repeat (first | apply Kd.V_alloc | apply Kd.V_drewN | apply Kd.V_drew)); exact Kd.V_mono HO_523000.out (fun _ hk => ⟨⟨hk.1.1, ⟨hk.2, hk.1.2.2⟩⟩, hk.1.2.1⟩)) hg (.inl rfl)); replace BK522 := Aside0.mk (blk_grown (g := gb522) (o := .cells #[.slice A0_0 l0_0.length c0_0, .slice A0_1 l0_1.length c0_1] 25 (0, 0)) (bk BK522) hg (Kd.N_ne HO_7.out BK522.out (by decide))); replace HO_7 := Aside0.mk (hp_); replace HL530_3 := Aside0.mk (Kd.V_afterv (v := (.slice (some ⟨go19, 0, none⟩) x7_1.length co14)) (v1 := (.slice (some ⟨go19, 0, none⟩) x7_1.length co14)) (ok := (fun k_ => (P0_0_ k_ ∨ w.heap.size ≤ k_) ∧ some k_ ≠ (.slice Ao533 t531.length co533 : Value).ownBlock ∧ k_ ≠ gb522)) (by (with_reducible repeat (first | apply Kd.V_alloc | apply Kd.V_drewN | apply Kd.V_drew)); exact Kd.V_mono HL530_3.out (fun _ hk => ⟨⟨hk.1.1.1, ⟨hk.2, hk.1.1.2⟩⟩, hk.1.2⟩)) hg (.inl rfl)); replace HB := Aside0.mk ((by rw [hw]; exact below_set (HB.out) GB19.out : Below w.heap.size w w22)); clear HO533 hg hw hp_))
       (try simp only [← hl7_1])
       go_roundg k1
       case measure => have := HK1.out; omega
       case rel => exact ⟨(y534), (wrap64 (x21_1 + 1)), eqs, H', ⟨by have := HK1.out; omega⟩, ⟨by (try simp only [hl7_1]); (with_reducible repeat (first | apply Kd.N_alloc | apply Kd.N_drewN | apply Kd.N_drew)); exact HO_7.out⟩, ⟨by (try simp only [hl7_1]); (with_reducible repeat (first | apply Kd.V_alloc | apply Kd.V_drewN | apply Kd.V_drew)); exact Kd.V_mono HO_523000.out (fun _ hk => ⟨hk.1.1, ⟨hk.2, hk.1.2.2⟩⟩)⟩, ⟨by (try simp only [hl7_1]); (with_reducible repeat (first | refine blk_drewN ?_ _ | refine blk_drew ?_ | refine blk_alloc ?_ _)); exact BK522.out⟩, ⟨bb HB⟩⟩
      ·rw [if_neg c17] at H
       exact absurd H (by simp)
     ·rw [if_neg c16] at H
      exact absurd H (by simp)
    ·rw [if_neg c15] at H
     have c15b0 : decide (x21_1 < (t527.length : Int)) = false := decide_eq_false c15
     clear c15
     (try simp only [hl7_1] at c15b0)
     simp only [Option.some.injEq, Prod.mk.injEq] at H
     obtain ⟨rfl, rfl⟩ := H
     go_wp2
     go_ret2
     exact ⟨_, erf, by (with_reducible repeat (first | apply Kd.N_alloc | apply Kd.N_drewN | apply Kd.N_drew)); exact Kd.N_mono HO_7.out (fun _ hk => hk.1), bb HB⟩
 ·rw [if_neg c4] at H
  have c4b0 : (t526 == 0) = false := beq_eq_false_iff_ne.mpr c4
  have c4b1 : (t526 != 0) = true := bne_iff_ne.mpr c4
  simp only [Option.some.injEq, Prod.mk.injEq] at H
  obtain ⟨rfl, rfl⟩ := H
  go_enter Try.func29, Try.ntmps29
  go_wp2_with (first | ((with_reducible refine gate_dst (N := 2) rfl ?_); refine box_event ?hg (N := 2) ?hd (cs := #[.slice A0_0 l0_0.length c0_0, .slice A0_1 l0_1.length c0_1]) (t := 25) ?hr ?_; (case hd => rfl); (case hg => rfl); (case hr => first | (go_simp; done) | (go_simp; rfl)); intro gb522 hg w23 hbox hb; replace HO0_0 := Aside0.mk (Kd.V_below (Kd.V_elderB (kV HO0_0) gb522 (Nat.le_of_eq hg.symm)) hb); have BK522 := Aside0.mk (hbox); have GW522 := bsz HB hg; have GE522 := bsz HB hg; replace HB := bstep HB hb; clear hb hbox hg; obtain ⟨hcz24_0, hcz24_1, hfz24_0, hfz24_1⟩ := cz2 BK522) | ((with_reducible refine gate_dst (N := 11) rfl ?_); refine Kd.R_lit (Kd.int .i64) _ 3 ?hg (N := 11) ?hd (xs := ([a1] : List Int)) (inner := [.int .i64 a1]) (ok := fun _ => True) (okp := fun _ => True) ?hr ?hp (fun _ hk => hk) trivial (Below.refl _ _) (Nat.le_refl _) (by simp) ?_; (case hd => rfl); (case hg => rfl); (case hr => first | (go_simp; done) | (go_simp; rfl)); (case hp => exact (Reps.one (show Kd.M (Kd.int .i64) _ _ _ a1 [.int .i64 a1] from rfl) (Reps.none _ _))); intro v524 w25 ho26 hb hg_ hnew_; clear hg_ hnew_; (first | rw [← Ny523.out] at ho26 | (simp only [Int.reduceToNat] at ho26; rw [← Ny523.out] at ho26)); replace HO0_0 := Aside0.mk (Kd.V_elder' (kV HO0_0) (Kd.R_base ho26) hb); have HO525 := Aside0.mk (Kd.R_lower (Kd.R_newM (M := fun k_ => (w.heap.size ≤ k_)) ho26 (below_size (bb HB)) (fun k_ h_ => h_)) (below_size (bb HB))); replace BK522 := bkb BK522 hb; replace HB := bstep HB hb; clear hb ho26; obtain ⟨Ao27, co27, eo27⟩ := Kd.R_slice HO525.out; subst eo27) | ((with_reducible refine gate_callee (f := 43) rfl ?_); refine gl 12 Try.func43 #[.agg #[.slice A0_0 l0_0.length c0_0, .slice A0_1 l0_1.length c0_1], .slice Ao27 y523.length co27] (h := ?_); (with_reducible refine (types_given.calls k _ _ l0_0 _ _ l0_1 _ _ y523 t526 _ ?side1 ?side2 ?side3 ?side4 ?side5 ?side6 A3.out).mono ?_); (case side1 => repeat (first | exact (Kd.V_reads' HO0_0.out).2.2 | (with_reducible refine Kd.C_alloc ?_ _) | (with_reducible refine Kd.C_drewN ?_ _) | (with_reducible refine Kd.C_drew ?_))); (case side2 => exact (Kd.V_reads' HO0_0.out).2.1); (case side3 => exact cb HR0_1 HB); (case side4 => exact HC0_1.out); (case side5 => repeat (first | exact (Kd.R_reads' HO525.out).2.2 | (with_reducible refine Kd.C_alloc ?_ _) | (with_reducible refine Kd.C_drewN ?_ _) | (with_reducible refine Kd.C_drew ?_))); (case side6 => exact (Kd.R_reads' HO525.out).2.1); rintro e w28 ⟨rfl, hb⟩; refine ⟨_, rfl, ?_⟩; replace HO0_0 := kVb HO0_0 hb; replace HO525 := kRb HO525 hb; replace BK522 := bkb BK522 hb; replace HB := bstep HB hb; (try clear hb); (try clear hb2); (try clear hk); (try clear hi)))
  go_ret2
  exact ⟨_, erf, by first | exact Kd.S_nil _ _ _ _ _ | exact Kd.N_nil _ _ _ _ _ | exact Kd.V_nil _ _ _ _ _ | exact Kd.Q_nil _ _ _ _ _ | exact Kd.R_nil _ _ _ _ _, bb HB⟩
end Go.Proofs.Ytfpianecohobjaa.P
