/- typesOrder_holds, typesBounds_holds, typesInherit_holds: a part of the proof that the law returns true for every input. No condition. -/
import Derived.Test.YtfpianecohobjaaAPx0
namespace Go.Proofs.Ytfpianecohobjaa.P
open Go.RowKit Go.Proofs.YtfpianecohobjaaW.PrintWords Go.Proofs.YtfpianecohobjaaW.PrintLast Go.Proofs.YtfpianecohobjaaW.PrintMore
set_option linter.unusedVariables false
set_option linter.unusedSimpArgs false
def slices_Reverse_int_int.l0 : Nat → List Int → Int → Int → Option (List Int)
 | 0, _, _, _ => none
 | k + 1, x0, x2, x3 => if x2 < x3 then (if 0 ≤ x3 then (if x3 < (x0.length : Int) then (if 0 ≤ x2 then (if x2 < (x0.length : Int) then (slices_Reverse_int_int.l0 k ((x0.set (x2 : Int).toNat (rd x0 x3)).set (x3 : Int).toNat (rd x0 x2)) (wrap64 (x2 + 1)) (wrap64 (x3 - 1))) else (none)) else (none)) else (none)) else (none)) else (some x0)
def slices_Reverse_int_int.f (k : Nat) (l0 : List Int) : Option (List Int) := slices_Reverse_int_int.l0 k l0 0 (wrap64 ((l0.length : Int) - 1))
theorem slices_Reverse_int_int.mono_l : ∀ k, (∀ y0 y1 y2, LeO (slices_Reverse_int_int.l0 k y0 y1 y2) (slices_Reverse_int_int.l0 (k + 1) y0 y1 y2))
 | 0 => fun _ _ _ r h => by simp [slices_Reverse_int_int.l0] at h
 | k + 1 => by
  have ih0 := slices_Reverse_int_int.mono_l k
  ·intro y0 y1 y2
   unfold slices_Reverse_int_int.l0
   repeat' first
   | (with_reducible exact ih0 _ _ _)
   | (with_reducible exact LeO.refl _)
   | (with_reducible exact LeO.none _)
   | (with_reducible refine LeO.ite ?_ ?_)
   | (with_reducible refine LeO.bind ?_ (fun _ => ?_))
   | exact ih0 _ _ _
   | exact LeO.none _
   | refine LeO.ite ?_ ?_
   | refine LeO.bind ?_ (fun _ => ?_)
theorem slices_Reverse_int_int.mono : ∀ a0 k, LeO (slices_Reverse_int_int.f k a0) (slices_Reverse_int_int.f (k + 1) a0) := by
 intro a0 k
 have ih0 := slices_Reverse_int_int.mono_l k
 unfold slices_Reverse_int_int.f
 repeat' first
   | (with_reducible exact ih0 _ _ _)
   | (with_reducible exact LeO.refl _)
   | (with_reducible exact LeO.none _)
   | (with_reducible refine LeO.ite ?_ ?_)
   | (with_reducible refine LeO.bind ?_ (fun _ => ?_))
   | exact ih0 _ _ _
   | exact LeO.none _
   | refine LeO.ite ?_ ?_
   | refine LeO.bind ?_ (fun _ => ?_)
def slices_Reverse_int_int.T3 : Bool × List (List Nat × List Nat) := (true, [([], []), ([], []), ([], []), ([], []), ([], []), ([], []), ([4, 5], [4, 5]), ([6], [6]), ([], []), ([], []), ([8, 9], [8, 9]), ([10], [10]), ([0, 1, 0, 1, 4, 5, 6, 7, 11], [0, 1]), ([12, 7, 0, 1, 4, 5, 6, 7, 11], [7, 12]), ([2, 3, 0, 1, 2, 3, 4, 5, 6, 7, 8, 9, 10, 11, 12, 13], [2, 3]), ([14, 11, 13, 0, 1, 2, 3, 4, 5, 6, 7, 8, 9, 10, 11, 12, 13], [11, 14])])
def slices_Reverse_int_int.B3 : List Nat := [0, 0, 0, 0, 0, 0, 48, 112, 0, 0, 768, 1792, 4083, 8179, 16383, 32767]
theorem slices_Reverse_int_int.tab3 : rtab .any (opsOf Try.f73 3) = slices_Reverse_int_int.T3 := by kernel_rfl
theorem slices_Reverse_int_int.bits3 : waitsOk slices_Reverse_int_int.T3.2 slices_Reverse_int_int.B3 = true := by kernel_rfl
set_option maxHeartbeats 8000000 in
set_option maxRecDepth 100000 in
theorem slices_Reverse_int_int.calls (k : Nat) (P0_ : Nat → Prop) (u9000_ : Value) (l0 : List Int) (r : List Int) (w0 w : World) (hB : Below w0.heap.size w0 w) (ho0 : Kd.R (Kd.int .i64) 3 w w0.heap.size P0_ u9000_ l0) (h : slices_Reverse_int_int.f k l0 = some r) :
  Calls Try.prog 73 #[u9000_] w fun e w' => e = .returned (.tuple #[]) ∧ Kd.R (Kd.int .i64) 3 w' w0.heap.size (fun k_ => (P0_ k_ ∨ w.heap.size ≤ k_)) u9000_ r ∧ Below w0.heap.size w0 w' ∧ Kept w w' (fun k_ => P0_ k_) := by
 have HO0 := Aside0.mk (show Kd.R (Kd.int .i64) 3 w w0.heap.size (fun k_ => (P0_ k_ ∨ w.heap.size ≤ k_)) u9000_ l0 from Kd.R_mono ho0 (fun k_ hk => (.inl hk)))
 have HK := Aside0.mk (Kept.refl w (fun k_ => P0_ k_))
 have HW0 := Aside0.mk hB.size
 have HB := Aside0.mk hB
 clear hB
 have H : (slices_Reverse_int_int.l0 k l0 0 (wrap64 ((l0.length : Int) - 1))) = some r := h
 clear h
 have H' := Aside0.mk H
 clear H
 obtain ⟨Ao2, co2, eo2⟩ := Kd.R_slice HO0.out
 subst eo2
 go_enter Try.func73, Try.ntmps73
 go_wp2
 go_loopg [2, 3] k (fun kq v2 v3 w' => ∃ (x0_1 : List Int) (x2_1 : Int) (x3_1 : Int), v2 = .int .i64 x2_1 ∧ v3 = .int .i64 x3_1 ∧ Aside0 (slices_Reverse_int_int.l0 kq x0_1 x2_1 x3_1 = some r) ∧ Aside0 (kq ≤ k) ∧ Aside0 (Kd.R (Kd.int .i64) 3 w' w0.heap.size (fun k_ => (P0_ k_ ∨ w.heap.size ≤ k_)) (.slice Ao2 l0.length co2) x0_1) ∧ Aside0 (Kept w w' (fun k_ => P0_ k_)) ∧ Aside0 (Below w0.heap.size w0 w'))
 case atStart => exact ⟨(l0), (0), (wrap64 ((l0.length : Int) - 1)), eqs, eqs, H', ⟨Nat.le_refl _⟩, ⟨kR HO0⟩, ⟨by repeat (first | (with_reducible first | exact HK.out | apply Kept.alloc | apply Kept.drewN | apply Kept.drew) | exact HK.out)⟩, ⟨bb HB⟩⟩
 case round =>
  clear H'
  try clear p2
  obtain ⟨x0_1, x2_1, x3_1, rfl, rfl, HA, HK1, HO_0, HK, HB⟩ := hrel
  have hl0_1 := (Kd.R_reads' HO_0.out).1
  rw [hl0_1] at HO_0
  (try simp only [hl0_1])
  cases gk with
  | zero => exact absurd HA.out (by simp [slices_Reverse_int_int.l0])
  | succ k1 =>
   have H := HA.out
   clear HA
   simp only [slices_Reverse_int_int.l0] at H
   by_cases c3 : x2_1 < x3_1
   ·rw [if_pos c3] at H
    have c3b0 : decide (x2_1 < x3_1) = true := decide_eq_true c3
    clear c3
    by_cases c4 : 0 ≤ x3_1
    ·rw [if_pos c4] at H
     have c4b0 : decide (0 ≤ x3_1) = true := decide_eq_true c4
     clear c4
     by_cases c5 : x3_1 < (x0_1.length : Int)
     ·rw [if_pos c5] at H
      have c5b0 : decide (x3_1 < (x0_1.length : Int)) = true := decide_eq_true c5
      clear c5
      by_cases c6 : 0 ≤ x2_1
      ·rw [if_pos c6] at H
       have c6b0 : decide (0 ≤ x2_1) = true := decide_eq_true c6
       clear c6
       by_cases c7 : x2_1 < (x0_1.length : Int)
       ·rw [if_pos c7] at H
        have c7b0 : decide (x2_1 < (x0_1.length : Int)) = true := decide_eq_true c7
        clear c7
        obtain ⟨y190, hy190⟩ : ∃ y_ : List Int, y_ = (x0_1.set (x2_1 : Int).toNat (rd x0_1 x3_1)) := ⟨_, rfl⟩
        replace H : (slices_Reverse_int_int.l0 k1 (y190.set (x3_1 : Int).toNat (rd x0_1 x2_1)) (wrap64 (x2_1 + 1)) (wrap64 (x3_1 - 1))) = some r := by first | (rw [hy190]; with_reducible exact H) | (have H2_ := (Option.bind_some _ _).symm.trans H; rw [hy190]; with_reducible exact H2_) | (have H2_ := (Option.bind_some _ _).symm.trans H; with_reducible exact H2_) | with_reducible exact H | (rw [hy190]; exact H) | exact H
        have Ny190 := Aside0.mk hy190
        clear hy190
        obtain ⟨y191, hy191⟩ : ∃ y_ : List Int, y_ = (y190.set (x3_1 : Int).toNat (rd x0_1 x2_1)) := ⟨_, rfl⟩
        replace H : (slices_Reverse_int_int.l0 k1 y191 (wrap64 (x2_1 + 1)) (wrap64 (x3_1 - 1))) = some r := by first | (rw [hy191]; with_reducible exact H) | (have H2_ := (Option.bind_some _ _).symm.trans H; rw [hy191]; with_reducible exact H2_) | (have H2_ := (Option.bind_some _ _).symm.trans H; with_reducible exact H2_) | with_reducible exact H | (rw [hy191]; exact H) | exact H
        have Ny191 := Aside0.mk hy191
        clear hy191
        have H' := Aside0.mk H
        clear H
        try go_wp2
        replace HO_0 := Aside0.mk (Kd.R_drew HO_0.out)
        replace HK := Aside0.mk (Kept.drew HK.out)
        replace HB := Aside0.mk (below_drew1 HB.out)
        have p188 : 0 ≤ x3_1 := odt
        have q188 : x3_1 < (x0_1.length : Int) := odt
        obtain ⟨ad188, e188, hx188_0⟩ := Kd.at_int (Kd.R_reads' HO_0.out).2.2 x3_1 p188 q188
        cases e188
        replace p188 := eq_true p188
        replace q188 := eq_true q188
        have p189 : 0 ≤ x2_1 := odt
        have q189 : x2_1 < (x0_1.length : Int) := odt
        obtain ⟨ad189, e189, hx189_0⟩ := Kd.at_int (Kd.R_reads' HO_0.out).2.2 x2_1 p189 q189
        obtain rfl : ad188 = ad189 := (by injection e189)
        replace p189 := eq_true p189
        replace q189 := eq_true q189
        have p8 : 0 ≤ x2_1 := odt
        have q8 : (x2_1 : Int) < ((x0_1.length : Int) : Int) := odt
        obtain ⟨go8, co8, eo8, gb8, gl8, cl8, HG8⟩ := Kd.R_form HO_0.out (by omega)
        (first | cases eo8 | (injection eo8 with ea_ en_ ec_; (first | subst ea_ | (injection ea_ with ea_; subst ea_)); subst ec_; clear en_))
        have GB8 := Aside0.mk gb8
        have GG8 := Aside0.mk HG8
        clear gb8 gl8 HG8
        have HMgo8 := Aside0.mk (show (P0_ go8 ∨ w.heap.size ≤ go8) from (HO_0.out.1 _ rfl))
        (first | simp only [add_plain] at hx188_0 | skip)
        (first | simp only [add_plain] at hx189_0 | skip)
        obtain ⟨hx8_0, hf8_0⟩ := Kd.R_celln 0 HO_0.out (x2_1 : Int) p8 q8
        replace p8 := eq_true p8
        replace q8 := eq_true q8
        have HP11 := Kd.R_putn HO_0.out (x2_1 : Int) (rd x0_1 x3_1)
        rw [← Ny190.out] at HP11
        have HQ11 := Aside0.mk HP11
        clear HP11
        have p9 : 0 ≤ x3_1 := odt
        have q9 : (x3_1 : Int) < ((x0_1.length : Int) : Int) := odt
        obtain ⟨hx9_0, hf9_0⟩ := Kd.R_celln 0 HQ11.out (x3_1 : Int) p9 q9
        replace p9 := eq_true p9
        replace q9 := eq_true q9
        have HP12 := Kd.R_putn HQ11.out (x3_1 : Int) (rd x0_1 x2_1)
        rw [← Ny191.out] at HP12
        have HQ12 := Aside0.mk HP12
        clear HP12
        refine start_ (n := 16) (S := fun w' => w'.cell? ⟨go8, (x3_1).toNat, none⟩ = some (.int .i64 (rd x0_1 x3_1)) ∧ w'.cell? ⟨go8, (x2_1).toNat, none⟩ = some (.int .i64 (rd x0_1 x2_1))) (ds := [13, 15]) #[false, false, false, false, false, false, false, false, false, false, false, false, false, false, false, false] (by kernel_rfl) rfl rfl ⟨hx188_0, hx189_0⟩ (fun hHeld => ?_); refine with_tabW slices_Reverse_int_int.tab3 slices_Reverse_int_int.bits3 (fun HT_ HW_ => ?_)
        generalize wr.drew = w10 at HO_0 HK HB GG8 HQ11 HQ12 hf8_0 hf9_0 hx188_0 hx189_0 hx8_0 hx9_0 hHeld ⊢
        refine pu 0 14 (bits 16 0x1) HT_ (h := ?_)
        refine pu 1 15 (bits 16 0x3) HT_ (h := ?_)
        refine pu 2 16 (bits 16 0x7) HT_ (h := ?_)
        refine pu 3 17 (bits 16 0xf) HT_ (h := ?_)
        refine pu 4 18 (bits 16 0x1f) HT_ (h := ?_)
        refine pu 5 19 (bits 16 0x3f) HT_ (h := ?_)
        refine pu 6 20 (bits 16 0x7f) HT_ (h := ?_)
        refine pu 8 22 (bits 16 0x17f) HT_ (h := ?_)
        refine pu 9 23 (bits 16 0x37f) HT_ (h := ?_)
        refine pu 10 24 (bits 16 0x77f) HT_ (h := ?_)
        refine tk 7 21 (bits 16 0x7ff) HT_ HW_ hHeld (hy := by rintro w' ⟨s0, s1⟩; go_simp; with_reducible rfl) (h := ?_)
        refine tk 11 25 (bits 16 0xfff) HT_ HW_ hHeld (hy := by rintro w' ⟨s0, s1⟩; go_simp; with_reducible rfl) (h := ?_)
        refine pu 12 26 (bits 16 0x1fff) HT_ (h := ?_)
        refine last_ (i := 13) (N := none) #[true, true, true, true, true, true, true, true, true, true, true, true, true, true, false, false] rfl rfl (one_of HT_.out (by kernel_rfl)) (by decide) (fun K hK => ?_)
        refine skip_ (w1 := ?_) (by rfl) rfl ?_ ?_
        rotate_left
        ·go_simp
         rfl
        refine hK.out _ _ ?_
        clear hK K
        refine pu 14 27 (bits 16 0x7fff) HT_ (h := ?_)
        refine last_ (i := 15) (N := none) #[true, true, true, true, true, true, true, true, true, true, true, true, true, true, true, true] rfl rfl (one_of HT_.out (by kernel_rfl)) (by decide) (fun K hK => ?_)
        refine skip_ (w1 := ?_) (by rfl) rfl ?_ ?_
        rotate_left
        ·go_simp
         rfl
        refine hK.out _ _ ?_
        clear hK K
        refine done_ (done_of HT_.out (by kernel_rfl)) ?_
        try go_wp2
        (try simp only [← hl0_1])
        go_roundg k1
        case measure => have := HK1.out; omega
        case rel => exact ⟨(y191), (wrap64 (x2_1 + 1)), (wrap64 (x3_1 - 1)), eqs, eqs, H', ⟨by have := HK1.out; omega⟩, ⟨by (try simp only [hl0_1]); (with_reducible repeat (first | apply Kd.R_alloc | apply Kd.R_drewN | apply Kd.R_drew)); exact HQ12.out⟩, ⟨by repeat (first | (with_reducible first | exact HK.out | apply Kept.alloc | apply Kept.drewN | apply Kept.drew | refine Kept.setCell ?_ HMgo8.out _ | refine Kept.setCell ?_ HMgo8.out _) | exact HK.out)⟩, ⟨bb HB⟩⟩
       ·rw [if_neg c7] at H
        exact absurd H (by simp)
      ·rw [if_neg c6] at H
       exact absurd H (by simp)
     ·rw [if_neg c5] at H
      exact absurd H (by simp)
    ·rw [if_neg c4] at H
     exact absurd H (by simp)
   ·rw [if_neg c3] at H
    have c3b0 : decide (x2_1 < x3_1) = false := decide_eq_false c3
    clear c3
    obtain rfl := Option.some.inj H
    go_wp2
    first | go_end0 | ((try simp only [Exit.inBlock, Exit.then]); refine bodyPost_ret (results_none rfl _ _ _) rfl ?_)
    exact ⟨erf, (by first | exact (kR HO_0) | (simp only [hl0_1]; exact (kR HO_0))), bb HB, by repeat (first | (with_reducible first | exact HK.out | apply Kept.alloc | apply Kept.drewN | apply Kept.drew) | exact HK.out)⟩
def types_line.l0 : Nat → Int → List Int → List (S68) → List (S71) → Option (List Int)
 | 0, _, _, _, _ => none
 | k + 1, x1, x5, x193000, x193001 => if x1 ≥ 0 then (if x5.length < 17592186044416 then (if 0 ≤ x1 then (if x1 < (x193000.length : Int) then (types_line.l0 k ((rd_T68 x193000 x1).f1) (x5 ++ [x1]) x193000 x193001) else (none)) else (none)) else (none)) else ((slices_Reverse_int_int.f k x5).bind fun t197 => (some t197))
def types_line.f (k : Nat) (l0_0 : List (S68)) (l0_1 : List (S71)) (a1 : Int) : Option (List Int) := types_line.l0 k a1 ([] : List Int) l0_0 l0_1
theorem types_line.mono_l : ∀ k, (∀ y0 y1 y2 y3, LeO (types_line.l0 k y0 y1 y2 y3) (types_line.l0 (k + 1) y0 y1 y2 y3))
 | 0 => fun _ _ _ _ r h => by simp [types_line.l0] at h
 | k + 1 => by
  have ih0 := types_line.mono_l k
  ·intro y0 y1 y2 y3
   unfold types_line.l0
   repeat' first
   | (with_reducible exact ih0 _ _ _ _)
   | (with_reducible exact slices_Reverse_int_int.mono _ _)
   | (with_reducible exact LeO.refl _)
   | (with_reducible exact LeO.none _)
   | (with_reducible refine LeO.ite ?_ ?_)
   | (with_reducible refine LeO.bind ?_ (fun _ => ?_))
   | exact ih0 _ _ _ _
   | exact slices_Reverse_int_int.mono _ _
   | exact LeO.none _
   | refine LeO.ite ?_ ?_
   | refine LeO.bind ?_ (fun _ => ?_)
theorem types_line.mono : ∀ a0 a1 a2 k, LeO (types_line.f k a0 a1 a2) (types_line.f (k + 1) a0 a1 a2) := by
 intro a0 a1 a2 k
 have ih0 := types_line.mono_l k
 unfold types_line.f
 repeat' first
   | (with_reducible exact ih0 _ _ _ _)
   | (with_reducible exact slices_Reverse_int_int.mono _ _)
   | (with_reducible exact LeO.refl _)
   | (with_reducible exact LeO.none _)
   | (with_reducible refine LeO.ite ?_ ?_)
   | (with_reducible refine LeO.bind ?_ (fun _ => ?_))
   | exact ih0 _ _ _ _
   | exact slices_Reverse_int_int.mono _ _
   | exact LeO.none _
   | refine LeO.ite ?_ ?_
   | refine LeO.bind ?_ (fun _ => ?_)
set_option maxHeartbeats 8000000 in
set_option maxRecDepth 100000 in
theorem types_line.calls (k : Nat) (A0_0 : Option Addr) (c0_0 : Nat) (l0_0 : List (S68)) (A0_1 : Option Addr) (c0_1 : Nat) (l0_1 : List (S71)) (a1 : Int) (r : List Int) (w : World) (hr0_0 : Kd.C k68 w A0_0 l0_0.length l0_0) (hc0_0 : l0_0.length ≤ c0_0) (hr0_1 : Kd.C k71 w A0_1 l0_1.length l0_1) (hc0_1 : l0_1.length ≤ c0_1) (h : types_line.f k l0_0 l0_1 a1 = some r) :
  Calls Try.prog 48 #[.agg #[.slice A0_0 l0_0.length c0_0, .slice A0_1 l0_1.length c0_1], .int .i64 a1] w fun e w' => ∃ v0_ : Value, e = .returned (v0_) ∧ Kd.R (Kd.int .i64) 3 w' w.heap.size (fun _ => True) v0_ r ∧ Below w.heap.size w w' := by
 have hu25 := Try.underlying25
 have HR0_0 := Aside0.mk hr0_0
 have HC0_0 := Aside0.mk hc0_0
 clear hr0_0 hc0_0
 have HR0_1 := Aside0.mk hr0_1
 have HC0_1 := Aside0.mk hc0_1
 clear hr0_1 hc0_1
 have HB := Aside0.mk (Below.refl w.heap.size w)
 have H : (types_line.l0 k a1 ([] : List Int) l0_0 l0_1) = some r := h
 clear h
 have H' := Aside0.mk H
 clear H
 go_enter Try.func48, Try.ntmps48
 go_wp2_with (first | ((with_reducible refine gate_dst (N := 2) rfl ?_); refine box_event ?hg (N := 2) ?hd (cs := #[.slice A0_0 l0_0.length c0_0, .slice A0_1 l0_1.length c0_1]) (t := 25) ?hr ?_; (case hd => rfl); (case hg => rfl); (case hr => first | (go_simp; done) | (go_simp; rfl)); intro gb192 hg w3 hbox hb; have BK192 := Aside0.mk (hbox); have GW192 := bsz HB hg; have GE192 := bsz HB hg; replace HB := bstep HB hb; clear hb hbox hg))
 go_loopg [1, 5] k (fun kq v1 v5 w' => ∃ (x1_1 : Int) (x5_1 : List Int), v1 = .int .i64 x1_1 ∧ Aside0 (types_line.l0 kq x1_1 x5_1 l0_0 l0_1 = some r) ∧ Aside0 (kq ≤ k) ∧ Aside0 (Kd.R (Kd.int .i64) 3 w' w.heap.size (fun _ => True) v5 x5_1) ∧ Aside0 (w'.heap[gb192]? = some (.cells #[(.slice A0_0 l0_0.length c0_0), (.slice A0_1 l0_1.length c0_1)] 25 (0, 0))) ∧ Aside0 (Below w.heap.size w w'))
 case atStart => exact ⟨(a1), (([] : List Int)), eqs, H', ⟨Nat.le_refl _⟩, ⟨by first | exact Kd.R_nil _ _ _ _ _ | exact Kd.N_nil _ _ _ _ _ | exact Kd.V_nil _ _ _ _ _ | exact Kd.Q_nil _ _ _ _ _ | exact Kd.S_nil _ _ _ _ _⟩, ⟨bk BK192⟩, ⟨bb HB⟩⟩
 case round =>
  clear H'
  try clear p2
  obtain ⟨x1_1, x5_1, rfl, HA, HK1, HO_5, BK192, HB⟩ := hrel
  cases gk with
  | zero => exact absurd HA.out (by simp [types_line.l0])
  | succ k1 =>
   have H := HA.out
   clear HA
   simp only [types_line.l0] at H
   by_cases c4 : x1_1 ≥ 0
   ·rw [if_pos c4] at H
    have c4b0 : decide (0 ≤ x1_1) = true := decide_eq_true c4
    clear c4
    by_cases c5 : x5_1.length < 17592186044416
    ·rw [if_pos c5] at H
     have LMc5 := Aside0.mk c5
     clear c5
     obtain ⟨y193, hy193⟩ : ∃ y_ : List Int, y_ = (x5_1 ++ [x1_1]) := ⟨_, rfl⟩
     replace H : (if 0 ≤ x1_1 then (if x1_1 < (l0_0.length : Int) then (types_line.l0 k1 ((rd_T68 l0_0 x1_1).f1) y193 l0_0 l0_1) else (none)) else (none)) = some r := by first | (rw [hy193]; with_reducible exact H) | (have H2_ := (Option.bind_some _ _).symm.trans H; rw [hy193]; with_reducible exact H2_) | (have H2_ := (Option.bind_some _ _).symm.trans H; with_reducible exact H2_) | with_reducible exact H | (rw [hy193]; exact H) | exact H
     have Ny193 := Aside0.mk hy193
     clear hy193
     by_cases c6 : 0 ≤ x1_1
     ·rw [if_pos c6] at H
      have c6b0 : decide (0 ≤ x1_1) = true := decide_eq_true c6
      clear c6
      by_cases c7 : x1_1 < (l0_0.length : Int)
      ·rw [if_pos c7] at H
       have c7b0 : decide (x1_1 < (l0_0.length : Int)) = true := decide_eq_true c7
       clear c7
       have H' := Aside0.mk H
       clear H
       go_wp2_with (first | ((with_reducible refine gate_builtin (b := .append) (xs := #[.tmp 14, .tmp 16]) rfl ?_); at_builtin; refine Kd.R_append (Kd.int .i64) (w0 := w) w.heap.size rfl (.tmp 14) (.tmp 16) 42 3 (.int .i64 0) 8 rfl Try.underlying42 info3 rfl (by decide) (by omega) u5 x5_1 x1_1 [.int .i64 x1_1] (fun _ => True) (fun _ => False) rfl rfl ?aP (fun _ hk => hk.elim) ?aF ?aO ?aB ?aS ?aL ?_; (case aP => exact rfl); (case aB => exact (bb HB)); (case aF => exact (fun _ _ => trivial)); (case aO => exact (kR HO_5)); (case aS => exact (below_size (bb HB))); (case aL => have := LMc5.out; omega); intro v194 w8 ho hb hg hat; rw [← Ny193.out] at ho; replace BK192 := Aside0.mk (blk_grown (g := gb192) (o := .cells #[.slice A0_0 l0_0.length c0_0, .slice A0_1 l0_1.length c0_1] 25 (0, 0)) (bk BK192) hg (Kd.R_ne HO_5.out BK192.out (by decide))); replace HB := Aside0.mk (hb); have HO195 := Aside0.mk (ho); clear HO_5 ho hb hg hat; obtain ⟨hcz9_0, hcz9_1, hfz9_0, hfz9_1⟩ := cz2 BK192; have p196 : 0 ≤ x1_1 := odt; have q196 : x1_1 < (l0_0.length : Int) := odt; obtain ⟨ad196, A196_3, c196_3, e196, hx196_0, hx196_1, hx196_2, hx196_3, hl196_3, hi196_3⟩ := at_T68 HR0_0.out x1_1 p196 q196; cases e196; replace hx196_0 := hxc HB hx196_0; replace hx196_1 := hxc HB hx196_1; replace hx196_2 := hxc HB hx196_2; replace hx196_3 := hxc HB hx196_3; have HR196_3 := Aside0.mk hi196_3; have HC196_3 := Aside0.mk hl196_3; clear hi196_3 hl196_3; replace p196 := eq_true p196; replace q196 := eq_true q196))
       go_roundg k1
       case measure => have := HK1.out; omega
       case rel => exact ⟨((rd_T68 l0_0 x1_1).f1), (y193), eqs, H', ⟨by have := HK1.out; omega⟩, ⟨kR HO195⟩, ⟨bk BK192⟩, ⟨bb HB⟩⟩
      ·rw [if_neg c7] at H
       exact absurd H (by simp)
     ·rw [if_neg c6] at H
      exact absurd H (by simp)
    ·rw [if_neg c5] at H
     exact absurd H (by simp)
   ·rw [if_neg c4] at H
    have c4b0 : decide (0 ≤ x1_1) = false := decide_eq_false c4
    clear c4
    replace H := Option.bind_eq_some_iff.mp H
    obtain ⟨t197, A100, H⟩ := H
    replace H : (some t197) = some r := H
    have A10 := Aside0.mk A100
    clear A100
    obtain rfl := Option.some.inj H
    obtain ⟨Ao11, co11, eo11⟩ := Kd.R_slice HO_5.out
    subst eo11
    go_wp2_with (first | ((with_reducible refine gate_callee (f := 73) rfl ?_); refine gl 19 Try.func73 #[.slice Ao11 x5_1.length co11] (h := ?_); (with_reducible refine (slices_Reverse_int_int.calls k1 (fun k_ => some k_ = (.slice Ao11 x5_1.length co11 : Value).ownBlock) (.slice Ao11 x5_1.length co11) x5_1 t197 w _ ?side1 ?side2 A10.out).mono ?_); (case side1 => exact bb HB); (case side2 => exact Kd.R_tight rfl HO_5.out); rintro e w12 ⟨rfl, hy0, hb, hkp⟩; refine ⟨_, rfl, ?_⟩; replace BK192 := Aside0.mk (blk_kept (bk BK192) hkp (fun hs_ => (fun e_ => (Kd.R_ne HO_5.out BK192.out (by decide)) e_) hs_)); replace HO_5 := Aside0.mk (Kd.R_reok rfl hy0 (fun k_ e_ => HO_5.out.1 k_ e_)); replace HB := Aside0.mk (hb); (try clear hb); (try clear hkp); (try clear hy0)))
    go_ret
    exact ⟨_, erf, kR HO_5, bb HB⟩
def slices_Index_int_int.l0 : Nat → List Int → Int → Int → Int → Option (Int)
 | 0, _, _, _, _ => none
 | k + 1, x0, x1, x7, x8 => if x8 < x7 then (if 0 ≤ x8 then (if x8 < (x0.length : Int) then (if x1 = (rd x0 x8) then (some x8) else (slices_Index_int_int.l0 k x0 x1 x7 (wrap64 (x8 + 1)))) else (none)) else (none)) else (some (-1))
def slices_Index_int_int.f (k : Nat) (l0 : List Int) (a1 : Int) : Option (Int) := slices_Index_int_int.l0 k l0 a1 (l0.length : Int) 0
theorem slices_Index_int_int.mono_l : ∀ k, (∀ y0 y1 y2 y3, LeO (slices_Index_int_int.l0 k y0 y1 y2 y3) (slices_Index_int_int.l0 (k + 1) y0 y1 y2 y3))
 | 0 => fun _ _ _ _ r h => by simp [slices_Index_int_int.l0] at h
 | k + 1 => by
  have ih0 := slices_Index_int_int.mono_l k
  ·intro y0 y1 y2 y3
   unfold slices_Index_int_int.l0
   repeat' first
   | (with_reducible exact ih0 _ _ _ _)
   | (with_reducible exact LeO.refl _)
   | (with_reducible exact LeO.none _)
   | (with_reducible refine LeO.ite ?_ ?_)
   | (with_reducible refine LeO.bind ?_ (fun _ => ?_))
   | exact ih0 _ _ _ _
   | exact LeO.none _
   | refine LeO.ite ?_ ?_
   | refine LeO.bind ?_ (fun _ => ?_)
theorem slices_Index_int_int.mono : ∀ a0 a1 k, LeO (slices_Index_int_int.f k a0 a1) (slices_Index_int_int.f (k + 1) a0 a1) := by
 intro a0 a1 k
 have ih0 := slices_Index_int_int.mono_l k
 unfold slices_Index_int_int.f
 repeat' first
   | (with_reducible exact ih0 _ _ _ _)
   | (with_reducible exact LeO.refl _)
   | (with_reducible exact LeO.none _)
   | (with_reducible refine LeO.ite ?_ ?_)
   | (with_reducible refine LeO.bind ?_ (fun _ => ?_))
   | exact ih0 _ _ _ _
   | exact LeO.none _
   | refine LeO.ite ?_ ?_
   | refine LeO.bind ?_ (fun _ => ?_)
set_option maxHeartbeats 8000000 in
set_option maxRecDepth 100000 in
theorem slices_Index_int_int.calls (k : Nat) (A0 : Option Addr) (c0 : Nat) (l0 : List Int) (a1 : Int) (r : Int) (w : World) (hr0 : Kd.C (Kd.int .i64) w A0 l0.length l0) (hc0 : l0.length ≤ c0) (h : slices_Index_int_int.f k l0 a1 = some r) :
  Calls Try.prog 92 #[.slice A0 l0.length c0, .int .i64 a1] w fun e w' => e = .returned (.int .i64 r) ∧ Drawn0 w w' := by
 have HR0 := Aside0.mk hr0
 have HC0 := Aside0.mk hc0
 clear hr0 hc0
 have H : (slices_Index_int_int.l0 k l0 a1 (l0.length : Int) 0) = some r := h
 clear h
 have H' := Aside0.mk H
 clear H
 go_enter Try.func92, Try.ntmps92
 go_wp2
 go_loopg [8] k (fun kq v8 w' => ∃ (x8_1 : Int), v8 = .int .i64 x8_1 ∧ Aside0 (slices_Index_int_int.l0 kq l0 a1 (l0.length : Int) x8_1 = some r) ∧ Aside0 (kq ≤ k) ∧ Drawn0 w w')
 case atStart => exact ⟨(0), eqs, H', ⟨Nat.le_refl _⟩, drw⟩
 case round =>
  clear H'
  try clear p2
  obtain ⟨x8_1, rfl, HA, HK1, ⟨m1, rfl⟩⟩ := hrel
  cases gk with
  | zero => exact absurd HA.out (by simp [slices_Index_int_int.l0])
  | succ k1 =>
   have H := HA.out
   clear HA
   simp only [slices_Index_int_int.l0] at H
   by_cases c3 : x8_1 < (l0.length : Int)
   ·rw [if_pos c3] at H
    have c3b0 : decide (x8_1 < (l0.length : Int)) = true := decide_eq_true c3
    clear c3
    by_cases c4 : 0 ≤ x8_1
    ·rw [if_pos c4] at H
     have c4b0 : decide (0 ≤ x8_1) = true := decide_eq_true c4
     clear c4
     by_cases c5 : x8_1 < (l0.length : Int)
     ·rw [if_pos c5] at H
      have c5b0 : decide (x8_1 < (l0.length : Int)) = true := decide_eq_true c5
      clear c5
      by_cases c6 : a1 = (rd l0 x8_1)
      ·rw [if_pos c6] at H
       have c6b0 : (a1 == (rd l0 x8_1)) = true := beq_iff_eq.mpr c6
       have c6b1 : (a1 != (rd l0 x8_1)) = false := bne_eq_false_iff_eq.mpr c6
       clear c6
       obtain rfl := Option.some.inj H
       have p198 : 0 ≤ x8_1 := odt
       have q198 : x8_1 < (l0.length : Int) := odt
       obtain ⟨ad198, e198, hx198_0⟩ := Kd.at_int HR0.out x8_1 p198 q198
       cases e198
       replace p198 := eq_true p198
       replace q198 := eq_true q198
       go_wp2
       go_ret
       exact ⟨by first | rfl | (simp; done) | (simp [*]; done), drw⟩
      ·rw [if_neg c6] at H
       have c6b0 : (a1 == (rd l0 x8_1)) = false := beq_eq_false_iff_ne.mpr c6
       have c6b1 : (a1 != (rd l0 x8_1)) = true := bne_iff_ne.mpr c6
       have H' := Aside0.mk H
       clear H
       have p198 : 0 ≤ x8_1 := odt
       have q198 : x8_1 < (l0.length : Int) := odt
       obtain ⟨ad198, e198, hx198_0⟩ := Kd.at_int HR0.out x8_1 p198 q198
       cases e198
       replace p198 := eq_true p198
       replace q198 := eq_true q198
       go_wp2
       go_roundg k1
       case measure => have := HK1.out; omega
       case rel => exact ⟨(wrap64 (x8_1 + 1)), eqs, H', ⟨by have := HK1.out; omega⟩, drw⟩
     ·rw [if_neg c5] at H
      exact absurd H (by simp)
    ·rw [if_neg c4] at H
     exact absurd H (by simp)
   ·rw [if_neg c3] at H
    have c3b0 : decide (x8_1 < (l0.length : Int)) = false := decide_eq_false c3
    clear c3
    obtain rfl := Option.some.inj H
    go_wp2
    go_ret
    exact ⟨by first | rfl | (simp; done) | (simp [*]; done), drw⟩
def slices_Contains_int_int.f (k : Nat) (l0 : List Int) (a1 : Int) : Option (Bool) := (slices_Index_int_int.f k l0 a1).bind fun t199 => (some (decide (t199 ≥ 0)))
theorem slices_Contains_int_int.mono : ∀ a0 a1 k, LeO (slices_Contains_int_int.f k a0 a1) (slices_Contains_int_int.f (k + 1) a0 a1) := by
 intro a0 a1 k
 unfold slices_Contains_int_int.f
 repeat' first
   | (with_reducible exact slices_Index_int_int.mono _ _ _)
   | (with_reducible exact LeO.refl _)
   | (with_reducible exact LeO.none _)
   | (with_reducible refine LeO.ite ?_ ?_)
   | (with_reducible refine LeO.bind ?_ (fun _ => ?_))
   | exact slices_Index_int_int.mono _ _ _
   | exact LeO.none _
   | refine LeO.ite ?_ ?_
   | refine LeO.bind ?_ (fun _ => ?_)
set_option maxHeartbeats 8000000 in
set_option maxRecDepth 100000 in
theorem slices_Contains_int_int.calls (k : Nat) (A0 : Option Addr) (c0 : Nat) (l0 : List Int) (a1 : Int) (r : Bool) (w : World) (hr0 : Kd.C (Kd.int .i64) w A0 l0.length l0) (hc0 : l0.length ≤ c0) (h : slices_Contains_int_int.f k l0 a1 = some r) :
  Calls Try.prog 72 #[.slice A0 l0.length c0, .int .i64 a1] w fun e w' => e = .returned (.bool r) ∧ Drawn0 w w' := by
 have HR0 := Aside0.mk hr0
 have HC0 := Aside0.mk hc0
 clear hr0 hc0
 have H : ((slices_Index_int_int.f k l0 a1).bind fun t199 => (some (decide (t199 ≥ 0)))) = some r := h
 clear h
 replace H := Option.bind_eq_some_iff.mp H
 obtain ⟨t199, A30, H⟩ := H
 replace H : (some (decide (t199 ≥ 0))) = some r := H
 have A3 := Aside0.mk A30
 clear A30
 obtain rfl := Option.some.inj H
 go_enter Try.func72, Try.ntmps72
 go_wp2_with (first | ((with_reducible refine gate_callee (f := 92) rfl ?_); refine gl 7 Try.func92 #[.slice A0 l0.length c0, .int .i64 a1] (h := ?_); (with_reducible refine (slices_Index_int_int.calls k _ _ l0 a1 t199 _ ?side1 ?side2 A3.out).mono ?_); (case side1 => repeat (first | exact HR0.out | (with_reducible refine Kd.C_alloc ?_ _) | (with_reducible refine Kd.C_drewN ?_ _) | (with_reducible refine Kd.C_drew ?_))); (case side2 => exact HC0.out); rintro e w' ⟨rfl, ⟨nd, rfl⟩⟩; refine ⟨_, rfl, ?_⟩))
 go_ret
 exact ⟨by first | rfl | (simp; done) | (simp [*]; done), drw⟩
end Go.Proofs.Ytfpianecohobjaa.P
