/- StatisticOf: a part of its proof. No condition. -/
import Derived.Test.YtfpianecohobjaaVPx0
import Derived.Test.YtfpianecohobjaaVPx28
namespace Go.Proofs.Ytfpianecohobjaa.P
open Go.RowKit Go.Proofs.YtfpianecohobjaaW.PrintWords Go.Proofs.YtfpianecohobjaaW.PrintLast Go.Proofs.YtfpianecohobjaaW.PrintMore
set_option maxHeartbeats 8000000
set_option maxRecDepth 100000
set_option linter.unusedVariables false
set_option linter.unusedSimpArgs false
mutual
def scarfjointref18_Made.j1 : Nat → List (S35) → List (S68) → List (S71) → List Int → Option (List Int × (List (S39)))
 | 0, _, _, _, _ => none
 | k + 1, x2, b6, b5, a9 => scarfjointref18_Made.l1 k x2 0 b6 b5 a9 ([] : List (S39))
def scarfjointref18_Made.l1 : Nat → List (S35) → Int → List (S68) → List (S71) → List Int → List (S39) → Option (List Int × (List (S39)))
 | 0, _, _, _, _, _, _ => none
 | k + 1, x2, e6, b6, b5, a9, d6 => if e6 < (x2.length : Int) then (if e6 < 12 then (if (a9.length : Int) > 0 then (scarfjointref18_Made.j3 k x2 e6 (decide ((b5.length : Int) > 0)) b6 b5 a9 d6) else (scarfjointref18_Made.j3 k x2 e6 false b6 b5 a9 d6)) else (scarfjointref18_Made.j3 k x2 e6 false b6 b5 a9 d6)) else (scarfjointref18_Made.j3 k x2 e6 false b6 b5 a9 d6)
def scarfjointref18_Made.j3 : Nat → List (S35) → Int → Bool → List (S68) → List (S71) → List Int → List (S39) → Option (List Int × (List (S39)))
 | 0, _, _, _, _, _, _, _ => none
 | k + 1, x2, e6, J1, b6, b5, a9, d6 => if J1 = true then (if 0 ≤ e6 then (if e6 < (x2.length : Int) then (if (b5.length : Int) = 0 then (none) else (if (a9.length : Int) = 0 then (none) else (if 0 ≤ (Int.tmod (wrap64 ((rd_T35 x2 e6).f1)) (a9.length : Int)) then (if (Int.tmod (wrap64 ((rd_T35 x2 e6).f1)) (a9.length : Int)) < (a9.length : Int) then (if 0 ≤ (Int.tmod (wrap64 ((rd_T35 x2 e6).f2)) (a9.length : Int)) then (if (Int.tmod (wrap64 ((rd_T35 x2 e6).f2)) (a9.length : Int)) < (a9.length : Int) then ((q4_Fits.f k b6 b5 (Int.tmod (wrap64 ((rd_T35 x2 e6).f0)) (b5.length : Int)) (rd a9 (Int.tmod (wrap64 ((rd_T35 x2 e6).f1)) (a9.length : Int))) (rd a9 (Int.tmod (wrap64 ((rd_T35 x2 e6).f2)) (a9.length : Int)))).bind fun j5 => (if j5 = true then (if d6.length < 5864062014805 then (scarfjointref18_Made.l1 k x2 (wrap64 (e6 + 1)) b6 b5 a9 (d6 ++ [(⟨Int.tmod (wrap64 ((rd_T35 x2 e6).f0)) (b5.length : Int), Int.tmod (wrap64 ((rd_T35 x2 e6).f1)) (a9.length : Int), Int.tmod (wrap64 ((rd_T35 x2 e6).f2)) (a9.length : Int)⟩ : S39)])) else (none)) else (scarfjointref18_Made.l1 k x2 (wrap64 (e6 + 1)) b6 b5 a9 d6))) else (none)) else (none)) else (none)) else (none)))) else (none)) else (none)) else (some (a9, d6))
def scarfjointref18_Made.l0 : Nat → List Int → List (S35) → Int → Int → List (S68) → List (S71) → List Int → Option (List Int × (List (S39)))
 | 0, _, _, _, _, _, _, _ => none
 | k + 1, x1, x2, x3, p9, b6, b5, a9 => if p9 < (x1.length : Int) then (if p9 < x3 then (if 0 ≤ p9 then (if (b6.length : Int) = 0 then (none) else (if a9.length < 17592186044416 then (scarfjointref18_Made.l0 k x1 x2 x3 (wrap64 (p9 + 1)) b6 b5 (a9 ++ [Int.tmod (wrap64 (rd x1 p9)) (b6.length : Int)])) else (none))) else (none)) else (scarfjointref18_Made.j1 k x2 b6 b5 a9)) else (scarfjointref18_Made.j1 k x2 b6 b5 a9)
end
def scarfjointref18_Made.f (k : Nat) (b2 : List (S68)) (a7 : List (S71)) (l1 : List Int) (l2 : List (S35)) (a3 : Int) : Option (List Int × (List (S39))) := scarfjointref18_Made.l0 k l1 l2 a3 0 b2 a7 ([] : List Int)
def scarfjointref18_Made.T5 : Bool × List (List Nat × List Nat) := (true, [([], []), ([0], [0]), ([], []), ([], []), ([2, 3], [2, 3]), ([4], [4]), ([5], [5]), ([], []), ([7], [7]), ([8], [8]), ([6, 9], [6, 9]), ([10], [10]), ([1, 11], [1, 11]), ([0, 1, 2, 3, 4, 5, 6, 7, 8, 9, 10, 11, 12], []), ([13, 12, 12, 0, 1, 2, 3, 4, 5, 6, 7, 8, 9, 10, 11, 12], [12, 13])])
def scarfjointref18_Made.B5 : List Nat := [0, 1, 0, 0, 12, 28, 60, 0, 128, 384, 1020, 2044, 4095, 8191, 16383]
theorem scarfjointref18_Made.tab5 : rtab .any (opsOf Try.f54 5) = scarfjointref18_Made.T5 := by kernel_rfl
theorem scarfjointref18_Made.bits5 : waitsOk scarfjointref18_Made.T5.2 scarfjointref18_Made.B5 = true := by kernel_rfl
def scarfjointref18_Made.T9 : Bool × List (List Nat × List Nat) := (true, [([], []), ([], []), ([0, 1], [0, 1]), ([2], [2]), ([3], [3]), ([4], [4]), ([], []), ([6], [6]), ([7], [7]), ([5, 8], [5, 8]), ([], []), ([], []), ([10, 11], [10, 11]), ([12], [12]), ([13], [13]), ([14], [14]), ([], []), ([16], [16]), ([17], [17]), ([15, 18], [15, 18]), ([], []), ([], []), ([20, 21], [20, 21]), ([22], [22]), ([23], [23]), ([24], [24]), ([], []), ([26], [26]), ([27], [27]), ([25, 28], [25, 28]), ([9, 19, 29], [9, 19, 29]), ([], []), ([31, 30, 0, 1, 2, 3, 4, 5, 6, 7, 8, 9, 10, 11, 12, 13, 14, 15, 16, 17, 18, 19, 20, 21, 22, 23, 24, 25, 26, 27, 28, 29, 30, 31], [30, 31])])
def scarfjointref18_Made.B9 : List Nat := [0, 0, 3, 7, 15, 31, 0, 64, 192, 511, 0, 0, 3072, 7168, 15360, 31744, 0, 65536, 196608, 523264, 0, 0, 3145728, 7340032, 15728640, 32505856, 0, 67108864, 201326592, 535822336, 1073741823, 0, 4294967295]
theorem scarfjointref18_Made.tab9 : rtab .any (opsOf Try.f54 9) = scarfjointref18_Made.T9 := by kernel_rfl
theorem scarfjointref18_Made.bits9 : waitsOk scarfjointref18_Made.T9.2 scarfjointref18_Made.B9 = true := by kernel_rfl
def scarfjointref18_Made.T10 : Bool × List (List Nat × List Nat) := (true, [([], []), ([], []), ([1], [1]), ([], []), ([3], [3]), ([], []), ([5], [5]), ([4, 6], [4, 6]), ([7], [7]), ([], []), ([9], [9]), ([], []), ([11], [11]), ([10, 12], [10, 12]), ([13], [13]), ([0, 2, 8, 14], [0, 2, 8, 14])])
def scarfjointref18_Made.B10 : List Nat := [0, 0, 2, 0, 8, 0, 32, 120, 248, 0, 512, 0, 2048, 7680, 15872, 32767]
theorem scarfjointref18_Made.tab10 : rtab .any (opsOf Try.f54 10) = scarfjointref18_Made.T10 := by kernel_rfl
theorem scarfjointref18_Made.bits10 : waitsOk scarfjointref18_Made.T10.2 scarfjointref18_Made.B10 = true := by kernel_rfl
theorem scarfjointref18_Made.calls (k : Nat) (d5 : Option Addr) (d3 : Nat) (b2 : List (S68)) (d4 : Option Addr) (d2 : Nat) (a7 : List (S71)) (A1 : Option Addr) (c1 : Nat) (l1 : List Int) (A2 : Option Addr) (c2 : Nat) (l2 : List (S35)) (a3 : Int) (r1 : List Int) (r2 : List (S39)) (w : World) (t0 : Kd.C k68 w d5 b2.length b2) (t2 : b2.length ≤ d3) (r9 : Kd.C k71 w d4 a7.length a7) (t1 : a7.length ≤ d2) (x9 : Kd.C (Kd.int .u8) w A1 l1.length l1) (y1 : l1.length ≤ c1) (x8 : Kd.C k35 w A2 l2.length l2) (y0 : l2.length ≤ c2) (h : scarfjointref18_Made.f k b2 a7 l1 l2 a3 = some (r1, r2)) :
  Calls Try.prog 54 #[.agg #[.slice d5 b2.length d3, .slice d4 a7.length d2], .slice A1 l1.length c1, .slice A2 l2.length c2, .int .i64 a3] w fun e w' => ∃ x4 x0 : Value, e = .returned (.agg #[x4, x0]) ∧ Kd.R (Kd.int .i64) 3 w' w.heap.size (fun _ => True) x4 r1 ∧ Kd.R k39 39 w' w.heap.size (fun _ => True) x0 r2 ∧ Below w.heap.size w w' := by
 have hu25 := Try.underlying25
 have hu59 := Try.underlying59
 have hu39 := Try.underlying39
 have t6 := Aside0.mk t0
 have v0 := Aside0.mk t2
 clear t0 t2
 have t5 := Aside0.mk r9
 have t9 := Aside0.mk t1
 clear r9 t1
 have J8 := Aside0.mk x9
 have R7 := Aside0.mk y1
 clear x9 y1
 have o9 := Aside0.mk x8
 have R6 := Aside0.mk y0
 clear x8 y0
 have HB := Aside0.mk (Below.refl w.heap.size w)
 have H : (scarfjointref18_Made.l0 k l1 l2 a3 0 b2 a7 ([] : List Int)) = some (r1, r2) := h
 clear h
 have v3 := Aside0.mk H
 clear H
 go_enter Try.func54, Try.ntmps54
 go_upto_block 0 with (first | ((with_reducible refine gate_dst (N := 4) rfl ?_); (try (refine gate_guard (by rfl) ?_; dsimp only)); refine be 4 #[.slice d5 b2.length d3, .slice d4 a7.length d2] 25 ?_; intro c3 hg w6 hbox hb; have a4 := Aside0.mk (hbox); have P6 := bsz HB hg; replace HB := bstep HB hb; clear hb hbox hg) | ((with_reducible refine gate_dst (N := 8) rfl ?_); (try (refine gate_guard (by rfl) ?_; dsimp only)); refine be 8 #[.slice none 0 0, .slice none 0 0] 59 ?_; intro g8 hg w7 hbox hb; have a6 := Aside0.mk (hbox); have P5 := bsz HB hg; replace HB := bstep HB hb; have n1 := blt a4 hg; have n0 := bgt a4 hg; replace a4 := bkb a4 hb; clear hb hbox hg) | ((with_reducible refine gate_dst (N := 9) rfl ?_); (try (refine gate_guard (by rfl) ?_; dsimp only)); refine be 9 #[.slice none 0 0, .slice none 0 0] 59 ?_; intro b9 hg w8 hbox hb; have a2 := Aside0.mk (hbox); have P4 := bsz HB hg; replace HB := bstep HB hb; have h2 := blt a4 hg; have h0 := bgt a4 hg; replace a4 := bkb a4 hb; have h1 := blt a6 hg; have g9 := bgt a6 hg; replace a6 := bkb a6 hb; clear hb hbox hg))
 (try simp only [Act.put, List.setIfInBounds_toArray, List.set_cons_zero, List.set_cons_succ])
 go_cut [] (fun wc => ∃ (kq : Nat) (a1 : List Int) (b8 : Value), Aside0 (scarfjointref18_Made.j1 kq l2 b2 a7 a1 = some (r1, r2)) ∧ Aside0 (kq ≤ k) ∧ Aside0 (Kd.R (Kd.int .i64) 3 wc w.heap.size (fun _ => True) b8 a1) ∧ Aside0 (wc.heap[c3]? = some (.cells #[(.slice d5 b2.length d3), (.slice d4 a7.length d2)] 25 (0, 0))) ∧ Aside0 (wc.heap[g8]? = some (.cells #[(.slice none 0 0), (.slice none 0 0)] 59 (0, 0))) ∧ Aside0 (wc.heap[b9]? = some (.cells #[b8, (.slice none 0 0)] 59 (0, 0))) ∧ Aside0 (Below w.heap.size w wc))
 case first =>
  have H := v3.out
  clear v3
  have H' := Aside0.mk H
  clear H
  go_wp2
  go_loopg [10] k (fun kq J7 w' => ∃ (d1 : Int) (e7 : List Int) (b8 : Value), J7 = .int .i64 d1 ∧ Aside0 (scarfjointref18_Made.l0 kq l1 l2 a3 d1 b2 a7 e7 = some (r1, r2)) ∧ Aside0 (kq ≤ k) ∧ Aside0 (Kd.R (Kd.int .i64) 3 w' w.heap.size (fun _ => True) b8 e7) ∧ Aside0 (w'.heap[c3]? = some (.cells #[(.slice d5 b2.length d3), (.slice d4 a7.length d2)] 25 (0, 0))) ∧ Aside0 (w'.heap[g8]? = some (.cells #[(.slice none 0 0), (.slice none 0 0)] 59 (0, 0))) ∧ Aside0 (w'.heap[b9]? = some (.cells #[b8, (.slice none 0 0)] 59 (0, 0))) ∧ Aside0 (Below w.heap.size w w'))
  case atStart => exact ⟨(0), (([] : List Int)), (.slice none 0 0), eqs, H', ⟨Nat.le_refl _⟩, ⟨by first | exact Kd.R_nil _ _ _ _ _ | exact Kd.N_nil _ _ _ _ _ | exact Kd.V_nil _ _ _ _ _ | exact Kd.Q_nil _ _ _ _ _ | exact Kd.S_nil _ _ _ _ _⟩, ⟨bk a4⟩, ⟨bk a6⟩, ⟨bk a2⟩, ⟨bb HB⟩⟩
  case round =>
   clear H'
   obtain ⟨d1, e7, b8, rfl, HA, v2, HO_758000, a4, a6, a2, HB⟩ := hrel
   cases gk with
   | zero => exact absurd HA.out (by simp [scarfjointref18_Made.l0])
   | succ k1 =>
    have H := HA.out
    clear HA
    simp only [scarfjointref18_Made.l0] at H
    by_cases c9 : d1 < (l1.length : Int)
    rw [if_pos c9] at H
    have o2 := decide_eq_true c9
    clear c9
    (first | rw [o2] | (simp only [i64_w, i32_w]; rw [o2]) | skip)
    by_cases o8 : d1 < a3
    ·rw [if_pos o8] at H
     have v8 := decide_eq_true o8
     clear o8
     obtain ⟨A0, H⟩ := itn H
     have P3 := decide_eq_true A0
     clear A0
     by_cases q2 : (b2.length : Int) = 0
     ·rw [if_pos q2] at H
      exact absurd H (by simp)
     rw [if_neg q2] at H
     have P2 := beq_eq_false_iff_ne.mpr q2
     have P1 := bne_iff_ne.mpr q2
     have P0 : ¬ (b2 = []) := fun h_ => q2 (by rw [h_]; rfl)
     obtain ⟨y9, H⟩ := itn H
     have w5 := Aside0.mk y9
     clear y9
     obtain ⟨q4, m8⟩ : ∃ y_ : List Int, y_ = (e7 ++ [Int.tmod (wrap64 (rd l1 d1)) (b2.length : Int)]) := ⟨_, rfl⟩
     replace H : (scarfjointref18_Made.l0 k1 l1 l2 a3 (wrap64 (d1 + 1)) b2 a7 q4) = some (r1, r2) := by first | (rw [m8]; with_reducible exact H) | (have H2_ := (Option.bind_some _ _).symm.trans H; rw [m8]; with_reducible exact H2_) | (have H2_ := (Option.bind_some _ _).symm.trans H; with_reducible exact H2_) | with_reducible exact H | (rw [m8]; exact H) | exact H
     have w3 := Aside0.mk m8
     clear m8
     have H' := Aside0.mk H
     clear H
     try go_wp2
     replace HO_758000 := Aside0.mk (Kd.R_drew HO_758000.out)
     replace a4 := Aside0.mk (blk_drew a4.out)
     replace a6 := Aside0.mk (blk_drew a6.out)
     replace a2 := Aside0.mk (blk_drew a2.out)
     replace HB := Aside0.mk (below_drew1 HB.out)
     have q6 : 0 ≤ d1 := odt
     have q5 : d1 < (l1.length : Int) := odt
     obtain ⟨v9, A4, j2⟩ := Kd.at_int J8.out d1 q6 q5
     have j4 := j2
     cases A4
     replace j2 := hxc HB j2
     replace q6 := eq_true q6
     replace q5 := eq_true q5
     refine start_ (n := 15) (S := fun w' => w'.cell? ⟨b9, 0, none⟩ = some (b8) ∧ w'.cell? ⟨b9, 1, none⟩ = some (.slice none 0 0) ∧ w'.cell? ⟨c3, 0, none⟩ = some (.slice d5 b2.length d3) ∧ w'.cell? ⟨c3, 1, none⟩ = some (.slice d4 a7.length d2) ∧ w'.cell? (v9.add (d1).toNat) = some (.int .u8 (rd l1 d1))) (ds := [14]) #[false, false, false, false, false, false, false, false, false, false, false, false, false, false, false] (by kernel_rfl) rfl rfl ⟨bc a2 0, bc a2 1, bc a4 0, bc a4 1, (hxc HB j4)⟩ (fun hHeld => ?_); refine with_tabW scarfjointref18_Made.tab5 scarfjointref18_Made.bits5 (fun HT_ HW_ => ?_)
     generalize wr.drew = R5 at HO_758000 a4 a6 a2 HB j2 hHeld ⊢
     refine pu 0 24 (bits 15 0x1) HT_ (h := ?_)
     refine pu 2 26 (bits 15 0x5) HT_ (h := ?_)
     refine pu 3 27 (bits 15 0xd) HT_ (h := ?_)
     refine pu 4 28 (bits 15 0x1d) HT_ (h := ?_)
     refine pu 7 31 (bits 15 0x9d) HT_ (h := ?_)
     refine tk 1 25 (bits 15 0x9f) HT_ HW_ hHeld (hy := by rintro w' ⟨s0, s1, s2, s3, s4⟩; go_simp; with_reducible rfl) (h := ?_)
     refine tk 5 29 (bits 15 0xbf) HT_ HW_ hHeld (hy := by rintro w' ⟨s0, s1, s2, s3, s4⟩; go_simp; with_reducible rfl) (h := ?_)
     refine pu 6 30 (bits 15 0xff) HT_ (h := ?_)
     refine tk 8 32 (bits 15 0x1ff) HT_ HW_ hHeld (hy := by rintro w' ⟨s0, s1, s2, s3, s4⟩; go_simp; with_reducible rfl) (h := ?_)
     refine pu 9 33 (bits 15 0x3ff) HT_ (h := ?_)
     refine pu 10 34 (bits 15 0x7ff) HT_ (h := ?_)
     refine one_ (i := 11) (N := some 35) #[true, true, true, true, true, true, true, true, true, true, true, true, false, false, false] rfl rfl (one_of HT_.out (by kernel_rfl)) (by decide) (fun K hK => ?_)
     refine value_ (w1 := ?_) (v := ?_) (by rfl) rfl ?_ ?_
     rotate_left 2
     ·go_simp
      constructor
      ·rfl
      ·rfl
     refine hK.out _ _ ⟨(blk_cell (blk_alloc a2.out _) 0).trans rfl, (blk_cell (blk_alloc a2.out _) 1).trans rfl, (blk_cell (blk_alloc a4.out _) 0).trans rfl, (blk_cell (blk_alloc a4.out _) 1).trans rfl, (World.cell?_alloc_lt _ _ _ (World.block_lt_of_cell? _ _ ((hxc HB j4)))).trans ((hxc HB j4))⟩ (fun hHeld => ?_)
     clear hK K
     refine norm_ (a' := ?_) ?_ ?_
     rotate_left
     ·show Act.put _ (some 35) _ = _
      simp only [Act.put, List.setIfInBounds_toArray, List.set_cons_zero, List.set_cons_succ, i64_w, i32_w]
      rfl
     refine one_ (i := 12) (N := some 36) #[true, true, true, true, true, true, true, true, true, true, true, true, true, false, false] rfl rfl (one_of HT_.out (by kernel_rfl)) (by decide) (fun K hK => ?_)
     refine Kd.R_append_step (Kd.int .i64) (w0 := w) w.heap.size (by rfl) (.tmp 25) (.tmp 35) 42 3 (.int .i64 0) 8 rfl Try.underlying42 info3 rfl (by decide) (by omega) b8 e7 (Int.tmod (wrap64 (rd l1 d1)) (b2.length : Int)) [.int .i64 (Int.tmod (wrap64 (rd l1 d1)) (b2.length : Int))] (fun _ => True) (fun _ => False) rfl rfl ?aP (fun _ hk => hk.elim) ?aF ?aO ?aB ?aS ?aL ?_
     (case aP => exact rfl)
     (case aB => exact (bb HB))
     (case aF => exact (fun _ _ => trivial))
     (case aO => exact (kR HO_758000))
     (case aS => exact (below_size (bb HB)))
     (case aL => have := w5.out; omega)
     intro P8 J4 ho hb hg hat
     rw [← w3.out] at ho
     replace a4 := Aside0.mk (blk_grown (g := c3) (o := .cells #[.slice d5 b2.length d3, .slice d4 a7.length d2] 25 (0, 0)) (bk a4) hg (Kd.R_ne HO_758000.out a4.out (by decide)))
     replace a6 := Aside0.mk (blk_grown (g := g8) (o := .cells #[.slice none 0 0, .slice none 0 0] 59 (0, 0)) (bk a6) hg (Kd.R_ne HO_758000.out a6.out (by decide)))
     replace a2 := Aside0.mk (blk_grown (g := b9) (o := .cells #[b8, .slice none 0 0] 59 (0, 0)) (bk a2) hg (Kd.R_ne HO_758000.out a2.out (by decide)))
     replace HB := Aside0.mk (hb)
     have t8 := Aside0.mk (ho)
     clear HO_758000 ho hb hg hat
     obtain ⟨C0, A7, eo16⟩ := Kd.R_slice t8.out
     (first | subst eo16 | (injection eo16 with f1_ f2_ f3_; have f4_ := f1_.symm; have f5_ := f3_.symm; clear f1_ f2_ f3_; subst f4_; subst f5_))
     refine hK.out _ _ ⟨bc a2 0, bc a2 1, bc a4 0, bc a4 1, (hxc HB j4)⟩ (fun hHeld => ?_)
     clear hK K
     refine norm_ (a' := ?_) ?_ ?_
     rotate_left
     ·show Act.put _ (some 36) _ = _
      simp only [Act.put, List.setIfInBounds_toArray, List.set_cons_zero, List.set_cons_succ, i64_w, i32_w]
      rfl
     refine pu 13 37 (bits 15 0x3fff) HT_ (h := ?_)
     refine last_ (i := 14) (N := none) #[true, true, true, true, true, true, true, true, true, true, true, true, true, true, true] rfl rfl (one_of HT_.out (by kernel_rfl)) (by decide) (fun K hK => ?_)
     have Q5 : J4.cell? ⟨b9, 0, none⟩ = some (b8) := bc a2 0
     have N7 := blk_frozen a2.out 0
     have E0 := h2.out
     have D9 := h1.out
     have G0 := h0.out
     have F9 := g9.out
     refine skip_ (w1 := ?_) (by rfl) rfl ?_ ?_
     rotate_left
     ·go_simp
      rfl
     refine hK.out _ _ ?_
     clear hK K
     refine done_ (done_of HT_.out (by kernel_rfl)) ?_
     try go_wp2
     go_roundg k1
     case measure => have := v2.out; omega
     case rel => exact ⟨(wrap64 (d1 + 1)), (q4), (.slice C0 q4.length A7), eqs, H', ⟨by have := v2.out; omega⟩, ⟨ktm t8 a2 (fun _ hk => trivial)⟩, ⟨bkF a4⟩, ⟨bkF a6⟩, ⟨bkP a2⟩, ⟨bb HB⟩⟩
    rw [if_neg o8] at H
    have v8 := decide_eq_false o8
    clear o8
    have H' := Aside0.mk H
    clear H
    rotate_left
    rw [if_neg c9] at H
    have o2 := decide_eq_false c9
    clear c9
    (first | rw [o2] | (simp only [i64_w, i32_w]; rw [o2]) | skip)
    have H' := Aside0.mk H
    clear H
    all_goals
     go_wp2
     go_meet
     case rel => exact ⟨_, (e7), (b8), H', ⟨by have := v2.out; first | omega | exact Nat.le_refl _⟩, ⟨kR HO_758000⟩, ⟨bk a4⟩, ⟨bk a6⟩, ⟨bk a2⟩, ⟨bb HB⟩⟩
 case rest =>
  clear v3
  obtain ⟨kq, a1, b8, HA, o4, HO_758000, a4, a6, a2, HB⟩ := hcut
  cases kq with
  | zero => exact absurd HA.out (by simp [scarfjointref18_Made.j1])
  | succ x6 =>
   have H := HA.out
   clear HA
   simp only [scarfjointref18_Made.j1] at H
   have H' := Aside0.mk H
   clear H
   go_wp2
   go_loopg [11] x6 (fun kq J6 w' => ∃ (a0 : Int) (b4 : List (S39)) (b7 : Value), J6 = .int .i64 a0 ∧ Aside0 (scarfjointref18_Made.l1 kq l2 a0 b2 a7 a1 b4 = some (r1, r2)) ∧ Aside0 (kq ≤ x6) ∧ Aside0 (Kd.R (Kd.int .i64) 3 w' w.heap.size (fun _ => True) b8 a1) ∧ Aside0 (Kd.R k39 39 w' w.heap.size (fun _ => True) b7 b4) ∧ Aside0 (w'.heap[c3]? = some (.cells #[(.slice d5 b2.length d3), (.slice d4 a7.length d2)] 25 (0, 0))) ∧ Aside0 (w'.heap[g8]? = some (.cells #[(.slice none 0 0), (.slice none 0 0)] 59 (0, 0))) ∧ Aside0 (w'.heap[b9]? = some (.cells #[b8, b7] 59 (0, 0))) ∧ Aside0 (Below w.heap.size w w'))
   case atStart => exact ⟨(0), (([] : List (S39))), (.slice none 0 0), eqs, H', ⟨Nat.le_refl _⟩, ⟨kR HO_758000⟩, ⟨by first | exact Kd.R_nil _ _ _ _ _ | exact Kd.N_nil _ _ _ _ _ | exact Kd.V_nil _ _ _ _ _ | exact Kd.Q_nil _ _ _ _ _ | exact Kd.S_nil _ _ _ _ _⟩, ⟨bk a4⟩, ⟨bk a6⟩, ⟨bk a2⟩, ⟨bb HB⟩⟩
   case round =>
    clear H'
    obtain ⟨a0, b4, b7, rfl, HA, o3, HO_758000, HO_758001, a4, a6, a2, HB⟩ := hrel
    cases gk with
    | zero => exact absurd HA.out (by simp [scarfjointref18_Made.l1])
    | succ k2 =>
     have H := HA.out
     clear HA
     simp only [scarfjointref18_Made.l1] at H
     have r6 := Aside0.mk H
     clear H
     go_upto_region 7 with (fail)
     go_cut [57] (fun J5 wc => ∃ (kq : Nat) (m6 : Bool), J5 = .bool m6 ∧ Aside0 (scarfjointref18_Made.j3 kq l2 a0 m6 b2 a7 a1 b4 = some (r1, r2)) ∧ Aside0 (kq ≤ k2) ∧ Aside0 (Kd.R (Kd.int .i64) 3 wc w.heap.size (fun _ => True) b8 a1) ∧ Aside0 (Kd.R k39 39 wc w.heap.size (fun _ => True) b7 b4) ∧ Aside0 (wc.heap[c3]? = some (.cells #[(.slice d5 b2.length d3), (.slice d4 a7.length d2)] 25 (0, 0))) ∧ Aside0 (wc.heap[g8]? = some (.cells #[(.slice none 0 0), (.slice none 0 0)] 59 (0, 0))) ∧ Aside0 (wc.heap[b9]? = some (.cells #[b8, b7] 59 (0, 0))) ∧ Aside0 (Below w.heap.size w wc))
     case first =>
      have H := r6.out
      clear r6
      by_cases o7 : a0 < (l2.length : Int)
      rotate_left
      ·rw [if_neg o7] at H
       have m9 := decide_eq_false o7
       clear o7
       (first | rw [m9] | (simp only [i64_w, i32_w]; rw [m9]) | skip)
       have H' := Aside0.mk H
       clear H
       go_wp2
       go_meet
       case rel => exact ⟨_, (false), eqs, H', ⟨by have := o4.out; have := o3.out; first | omega | exact Nat.le_refl _⟩, ⟨kR HO_758000⟩, ⟨kR HO_758001⟩, ⟨bk a4⟩, ⟨bk a6⟩, ⟨bk a2⟩, ⟨bb HB⟩⟩
      rw [if_pos o7] at H
      have m9 := decide_eq_true o7
      clear o7
      (first | rw [m9] | (simp only [i64_w, i32_w]; rw [m9]) | skip)
      by_cases o6 : a0 < 12
      rotate_left
      ·rw [if_neg o6] at H
       have v7 := decide_eq_false o6
       clear o6
       have H' := Aside0.mk H
       clear H
       go_wp2
       go_meet
       case rel => exact ⟨_, (false), eqs, H', ⟨by have := o4.out; have := o3.out; first | omega | exact Nat.le_refl _⟩, ⟨kR HO_758000⟩, ⟨kR HO_758001⟩, ⟨bk a4⟩, ⟨bk a6⟩, ⟨bk a2⟩, ⟨bb HB⟩⟩
      rw [if_pos o6] at H
      have v7 := decide_eq_true o6
      clear o6
      by_cases o5 : (a1.length : Int) > 0
      rw [if_pos o5] at H
      have v6 : decide (0 < (a1.length : Int)) = true := decide_eq_true o5
      have v5 : decide (0 < a1.length) = true := decide_eq_true (by omega)
      clear o5
      have H' := Aside0.mk H
      clear H
      rotate_left
      rw [if_neg o5] at H
      have v6 : decide (0 < (a1.length : Int)) = false := decide_eq_false o5
      have v5 : decide (0 < a1.length) = false := decide_eq_false (by omega)
      clear o5
      have H' := Aside0.mk H
      clear H
      all_goals
       have N0 := h0.out
       have L9 := h2.out
       have M9 := g9.out
       have L8 := h1.out
       obtain ⟨J0, I9, H5, H4⟩ := cz2 a2
       obtain ⟨Q7, Q6, eo25⟩ := Kd.R_slice HO_758000.out
       subst eo25
       have M8 := n1.out
       have L7 := n0.out
       obtain ⟨I8, I7, H3, H2⟩ := cz2 a4
       go_wp2
       go_meet
       case rel => exact ⟨_, _, eqs, H', ⟨by have := o4.out; have := o3.out; first | omega | exact Nat.le_refl _⟩, ⟨kR HO_758000⟩, ⟨kR HO_758001⟩, ⟨bk a4⟩, ⟨bk a6⟩, ⟨bk a2⟩, ⟨bb HB⟩⟩
     case rest =>
      clear r6
      obtain ⟨kq, m6, rfl, HA, p8, HO_758000, HO_758001, a4, a6, a2, HB⟩ := hcut
      cases kq with
      | zero => exact absurd HA.out (by simp [scarfjointref18_Made.j3])
      | succ h5 =>
       have H := HA.out
       clear HA
       simp only [scarfjointref18_Made.j3] at H
       by_cases t4 : m6 = true
       rotate_left
       ·replace t4 := Bool.eq_false_iff.mpr t4
        subst t4
        replace H := iff_ H
        simp only [Option.some.injEq, Prod.mk.injEq] at H
        obtain ⟨rfl, rfl⟩ := H
        have M2 := h0.out
        have L1 := h2.out
        have M1 := g9.out
        have L0 := h1.out
        obtain ⟨H9, H8, G4, G3⟩ := cz2 a2
        obtain ⟨v4, v1, eo77⟩ := Kd.R_slice HO_758000.out
        subst eo77
        have M0 := n0.out
        have J9 := n1.out
        obtain ⟨H7, H6, G2, G1⟩ := cz2 a6
        obtain ⟨A8, A5, eo80⟩ := Kd.R_slice HO_758001.out
        subst eo80
        go_wp2
        refine bodyPost_ret (results_cell_row rfl _ _ g8 59 #[.slice v4 a1.length v1, .slice A8 b4.length A5] (0, 0) _ rfl (by (with_reducible repeat (first | refine dN ?_ _ | refine dR ?_ | refine dA ?_ _)); refine blk_put (cs := #[.slice v4 a1.length v1, .slice none 0 0]) ?_ 1 _ rfl; refine blk_put (cs := #[.slice none 0 0, .slice none 0 0]) ?_ 0 _ rfl; (with_reducible repeat (first | refine dN ?_ _ | refine dR ?_ | refine dA ?_ _)); exact a6.out) Try.underlying59 rfl (by kernel_rfl)) rfl ?_
        exact ⟨_, _, erf, ktm HO_758000 a6 (fun _ hk => trivial), ktm HO_758001 a6 (fun _ hk => trivial), bb HB⟩
       subst t4
       replace H := ift H
       obtain ⟨y8, H⟩ := itn H
       have O9 := decide_eq_true y8
       clear y8
       obtain ⟨y7, H⟩ := itn H
       have O8 := decide_eq_true y7
       clear y7
       by_cases q1 : (a7.length : Int) = 0
       ·rw [if_pos q1] at H
        exact absurd H (by simp)
       rw [if_neg q1] at H
       have O7 := beq_eq_false_iff_ne.mpr q1
       have O6 := bne_iff_ne.mpr q1
       have O5 : ¬ (a7 = []) := fun h_ => q1 (by rw [h_]; rfl)
       by_cases q0 : (a1.length : Int) = 0
       ·rw [if_pos q0] at H
        exact absurd H (by simp)
       rw [if_neg q0] at H
       have O4 := beq_eq_false_iff_ne.mpr q0
       have O3 := bne_iff_ne.mpr q0
       have O2 : ¬ (a1 = []) := fun h_ => q0 (by rw [h_]; rfl)
       obtain ⟨b1, n3⟩ : ∃ j_ : Int, (Int.tmod (wrap64 ((rd_T35 l2 a0).f1)) (a1.length : Int)) = j_ := ⟨_, rfl⟩
       replace H : (if 0 ≤ (b1) then (if (b1) < (a1.length : Int) then (if 0 ≤ (Int.tmod (wrap64 ((rd_T35 l2 a0).f2)) (a1.length : Int)) then (if (Int.tmod (wrap64 ((rd_T35 l2 a0).f2)) (a1.length : Int)) < (a1.length : Int) then ((q4_Fits.f h5 b2 a7 (Int.tmod (wrap64 ((rd_T35 l2 a0).f0)) (a7.length : Int)) (rd a1 (b1)) (rd a1 (Int.tmod (wrap64 ((rd_T35 l2 a0).f2)) (a1.length : Int)))).bind fun j5 => (if j5 = true then (if b4.length < 5864062014805 then (scarfjointref18_Made.l1 h5 l2 (wrap64 (a0 + 1)) b2 a7 a1 (b4 ++ [(⟨Int.tmod (wrap64 ((rd_T35 l2 a0).f0)) (a7.length : Int), b1, Int.tmod (wrap64 ((rd_T35 l2 a0).f2)) (a1.length : Int)⟩ : S39)])) else (none)) else (scarfjointref18_Made.l1 h5 l2 (wrap64 (a0 + 1)) b2 a7 a1 b4))) else (none)) else (none)) else (none)) else (none)) = some (r1, r2) := by first | (rw [n3] at H; exact H) | (simp only [n3] at H ⊢; exact H)
       obtain ⟨y6, H⟩ := itn H
       have O1 := decide_eq_true y6
       clear y6
       obtain ⟨y5, H⟩ := itn H
       have O0 := decide_eq_true y5
       clear y5
       obtain ⟨b3, n2⟩ : ∃ j_ : Int, (Int.tmod (wrap64 ((rd_T35 l2 a0).f2)) (a1.length : Int)) = j_ := ⟨_, rfl⟩
       replace H : (if 0 ≤ (b3) then (if (b3) < (a1.length : Int) then ((q4_Fits.f h5 b2 a7 (Int.tmod (wrap64 ((rd_T35 l2 a0).f0)) (a7.length : Int)) (rd a1 (b1)) (rd a1 (b3))).bind fun j5 => (if j5 = true then (if b4.length < 5864062014805 then (scarfjointref18_Made.l1 h5 l2 (wrap64 (a0 + 1)) b2 a7 a1 (b4 ++ [(⟨Int.tmod (wrap64 ((rd_T35 l2 a0).f0)) (a7.length : Int), b1, b3⟩ : S39)])) else (none)) else (scarfjointref18_Made.l1 h5 l2 (wrap64 (a0 + 1)) b2 a7 a1 b4))) else (none)) else (none)) = some (r1, r2) := by first | (rw [n2] at H; exact H) | (simp only [n2] at H ⊢; exact H)
       obtain ⟨y4, H⟩ := itn H
       have N9 := decide_eq_true y4
       clear y4
       obtain ⟨y3, H⟩ := itn H
       have N8 := decide_eq_true y3
       clear y3
       obtain ⟨j5, A3, H⟩ := obA H
       by_cases t3 : j5 = true
       rotate_left
       ·replace t3 := Bool.eq_false_iff.mpr t3
        subst t3
        replace H := iff_ H
        have H' := Aside0.mk H
        clear H
        try go_wp2
        replace HO_758000 := Aside0.mk (Kd.R_drew HO_758000.out)
        replace HO_758001 := Aside0.mk (Kd.R_drew HO_758001.out)
        replace a4 := Aside0.mk (blk_drew a4.out)
        replace a6 := Aside0.mk (blk_drew a6.out)
        replace a2 := Aside0.mk (blk_drew a2.out)
        replace HB := Aside0.mk (below_drew1 HB.out)
        have m5 : 0 ≤ a0 := odt
        have m0 : a0 < (l2.length : Int) := odt
        obtain ⟨b0, r3, e5, e4, e3⟩ := at_T35 o9.out a0 m5 m0
        have g4 := e3
        have g5 := e4
        have g6 := e5
        cases r3
        replace e5 := hxc HB e5
        replace e4 := hxc HB e4
        replace e3 := hxc HB e3
        replace m5 := eq_true m5
        replace m0 := eq_true m0
        have m4 : 0 ≤ a0 := odt
        have j9 : a0 < (l2.length : Int) := odt
        obtain ⟨p7, r0, e2, e1, e0⟩ := at_T35 o9.out a0 m4 j9
        have g1 := e0
        have g2 := e1
        have g3 := e2
        obtain rfl : b0 = p7 := (by injection r0)
        replace e2 := hxc HB e2
        replace e1 := hxc HB e1
        replace e0 := hxc HB e0
        replace m4 := eq_true m4
        replace j9 := eq_true j9
        obtain ⟨r7, p4, eo66⟩ := Kd.R_slice HO_758000.out
        (first | subst eo66 | (injection eo66 with f1_ f2_ f3_; have f4_ := f1_.symm; have f5_ := f3_.symm; clear f1_ f2_ f3_; subst f4_; subst f5_))
        have m3 : 0 ≤ a0 := odt
        have j8 : a0 < (l2.length : Int) := odt
        obtain ⟨p6, q9, d9, d8, d7⟩ := at_T35 o9.out a0 m3 j8
        have e8 := d7
        have e9 := d8
        have g0 := d9
        obtain rfl : b0 = p6 := (by injection q9)
        replace d9 := hxc HB d9
        replace d8 := hxc HB d8
        replace d7 := hxc HB d7
        replace m3 := eq_true m3
        replace j8 := eq_true j8
        refine start_ (n := 33) (S := fun w' => w'.cell? ⟨c3, 0, none⟩ = some (.slice d5 b2.length d3) ∧ w'.cell? ⟨c3, 1, none⟩ = some (.slice d4 a7.length d2) ∧ w'.cell? ⟨b9, 0, none⟩ = some (.slice r7 a1.length p4) ∧ w'.cell? ⟨b9, 1, none⟩ = some (b7) ∧ w'.cell? (b0.add ((a0).toNat * 3)) = some (.int .u8 ((rd_T35 l2 a0).f0)) ∧ w'.cell? ⟨(b0.add ((a0).toNat * 3)).block, (b0.add ((a0).toNat * 3)).off + 1, none⟩ = some (.int .u8 ((rd_T35 l2 a0).f1)) ∧ w'.cell? ⟨(b0.add ((a0).toNat * 3)).block, (b0.add ((a0).toNat * 3)).off + 2, none⟩ = some (.int .u8 ((rd_T35 l2 a0).f2)) ∧ w'.cell? (b0.add ((a0).toNat * 3)) = some (.int .u8 ((rd_T35 l2 a0).f0)) ∧ w'.cell? ⟨(b0.add ((a0).toNat * 3)).block, (b0.add ((a0).toNat * 3)).off + 1, none⟩ = some (.int .u8 ((rd_T35 l2 a0).f1)) ∧ w'.cell? ⟨(b0.add ((a0).toNat * 3)).block, (b0.add ((a0).toNat * 3)).off + 2, none⟩ = some (.int .u8 ((rd_T35 l2 a0).f2)) ∧ w'.cell? (b0.add ((a0).toNat * 3)) = some (.int .u8 ((rd_T35 l2 a0).f0)) ∧ w'.cell? ⟨(b0.add ((a0).toNat * 3)).block, (b0.add ((a0).toNat * 3)).off + 1, none⟩ = some (.int .u8 ((rd_T35 l2 a0).f1)) ∧ w'.cell? ⟨(b0.add ((a0).toNat * 3)).block, (b0.add ((a0).toNat * 3)).off + 2, none⟩ = some (.int .u8 ((rd_T35 l2 a0).f2))) (ds := []) #[false, false, false, false, false, false, false, false, false, false, false, false, false, false, false, false, false, false, false, false, false, false, false, false, false, false, false, false, false, false, false, false, false] (by kernel_rfl) rfl rfl ⟨bc a4 0, bc a4 1, bc a2 0, bc a2 1, (hxc HB g6), (hxc HB g5), (hxc HB g4), (hxc HB g3), (hxc HB g2), (hxc HB g1), (hxc HB g0), (hxc HB e9), (hxc HB e8)⟩ (fun hHeld => ?_); refine with_tabW scarfjointref18_Made.tab9 scarfjointref18_Made.bits9 (fun HT_ HW_ => ?_)
        generalize wc.drew = R0 at HO_758000 HO_758001 a4 a6 a2 HB e5 e4 e3 e2 e1 e0 d9 d8 d7 hHeld ⊢
        refine pu 0 60 (bits 33 0x1) HT_ (h := ?_)
        refine pu 1 61 (bits 33 0x3) HT_ (h := ?_)
        refine pu 2 62 (bits 33 0x7) HT_ (h := ?_)
        refine pu 3 63 (bits 33 0xf) HT_ (h := ?_)
        refine pu 6 66 (bits 33 0x4f) HT_ (h := ?_)
        refine pu 10 70 (bits 33 0x44f) HT_ (h := ?_)
        refine pu 11 71 (bits 33 0xc4f) HT_ (h := ?_)
        refine pu 12 72 (bits 33 0x1c4f) HT_ (h := ?_)
        refine pu 13 73 (bits 33 0x3c4f) HT_ (h := ?_)
        refine pu 16 76 (bits 33 0x13c4f) HT_ (h := ?_)
        refine pu 20 80 (bits 33 0x113c4f) HT_ (h := ?_)
        refine pu 21 81 (bits 33 0x313c4f) HT_ (h := ?_)
        refine pu 22 82 (bits 33 0x713c4f) HT_ (h := ?_)
        refine pu 23 83 (bits 33 0xf13c4f) HT_ (h := ?_)
        refine pu 26 86 (bits 33 0x4f13c4f) HT_ (h := ?_)
        refine tk 4 64 (bits 33 0x4f13c5f) HT_ HW_ hHeld (hy := by rintro w' ⟨s0, s1, s2, s3, s4, s5, s6, s7, s8, s9, j0, h9, h8⟩; go_simp; with_reducible rfl) (h := ?_)
        refine pu 5 65 (bits 33 0x4f13c7f) HT_ (h := ?_)
        refine tk 7 67 (bits 33 0x4f13cff) HT_ HW_ hHeld (hy := by rintro w' ⟨s0, s1, s2, s3, s4, s5, s6, s7, s8, s9, j0, h9, h8⟩; go_simp; with_reducible rfl) (h := ?_)
        refine pu 8 68 (bits 33 0x4f13dff) HT_ (h := ?_)
        refine pu 9 69 (bits 33 0x4f13fff) HT_ (h := ?_)
        refine tk 14 74 (bits 33 0x4f17fff) HT_ HW_ hHeld (hy := by rintro w' ⟨s0, s1, s2, s3, s4, s5, s6, s7, s8, s9, j0, h9, h8⟩; go_simp; with_reducible rfl) (h := ?_)
        refine pu 15 75 (bits 33 0x4f1ffff) HT_ (h := ?_)
        refine tk 17 77 (bits 33 0x4f3ffff) HT_ HW_ hHeld (hy := by rintro w' ⟨s0, s1, s2, s3, s4, s5, s6, s7, s8, s9, j0, h9, h8⟩; go_simp; with_reducible rfl) (h := ?_)
        refine pu 18 78 (bits 33 0x4f7ffff) HT_ (h := ?_)
        refine pu 19 79 (bits 33 0x4ffffff) HT_ (h := ?_)
        refine tk 24 84 (bits 33 0x5ffffff) HT_ HW_ hHeld (hy := by rintro w' ⟨s0, s1, s2, s3, s4, s5, s6, s7, s8, s9, j0, h9, h8⟩; go_simp; with_reducible rfl) (h := ?_)
        refine pu 25 85 (bits 33 0x7ffffff) HT_ (h := ?_)
        refine tk 27 87 (bits 33 0xfffffff) HT_ HW_ hHeld (hy := by rintro w' ⟨s0, s1, s2, s3, s4, s5, s6, s7, s8, s9, j0, h9, h8⟩; go_simp; with_reducible rfl) (h := ?_)
        refine pu 28 88 (bits 33 0x1fffffff) HT_ (h := ?_)
        refine pu 29 89 (bits 33 0x3fffffff) HT_ (h := ?_)
        refine pu 30 90 (bits 33 0x7fffffff) HT_ (h := ?_)
        refine one_ (i := 31) (N := some 12) #[true, true, true, true, true, true, true, true, true, true, true, true, true, true, true, true, true, true, true, true, true, true, true, true, true, true, true, true, true, true, true, true, false] rfl rfl (one_of HT_.out (by kernel_rfl)) (by decide) (fun K hK => ?_)
        refine box_step ?hg (N := 12) ?hd (cs := #[.int .i64 0, .int .i64 0, .int .i64 0]) (t := 39) ?hr ?_; (case hd => rfl); (case hg => rfl); (case hr => first | (go_simp; done) | (go_simp; rfl))
        intro a5 hg h6 hbox hb
        replace HO_758000 := kRb HO_758000 hb
        replace HO_758001 := Aside0.mk (Kd.R_below (Kd.R_elderB (kR HO_758001) a5 (Nat.le_of_eq hg.symm)) hb)
        have a8 := Aside0.mk (hbox)
        have c0 := bsz HB hg
        have w9 := bsz HB hg
        replace HB := bstep HB hb
        have d0 := blt a4 hg
        have c6 := bgt a4 hg
        replace a4 := bkb a4 hb
        have c8 := blt a6 hg
        have c5 := bgt a6 hg
        replace a6 := bkb a6 hb
        have c7 := blt a2 hg
        have c4 := bgt a2 hg
        replace a2 := bkb a2 hb
        clear hb hbox hg
        refine hK.out _ _ ⟨bc a4 0, bc a4 1, bc a2 0, bc a2 1, (hxc HB g6), (hxc HB g5), (hxc HB g4), (hxc HB g3), (hxc HB g2), (hxc HB g1), (hxc HB g0), (hxc HB e9), (hxc HB e8)⟩ (fun hHeld => ?_)
        clear hK K
        refine norm_ (a' := ?_) ?_ ?_
        rotate_left
        ·show Act.put _ (some 12) _ = _
         simp only [Act.put, List.setIfInBounds_toArray, List.set_cons_zero, List.set_cons_succ, i64_w, i32_w]
         rfl
        refine one_ (i := 32) (N := none) #[true, true, true, true, true, true, true, true, true, true, true, true, true, true, true, true, true, true, true, true, true, true, true, true, true, true, true, true, true, true, true, true, true] rfl rfl (one_of HT_.out (by kernel_rfl)) (by decide) (fun K hK => ?_)
        have Q1 : h6.cell? ⟨a5, 0, none⟩ = some (.int .i64 0) := bc a8 0
        have N3 := blk_frozen a8.out 0
        have C9 := d0.out
        have C8 := c8.out
        have C7 := c7.out
        have E9 := c6.out
        have E8 := c5.out
        have E7 := c4.out
        have Q0 : h6.cell? ⟨a5, 1, none⟩ = some (.int .i64 0) := bc a8 1
        have N2 := blk_frozen a8.out 1
        have C6 := d0.out
        have C5 := c8.out
        have C4 := c7.out
        have E6 := c6.out
        have E5 := c5.out
        have E4 := c4.out
        have P9 : h6.cell? ⟨a5, 2, none⟩ = some (.int .i64 0) := bc a8 2
        have N1 := blk_frozen a8.out 2
        have C3 := d0.out
        have C2 := c8.out
        have C1 := c7.out
        have E3 := c6.out
        have E2 := c5.out
        have E1 := c4.out
        refine skip_ (w1 := ?_) (by rfl) rfl ?_ ?_
        rotate_left
        ·go_simp
         rfl
        refine hK.out _ _ ⟨(cfr hHeld.1), (cfr hHeld.2.1), (cfr hHeld.2.2.1), (cfr hHeld.2.2.2.1), (cfn hHeld.2.2.2.2.1 (cfw g6 c0)), (cfn hHeld.2.2.2.2.2.1 (cfw g5 c0)), (cfn hHeld.2.2.2.2.2.2.1 (cfw g4 c0)), (cfn hHeld.2.2.2.2.2.2.2.1 (cfw g3 c0)), (cfn hHeld.2.2.2.2.2.2.2.2.1 (cfw g2 c0)), (cfn hHeld.2.2.2.2.2.2.2.2.2.1 (cfw g1 c0)), (cfn hHeld.2.2.2.2.2.2.2.2.2.2.1 (cfw g0 c0)), (cfn hHeld.2.2.2.2.2.2.2.2.2.2.2.1 (cfw e9 c0)), (cfn hHeld.2.2.2.2.2.2.2.2.2.2.2.2 (cfw e8 c0))⟩ (fun hHeld => ?_)
        clear hK K
        refine done_ (done_of HT_.out (by kernel_rfl)) ?_
        try go_wp2
        have o0 : Aside0 (Kd.R (Kd.int .i64) 3 (((h6.setCell ⟨a5, 0, none⟩ (.int .i64 (Int.tmod (wrap64 ((rd_T35 l2 a0).f0)) (a7.length : Int)))).setCell ⟨a5, 1, none⟩ (.int .i64 b1)).setCell ⟨a5, 2, none⟩ (.int .i64 b3)) w.heap.size (fun _ => True) (.slice r7 a1.length p4) a1) := ⟨ktm HO_758000 a8 (fun _ hk => trivial)⟩
        have n9 : Aside0 (Kd.R k39 39 (((h6.setCell ⟨a5, 0, none⟩ (.int .i64 (Int.tmod (wrap64 ((rd_T35 l2 a0).f0)) (a7.length : Int)))).setCell ⟨a5, 1, none⟩ (.int .i64 b1)).setCell ⟨a5, 2, none⟩ (.int .i64 b3)) w.heap.size (fun k_ => k_ ≠ a5) b7 b4) := ⟨knm (g := a5) HO_758001 (fun _ hk => hk.2) (fun _ hk => hk.1.2)⟩
        have n8 : Aside0 ((((h6.setCell ⟨a5, 0, none⟩ (.int .i64 (Int.tmod (wrap64 ((rd_T35 l2 a0).f0)) (a7.length : Int)))).setCell ⟨a5, 1, none⟩ (.int .i64 b1)).setCell ⟨a5, 2, none⟩ (.int .i64 b3)).heap[c3]? = some (.cells #[.slice d5 b2.length d3, .slice d4 a7.length d2] 25 (0, 0))) := ⟨bkF a4⟩
        have n7 : Aside0 ((((h6.setCell ⟨a5, 0, none⟩ (.int .i64 (Int.tmod (wrap64 ((rd_T35 l2 a0).f0)) (a7.length : Int)))).setCell ⟨a5, 1, none⟩ (.int .i64 b1)).setCell ⟨a5, 2, none⟩ (.int .i64 b3)).heap[g8]? = some (.cells #[.slice none 0 0, .slice none 0 0] 59 (0, 0))) := ⟨bkF a6⟩
        have n6 : Aside0 ((((h6.setCell ⟨a5, 0, none⟩ (.int .i64 (Int.tmod (wrap64 ((rd_T35 l2 a0).f0)) (a7.length : Int)))).setCell ⟨a5, 1, none⟩ (.int .i64 b1)).setCell ⟨a5, 2, none⟩ (.int .i64 b3)).heap[b9]? = some (.cells #[.slice r7 a1.length p4, b7] 59 (0, 0))) := ⟨bkF a2⟩
        have n5 : Aside0 ((((h6.setCell ⟨a5, 0, none⟩ (.int .i64 (Int.tmod (wrap64 ((rd_T35 l2 a0).f0)) (a7.length : Int)))).setCell ⟨a5, 1, none⟩ (.int .i64 b1)).setCell ⟨a5, 2, none⟩ (.int .i64 b3)).heap[a5]? = some (.cells #[.int .i64 (Int.tmod (wrap64 ((rd_T35 l2 a0).f0)) (a7.length : Int)), .int .i64 b1, .int .i64 b3] 39 (0, 0))) := ⟨bkP a8⟩
        have n4 : Aside0 (Below w.heap.size w (((h6.setCell ⟨a5, 0, none⟩ (.int .i64 (Int.tmod (wrap64 ((rd_T35 l2 a0).f0)) (a7.length : Int)))).setCell ⟨a5, 1, none⟩ (.int .i64 b1)).setCell ⟨a5, 2, none⟩ (.int .i64 b3))) := ⟨bb HB⟩
        (try clear HO_758000)
        (try clear HO_758001)
        (try clear a4)
        (try clear a6)
        (try clear a2)
        (try clear a8)
        (try clear HB)
        generalize (((h6.setCell ⟨a5, 0, none⟩ (.int .i64 (Int.tmod (wrap64 ((rd_T35 l2 a0).f0)) (a7.length : Int)))).setCell ⟨a5, 1, none⟩ (.int .i64 b1)).setCell ⟨a5, 2, none⟩ (.int .i64 b3)) = J2 at o0 n9 n8 n7 n6 n5 n4 ⊢
        have HO_758000 := o0
        have HO_758001 := n9
        have a4 := n8
        have a6 := n7
        have a2 := n6
        have a8 := n5
        have HB := n4
        clear o0 n9 n8 n7 n6 n5 n4
        replace HO_758000 := Aside0.mk (Kd.R_drew HO_758000.out)
        replace HO_758001 := Aside0.mk (Kd.R_drew HO_758001.out)
        replace a4 := Aside0.mk (blk_drew a4.out)
        replace a6 := Aside0.mk (blk_drew a6.out)
        replace a2 := Aside0.mk (blk_drew a2.out)
        replace a8 := Aside0.mk (blk_drew a8.out)
        replace HB := Aside0.mk (below_drew1 HB.out)
        have m2 : 0 ≤ ((b1) : Int) := odt
        have j7 : (b1) < (a1.length : Int) := odt
        obtain ⟨g7, q8, h4⟩ := Kd.at_int (Kd.R_reads' HO_758000.out).2.2 (b1) m2 j7
        cases q8
        replace m2 := eq_true m2
        replace j7 := eq_true j7
        have m1 : 0 ≤ ((b3) : Int) := odt
        have j6 : (b3) < (a1.length : Int) := odt
        obtain ⟨p5, q7, h3⟩ := Kd.at_int (Kd.R_reads' HO_758000.out).2.2 (b3) m1 j6
        obtain rfl : g7 = p5 := (by injection q7)
        replace m1 := eq_true m1
        replace j6 := eq_true j6
        refine start_ (n := 16) (S := fun w' => w'.cell? ⟨c3, 0, none⟩ = some (.slice d5 b2.length d3) ∧ w'.cell? ⟨c3, 1, none⟩ = some (.slice d4 a7.length d2) ∧ w'.cell? ⟨a5, 0, none⟩ = some (.int .i64 (Int.tmod (wrap64 ((rd_T35 l2 a0).f0)) (a7.length : Int))) ∧ w'.cell? ⟨a5, 1, none⟩ = some (.int .i64 b1) ∧ w'.cell? ⟨a5, 2, none⟩ = some (.int .i64 b3) ∧ w'.cell? ⟨b9, 0, none⟩ = some (.slice (some g7) a1.length p4) ∧ w'.cell? ⟨b9, 1, none⟩ = some (b7) ∧ w'.cell? (g7.add ((b1)).toNat) = some (.int .i64 (rd a1 (b1))) ∧ w'.cell? (g7.add ((b3)).toNat) = some (.int .i64 (rd a1 (b3)))) (ds := []) #[false, false, false, false, false, false, false, false, false, false, false, false, false, false, false, false] (by kernel_rfl) rfl rfl ⟨bc a4 0, bc a4 1, bc a8 0, bc a8 1, bc a8 2, bc a2 0, bc a2 1, h4, h3⟩ (fun hHeld => ?_); refine with_tabW scarfjointref18_Made.tab10 scarfjointref18_Made.bits10 (fun HT_ HW_ => ?_)
        generalize J2.drew = Q9 at HO_758000 HO_758001 a4 a6 a2 a8 HB h4 h3 hHeld ⊢
        refine pu 1 92 (bits 16 0x2) HT_ (h := ?_)
        refine pu 3 94 (bits 16 0xa) HT_ (h := ?_)
        refine pu 5 96 (bits 16 0x2a) HT_ (h := ?_)
        refine pu 9 100 (bits 16 0x22a) HT_ (h := ?_)
        refine pu 11 102 (bits 16 0xa2a) HT_ (h := ?_)
        refine tk 0 91 (bits 16 0xa2b) HT_ HW_ hHeld (hy := by rintro w' ⟨s0, s1, s2, s3, s4, s5, s6, s7, s8⟩; go_simp; with_reducible rfl) (h := ?_)
        refine tk 2 93 (bits 16 0xa2f) HT_ HW_ hHeld (hy := by rintro w' ⟨s0, s1, s2, s3, s4, s5, s6, s7, s8⟩; go_simp; with_reducible rfl) (h := ?_)
        refine tk 4 95 (bits 16 0xa3f) HT_ HW_ hHeld (hy := by rintro w' ⟨s0, s1, s2, s3, s4, s5, s6, s7, s8⟩; go_simp; with_reducible rfl) (h := ?_)
        refine tk 6 97 (bits 16 0xa7f) HT_ HW_ hHeld (hy := by rintro w' ⟨s0, s1, s2, s3, s4, s5, s6, s7, s8⟩; go_simp; with_reducible rfl) (h := ?_)
        refine pu 7 98 (bits 16 0xaff) HT_ (h := ?_)
        refine tk 8 99 (bits 16 0xbff) HT_ HW_ hHeld (hy := by rintro w' ⟨s0, s1, s2, s3, s4, s5, s6, s7, s8⟩; go_simp; with_reducible rfl) (h := ?_)
        refine tk 10 101 (bits 16 0xfff) HT_ HW_ hHeld (hy := by rintro w' ⟨s0, s1, s2, s3, s4, s5, s6, s7, s8⟩; go_simp; with_reducible rfl) (h := ?_)
        refine tk 12 103 (bits 16 0x1fff) HT_ HW_ hHeld (hy := by rintro w' ⟨s0, s1, s2, s3, s4, s5, s6, s7, s8⟩; go_simp; with_reducible rfl) (h := ?_)
        refine pu 13 104 (bits 16 0x3fff) HT_ (h := ?_)
        refine tk 14 105 (bits 16 0x7fff) HT_ HW_ hHeld (hy := by rintro w' ⟨s0, s1, s2, s3, s4, s5, s6, s7, s8⟩; go_simp; with_reducible rfl) (h := ?_)
        refine one_ (i := 15) (N := some 106) #[true, true, true, true, true, true, true, true, true, true, true, true, true, true, true, true] rfl rfl (one_of HT_.out (by kernel_rfl)) (by decide) (fun K hK => ?_)
        refine goes_ Try.func24 (by kernel_rfl) rfl #[.agg #[.slice d5 b2.length d3, .slice d4 a7.length d2], .int .i64 (Int.tmod (wrap64 ((rd_T35 l2 a0).f0)) (a7.length : Int)), .int .i64 (rd a1 (b1)), .int .i64 (rd a1 (b3))] (by rfl) rfl rfl (by (try simp only [List.map_toArray, List.map_cons, List.map_nil]); first | done | (simp only [n3, n2]; rfl) | rfl | (simp only [List.length_drop, List.length_take]; rfl)) ?_
        with_reducible refine (q4_Fits.calls _ _ _ _ _ _ _ _ _ _ _ _ ?p3 ?p2 ?p1 ?p0 A3.out).mono ?_
        (case p3 => exact cb t6 HB)
        (case p2 => exact v0.out)
        (case p1 => exact cb t5 HB)
        (case p0 => exact t9.out)
        rintro e Q8 ⟨rfl, hb⟩
        have r5 := (hb.cell (World.block_lt_of_cell? _ _ (hHeld.2.2.2.2.2.2.2.1))).trans (hHeld.2.2.2.2.2.2.2.1)
        have r4 := (hb.cell (World.block_lt_of_cell? _ _ (hHeld.2.2.2.2.2.2.2.2))).trans (hHeld.2.2.2.2.2.2.2.2)
        refine ⟨_, rfl, ?_⟩
        replace HO_758000 := kRb HO_758000 hb
        replace HO_758001 := kRb HO_758001 hb
        replace a4 := bkb a4 hb
        replace a6 := bkb a6 hb
        replace a2 := bkb a2 hb
        replace a8 := bkb a8 hb
        replace HB := bstep HB hb
        (try clear hb)
        (try clear hb2)
        (try clear hk)
        (try clear hi)
        refine hK.out _ _ ⟨bc a4 0, bc a4 1, bc a8 0, bc a8 1, bc a8 2, bc a2 0, bc a2 1, r5, r4⟩ (fun hHeld => ?_)
        clear hK K
        refine norm_ (a' := ?_) ?_ ?_
        rotate_left
        ·show Act.put _ (some 106) _ = _
         simp only [Act.put, List.setIfInBounds_toArray, List.set_cons_zero, List.set_cons_succ, i64_w, i32_w]
         rfl
        refine done_ (done_of HT_.out (by kernel_rfl)) ?_
        try go_wp2
        go_roundg h5
        case measure => have := o4.out; have := o3.out; have := p8.out; omega
        case rel => exact ⟨(wrap64 (a0 + 1)), (b4), (b7), eqs, H', ⟨by have := o4.out; have := o3.out; have := p8.out; omega⟩, ⟨kR HO_758000⟩, ⟨kmm HO_758001 (fun _ hk => trivial)⟩, ⟨bk a4⟩, ⟨bk a6⟩, ⟨bk a2⟩, ⟨bb HB⟩⟩
       subst t3
       replace H := ift H
       obtain ⟨y2, H⟩ := itn H
       have w4 := Aside0.mk y2
       clear y2
       obtain ⟨q3, m7⟩ : ∃ y_ : List (S39), y_ = (b4 ++ [(⟨Int.tmod (wrap64 ((rd_T35 l2 a0).f0)) (a7.length : Int), b1, b3⟩ : S39)]) := ⟨_, rfl⟩
       replace H : (scarfjointref18_Made.l1 h5 l2 (wrap64 (a0 + 1)) b2 a7 a1 q3) = some (r1, r2) := by first | (rw [m7]; with_reducible exact H) | (have H2_ := (Option.bind_some _ _).symm.trans H; rw [m7]; with_reducible exact H2_) | (have H2_ := (Option.bind_some _ _).symm.trans H; with_reducible exact H2_) | with_reducible exact H | (rw [m7]; exact H) | exact H
       have w2 := Aside0.mk m7
       clear m7
       have H' := Aside0.mk H
       clear H
       try go_wp2
       replace HO_758000 := Aside0.mk (Kd.R_drew HO_758000.out)
       replace HO_758001 := Aside0.mk (Kd.R_drew HO_758001.out)
       replace a4 := Aside0.mk (blk_drew a4.out)
       replace a6 := Aside0.mk (blk_drew a6.out)
       replace a2 := Aside0.mk (blk_drew a2.out)
       replace HB := Aside0.mk (below_drew1 HB.out)
       have m5 : 0 ≤ a0 := odt
       have m0 : a0 < (l2.length : Int) := odt
       obtain ⟨b0, r3, e5, e4, e3⟩ := at_T35 o9.out a0 m5 m0
       have g4 := e3
       have g5 := e4
       have g6 := e5
       cases r3
       replace e5 := hxc HB e5
       replace e4 := hxc HB e4
       replace e3 := hxc HB e3
       replace m5 := eq_true m5
       replace m0 := eq_true m0
       have m4 : 0 ≤ a0 := odt
       have j9 : a0 < (l2.length : Int) := odt
       obtain ⟨p7, r0, e2, e1, e0⟩ := at_T35 o9.out a0 m4 j9
       have g1 := e0
       have g2 := e1
       have g3 := e2
       obtain rfl : b0 = p7 := (by injection r0)
       replace e2 := hxc HB e2
       replace e1 := hxc HB e1
       replace e0 := hxc HB e0
       replace m4 := eq_true m4
       replace j9 := eq_true j9
       obtain ⟨r8, o1, eo47⟩ := Kd.R_slice HO_758000.out
       (first | subst eo47 | (injection eo47 with f1_ f2_ f3_; have f4_ := f1_.symm; have f5_ := f3_.symm; clear f1_ f2_ f3_; subst f4_; subst f5_))
       have m3 : 0 ≤ a0 := odt
       have j8 : a0 < (l2.length : Int) := odt
       obtain ⟨p6, q9, d9, d8, d7⟩ := at_T35 o9.out a0 m3 j8
       have e8 := d7
       have e9 := d8
       have g0 := d9
       obtain rfl : b0 = p6 := (by injection q9)
       replace d9 := hxc HB d9
       replace d8 := hxc HB d8
       replace d7 := hxc HB d7
       replace m3 := eq_true m3
       replace j8 := eq_true j8
       refine start_ (n := 33) (S := fun w' => w'.cell? ⟨c3, 0, none⟩ = some (.slice d5 b2.length d3) ∧ w'.cell? ⟨c3, 1, none⟩ = some (.slice d4 a7.length d2) ∧ w'.cell? ⟨b9, 0, none⟩ = some (.slice r8 a1.length o1) ∧ w'.cell? ⟨b9, 1, none⟩ = some (b7) ∧ w'.cell? (b0.add ((a0).toNat * 3)) = some (.int .u8 ((rd_T35 l2 a0).f0)) ∧ w'.cell? ⟨(b0.add ((a0).toNat * 3)).block, (b0.add ((a0).toNat * 3)).off + 1, none⟩ = some (.int .u8 ((rd_T35 l2 a0).f1)) ∧ w'.cell? ⟨(b0.add ((a0).toNat * 3)).block, (b0.add ((a0).toNat * 3)).off + 2, none⟩ = some (.int .u8 ((rd_T35 l2 a0).f2)) ∧ w'.cell? (b0.add ((a0).toNat * 3)) = some (.int .u8 ((rd_T35 l2 a0).f0)) ∧ w'.cell? ⟨(b0.add ((a0).toNat * 3)).block, (b0.add ((a0).toNat * 3)).off + 1, none⟩ = some (.int .u8 ((rd_T35 l2 a0).f1)) ∧ w'.cell? ⟨(b0.add ((a0).toNat * 3)).block, (b0.add ((a0).toNat * 3)).off + 2, none⟩ = some (.int .u8 ((rd_T35 l2 a0).f2)) ∧ w'.cell? (b0.add ((a0).toNat * 3)) = some (.int .u8 ((rd_T35 l2 a0).f0)) ∧ w'.cell? ⟨(b0.add ((a0).toNat * 3)).block, (b0.add ((a0).toNat * 3)).off + 1, none⟩ = some (.int .u8 ((rd_T35 l2 a0).f1)) ∧ w'.cell? ⟨(b0.add ((a0).toNat * 3)).block, (b0.add ((a0).toNat * 3)).off + 2, none⟩ = some (.int .u8 ((rd_T35 l2 a0).f2))) (ds := []) #[false, false, false, false, false, false, false, false, false, false, false, false, false, false, false, false, false, false, false, false, false, false, false, false, false, false, false, false, false, false, false, false, false] (by kernel_rfl) rfl rfl ⟨bc a4 0, bc a4 1, bc a2 0, bc a2 1, (hxc HB g6), (hxc HB g5), (hxc HB g4), (hxc HB g3), (hxc HB g2), (hxc HB g1), (hxc HB g0), (hxc HB e9), (hxc HB e8)⟩ (fun hHeld => ?_); refine with_tabW scarfjointref18_Made.tab9 scarfjointref18_Made.bits9 (fun HT_ HW_ => ?_)
       generalize wc.drew = R4 at HO_758000 HO_758001 a4 a6 a2 HB e5 e4 e3 e2 e1 e0 d9 d8 d7 hHeld ⊢
       refine pu 0 60 (bits 33 0x1) HT_ (h := ?_)
       refine pu 1 61 (bits 33 0x3) HT_ (h := ?_)
       refine pu 2 62 (bits 33 0x7) HT_ (h := ?_)
       refine pu 3 63 (bits 33 0xf) HT_ (h := ?_)
       refine pu 6 66 (bits 33 0x4f) HT_ (h := ?_)
       refine pu 10 70 (bits 33 0x44f) HT_ (h := ?_)
       refine pu 11 71 (bits 33 0xc4f) HT_ (h := ?_)
       refine pu 12 72 (bits 33 0x1c4f) HT_ (h := ?_)
       refine pu 13 73 (bits 33 0x3c4f) HT_ (h := ?_)
       refine pu 16 76 (bits 33 0x13c4f) HT_ (h := ?_)
       refine pu 20 80 (bits 33 0x113c4f) HT_ (h := ?_)
       refine pu 21 81 (bits 33 0x313c4f) HT_ (h := ?_)
       refine pu 22 82 (bits 33 0x713c4f) HT_ (h := ?_)
       refine pu 23 83 (bits 33 0xf13c4f) HT_ (h := ?_)
       refine pu 26 86 (bits 33 0x4f13c4f) HT_ (h := ?_)
       refine tk 4 64 (bits 33 0x4f13c5f) HT_ HW_ hHeld (hy := by rintro w' ⟨s0, s1, s2, s3, s4, s5, s6, s7, s8, s9, j0, h9, h8⟩; go_simp; with_reducible rfl) (h := ?_)
       refine pu 5 65 (bits 33 0x4f13c7f) HT_ (h := ?_)
       refine tk 7 67 (bits 33 0x4f13cff) HT_ HW_ hHeld (hy := by rintro w' ⟨s0, s1, s2, s3, s4, s5, s6, s7, s8, s9, j0, h9, h8⟩; go_simp; with_reducible rfl) (h := ?_)
       refine pu 8 68 (bits 33 0x4f13dff) HT_ (h := ?_)
       refine pu 9 69 (bits 33 0x4f13fff) HT_ (h := ?_)
       refine tk 14 74 (bits 33 0x4f17fff) HT_ HW_ hHeld (hy := by rintro w' ⟨s0, s1, s2, s3, s4, s5, s6, s7, s8, s9, j0, h9, h8⟩; go_simp; with_reducible rfl) (h := ?_)
       refine pu 15 75 (bits 33 0x4f1ffff) HT_ (h := ?_)
       refine tk 17 77 (bits 33 0x4f3ffff) HT_ HW_ hHeld (hy := by rintro w' ⟨s0, s1, s2, s3, s4, s5, s6, s7, s8, s9, j0, h9, h8⟩; go_simp; with_reducible rfl) (h := ?_)
       refine pu 18 78 (bits 33 0x4f7ffff) HT_ (h := ?_)
       refine pu 19 79 (bits 33 0x4ffffff) HT_ (h := ?_)
       refine tk 24 84 (bits 33 0x5ffffff) HT_ HW_ hHeld (hy := by rintro w' ⟨s0, s1, s2, s3, s4, s5, s6, s7, s8, s9, j0, h9, h8⟩; go_simp; with_reducible rfl) (h := ?_)
       refine pu 25 85 (bits 33 0x7ffffff) HT_ (h := ?_)
       refine tk 27 87 (bits 33 0xfffffff) HT_ HW_ hHeld (hy := by rintro w' ⟨s0, s1, s2, s3, s4, s5, s6, s7, s8, s9, j0, h9, h8⟩; go_simp; with_reducible rfl) (h := ?_)
       refine pu 28 88 (bits 33 0x1fffffff) HT_ (h := ?_)
       refine pu 29 89 (bits 33 0x3fffffff) HT_ (h := ?_)
       refine pu 30 90 (bits 33 0x7fffffff) HT_ (h := ?_)
       refine one_ (i := 31) (N := some 12) #[true, true, true, true, true, true, true, true, true, true, true, true, true, true, true, true, true, true, true, true, true, true, true, true, true, true, true, true, true, true, true, true, false] rfl rfl (one_of HT_.out (by kernel_rfl)) (by decide) (fun K hK => ?_)
       refine box_step ?hg (N := 12) ?hd (cs := #[.int .i64 0, .int .i64 0, .int .i64 0]) (t := 39) ?hr ?_; (case hd => rfl); (case hg => rfl); (case hr => first | (go_simp; done) | (go_simp; rfl))
       intro a5 hg h7 hbox hb
       replace HO_758000 := kRb HO_758000 hb
       replace HO_758001 := Aside0.mk (Kd.R_below (Kd.R_elderB (kR HO_758001) a5 (Nat.le_of_eq hg.symm)) hb)
       have a8 := Aside0.mk (hbox)
       have c0 := bsz HB hg
       have w9 := bsz HB hg
       replace HB := bstep HB hb
       have d0 := blt a4 hg
       have c6 := bgt a4 hg
       replace a4 := bkb a4 hb
       have c8 := blt a6 hg
       have c5 := bgt a6 hg
       replace a6 := bkb a6 hb
       have c7 := blt a2 hg
       have c4 := bgt a2 hg
       replace a2 := bkb a2 hb
       clear hb hbox hg
       refine hK.out _ _ ⟨bc a4 0, bc a4 1, bc a2 0, bc a2 1, (hxc HB g6), (hxc HB g5), (hxc HB g4), (hxc HB g3), (hxc HB g2), (hxc HB g1), (hxc HB g0), (hxc HB e9), (hxc HB e8)⟩ (fun hHeld => ?_)
       clear hK K
       refine norm_ (a' := ?_) ?_ ?_
       rotate_left
       ·show Act.put _ (some 12) _ = _
        simp only [Act.put, List.setIfInBounds_toArray, List.set_cons_zero, List.set_cons_succ, i64_w, i32_w]
        rfl
       refine one_ (i := 32) (N := none) #[true, true, true, true, true, true, true, true, true, true, true, true, true, true, true, true, true, true, true, true, true, true, true, true, true, true, true, true, true, true, true, true, true] rfl rfl (one_of HT_.out (by kernel_rfl)) (by decide) (fun K hK => ?_)
       have Q4 : h7.cell? ⟨a5, 0, none⟩ = some (.int .i64 0) := bc a8 0
       have N6 := blk_frozen a8.out 0
       have D8 := d0.out
       have D7 := c8.out
       have D6 := c7.out
       have F8 := c6.out
       have F7 := c5.out
       have F6 := c4.out
       have Q3 : h7.cell? ⟨a5, 1, none⟩ = some (.int .i64 0) := bc a8 1
       have N5 := blk_frozen a8.out 1
       have D5 := d0.out
       have D4 := c8.out
       have D3 := c7.out
       have F5 := c6.out
       have F4 := c5.out
       have F3 := c4.out
       have Q2 : h7.cell? ⟨a5, 2, none⟩ = some (.int .i64 0) := bc a8 2
       have N4 := blk_frozen a8.out 2
       have D2 := d0.out
       have D1 := c8.out
       have D0 := c7.out
       have F2 := c6.out
       have F1 := c5.out
       have F0 := c4.out
       refine skip_ (w1 := ?_) (by rfl) rfl ?_ ?_
       rotate_left
       ·go_simp
        rfl
       refine hK.out _ _ ⟨(cfr hHeld.1), (cfr hHeld.2.1), (cfr hHeld.2.2.1), (cfr hHeld.2.2.2.1), (cfn hHeld.2.2.2.2.1 (cfw g6 c0)), (cfn hHeld.2.2.2.2.2.1 (cfw g5 c0)), (cfn hHeld.2.2.2.2.2.2.1 (cfw g4 c0)), (cfn hHeld.2.2.2.2.2.2.2.1 (cfw g3 c0)), (cfn hHeld.2.2.2.2.2.2.2.2.1 (cfw g2 c0)), (cfn hHeld.2.2.2.2.2.2.2.2.2.1 (cfw g1 c0)), (cfn hHeld.2.2.2.2.2.2.2.2.2.2.1 (cfw g0 c0)), (cfn hHeld.2.2.2.2.2.2.2.2.2.2.2.1 (cfw e9 c0)), (cfn hHeld.2.2.2.2.2.2.2.2.2.2.2.2 (cfw e8 c0))⟩ (fun hHeld => ?_)
       clear hK K
       refine done_ (done_of HT_.out (by kernel_rfl)) ?_
       try go_wp2
       have o0 : Aside0 (Kd.R (Kd.int .i64) 3 (((h7.setCell ⟨a5, 0, none⟩ (.int .i64 (Int.tmod (wrap64 ((rd_T35 l2 a0).f0)) (a7.length : Int)))).setCell ⟨a5, 1, none⟩ (.int .i64 b1)).setCell ⟨a5, 2, none⟩ (.int .i64 b3)) w.heap.size (fun _ => True) (.slice r8 a1.length o1) a1) := ⟨ktm HO_758000 a8 (fun _ hk => trivial)⟩
       have n9 : Aside0 (Kd.R k39 39 (((h7.setCell ⟨a5, 0, none⟩ (.int .i64 (Int.tmod (wrap64 ((rd_T35 l2 a0).f0)) (a7.length : Int)))).setCell ⟨a5, 1, none⟩ (.int .i64 b1)).setCell ⟨a5, 2, none⟩ (.int .i64 b3)) w.heap.size (fun k_ => k_ ≠ a5) b7 b4) := ⟨knm (g := a5) HO_758001 (fun _ hk => hk.2) (fun _ hk => hk.1.2)⟩
       have n8 : Aside0 ((((h7.setCell ⟨a5, 0, none⟩ (.int .i64 (Int.tmod (wrap64 ((rd_T35 l2 a0).f0)) (a7.length : Int)))).setCell ⟨a5, 1, none⟩ (.int .i64 b1)).setCell ⟨a5, 2, none⟩ (.int .i64 b3)).heap[c3]? = some (.cells #[.slice d5 b2.length d3, .slice d4 a7.length d2] 25 (0, 0))) := ⟨bkF a4⟩
       have n7 : Aside0 ((((h7.setCell ⟨a5, 0, none⟩ (.int .i64 (Int.tmod (wrap64 ((rd_T35 l2 a0).f0)) (a7.length : Int)))).setCell ⟨a5, 1, none⟩ (.int .i64 b1)).setCell ⟨a5, 2, none⟩ (.int .i64 b3)).heap[g8]? = some (.cells #[.slice none 0 0, .slice none 0 0] 59 (0, 0))) := ⟨bkF a6⟩
       have n6 : Aside0 ((((h7.setCell ⟨a5, 0, none⟩ (.int .i64 (Int.tmod (wrap64 ((rd_T35 l2 a0).f0)) (a7.length : Int)))).setCell ⟨a5, 1, none⟩ (.int .i64 b1)).setCell ⟨a5, 2, none⟩ (.int .i64 b3)).heap[b9]? = some (.cells #[.slice r8 a1.length o1, b7] 59 (0, 0))) := ⟨bkF a2⟩
       have n5 : Aside0 ((((h7.setCell ⟨a5, 0, none⟩ (.int .i64 (Int.tmod (wrap64 ((rd_T35 l2 a0).f0)) (a7.length : Int)))).setCell ⟨a5, 1, none⟩ (.int .i64 b1)).setCell ⟨a5, 2, none⟩ (.int .i64 b3)).heap[a5]? = some (.cells #[.int .i64 (Int.tmod (wrap64 ((rd_T35 l2 a0).f0)) (a7.length : Int)), .int .i64 b1, .int .i64 b3] 39 (0, 0))) := ⟨bkP a8⟩
       have n4 : Aside0 (Below w.heap.size w (((h7.setCell ⟨a5, 0, none⟩ (.int .i64 (Int.tmod (wrap64 ((rd_T35 l2 a0).f0)) (a7.length : Int)))).setCell ⟨a5, 1, none⟩ (.int .i64 b1)).setCell ⟨a5, 2, none⟩ (.int .i64 b3))) := ⟨bb HB⟩
       (try clear HO_758000)
       (try clear HO_758001)
       (try clear a4)
       (try clear a6)
       (try clear a2)
       (try clear a8)
       (try clear HB)
       generalize (((h7.setCell ⟨a5, 0, none⟩ (.int .i64 (Int.tmod (wrap64 ((rd_T35 l2 a0).f0)) (a7.length : Int)))).setCell ⟨a5, 1, none⟩ (.int .i64 b1)).setCell ⟨a5, 2, none⟩ (.int .i64 b3)) = J3 at o0 n9 n8 n7 n6 n5 n4 ⊢
       have HO_758000 := o0
       have HO_758001 := n9
       have a4 := n8
       have a6 := n7
       have a2 := n6
       have a8 := n5
       have HB := n4
       clear o0 n9 n8 n7 n6 n5 n4
       replace HO_758000 := Aside0.mk (Kd.R_drew HO_758000.out)
       replace HO_758001 := Aside0.mk (Kd.R_drew HO_758001.out)
       replace a4 := Aside0.mk (blk_drew a4.out)
       replace a6 := Aside0.mk (blk_drew a6.out)
       replace a2 := Aside0.mk (blk_drew a2.out)
       replace a8 := Aside0.mk (blk_drew a8.out)
       replace HB := Aside0.mk (below_drew1 HB.out)
       have m2 : 0 ≤ ((b1) : Int) := odt
       have j7 : (b1) < (a1.length : Int) := odt
       obtain ⟨g7, q8, h4⟩ := Kd.at_int (Kd.R_reads' HO_758000.out).2.2 (b1) m2 j7
       cases q8
       replace m2 := eq_true m2
       replace j7 := eq_true j7
       have m1 : 0 ≤ ((b3) : Int) := odt
       have j6 : (b3) < (a1.length : Int) := odt
       obtain ⟨p5, q7, h3⟩ := Kd.at_int (Kd.R_reads' HO_758000.out).2.2 (b3) m1 j6
       obtain rfl : g7 = p5 := (by injection q7)
       replace m1 := eq_true m1
       replace j6 := eq_true j6
       refine start_ (n := 16) (S := fun w' => w'.cell? ⟨c3, 0, none⟩ = some (.slice d5 b2.length d3) ∧ w'.cell? ⟨c3, 1, none⟩ = some (.slice d4 a7.length d2) ∧ w'.cell? ⟨a5, 0, none⟩ = some (.int .i64 (Int.tmod (wrap64 ((rd_T35 l2 a0).f0)) (a7.length : Int))) ∧ w'.cell? ⟨a5, 1, none⟩ = some (.int .i64 b1) ∧ w'.cell? ⟨a5, 2, none⟩ = some (.int .i64 b3) ∧ w'.cell? ⟨b9, 0, none⟩ = some (.slice (some g7) a1.length o1) ∧ w'.cell? ⟨b9, 1, none⟩ = some (b7) ∧ w'.cell? (g7.add ((b1)).toNat) = some (.int .i64 (rd a1 (b1))) ∧ w'.cell? (g7.add ((b3)).toNat) = some (.int .i64 (rd a1 (b3)))) (ds := []) #[false, false, false, false, false, false, false, false, false, false, false, false, false, false, false, false] (by kernel_rfl) rfl rfl ⟨bc a4 0, bc a4 1, bc a8 0, bc a8 1, bc a8 2, bc a2 0, bc a2 1, h4, h3⟩ (fun hHeld => ?_); refine with_tabW scarfjointref18_Made.tab10 scarfjointref18_Made.bits10 (fun HT_ HW_ => ?_)
       generalize J3.drew = R3 at HO_758000 HO_758001 a4 a6 a2 a8 HB h4 h3 hHeld ⊢
       refine pu 1 92 (bits 16 0x2) HT_ (h := ?_)
       refine pu 3 94 (bits 16 0xa) HT_ (h := ?_)
       refine pu 5 96 (bits 16 0x2a) HT_ (h := ?_)
       refine pu 9 100 (bits 16 0x22a) HT_ (h := ?_)
       refine pu 11 102 (bits 16 0xa2a) HT_ (h := ?_)
       refine tk 0 91 (bits 16 0xa2b) HT_ HW_ hHeld (hy := by rintro w' ⟨s0, s1, s2, s3, s4, s5, s6, s7, s8⟩; go_simp; with_reducible rfl) (h := ?_)
       refine tk 2 93 (bits 16 0xa2f) HT_ HW_ hHeld (hy := by rintro w' ⟨s0, s1, s2, s3, s4, s5, s6, s7, s8⟩; go_simp; with_reducible rfl) (h := ?_)
       refine tk 4 95 (bits 16 0xa3f) HT_ HW_ hHeld (hy := by rintro w' ⟨s0, s1, s2, s3, s4, s5, s6, s7, s8⟩; go_simp; with_reducible rfl) (h := ?_)
       refine tk 6 97 (bits 16 0xa7f) HT_ HW_ hHeld (hy := by rintro w' ⟨s0, s1, s2, s3, s4, s5, s6, s7, s8⟩; go_simp; with_reducible rfl) (h := ?_)
       refine pu 7 98 (bits 16 0xaff) HT_ (h := ?_)
       refine tk 8 99 (bits 16 0xbff) HT_ HW_ hHeld (hy := by rintro w' ⟨s0, s1, s2, s3, s4, s5, s6, s7, s8⟩; go_simp; with_reducible rfl) (h := ?_)
       refine tk 10 101 (bits 16 0xfff) HT_ HW_ hHeld (hy := by rintro w' ⟨s0, s1, s2, s3, s4, s5, s6, s7, s8⟩; go_simp; with_reducible rfl) (h := ?_)
       refine tk 12 103 (bits 16 0x1fff) HT_ HW_ hHeld (hy := by rintro w' ⟨s0, s1, s2, s3, s4, s5, s6, s7, s8⟩; go_simp; with_reducible rfl) (h := ?_)
       refine pu 13 104 (bits 16 0x3fff) HT_ (h := ?_)
       refine tk 14 105 (bits 16 0x7fff) HT_ HW_ hHeld (hy := by rintro w' ⟨s0, s1, s2, s3, s4, s5, s6, s7, s8⟩; go_simp; with_reducible rfl) (h := ?_)
       refine one_ (i := 15) (N := some 106) #[true, true, true, true, true, true, true, true, true, true, true, true, true, true, true, true] rfl rfl (one_of HT_.out (by kernel_rfl)) (by decide) (fun K hK => ?_)
       refine goes_ Try.func24 (by kernel_rfl) rfl #[.agg #[.slice d5 b2.length d3, .slice d4 a7.length d2], .int .i64 (Int.tmod (wrap64 ((rd_T35 l2 a0).f0)) (a7.length : Int)), .int .i64 (rd a1 (b1)), .int .i64 (rd a1 (b3))] (by rfl) rfl rfl (by (try simp only [List.map_toArray, List.map_cons, List.map_nil]); first | done | (simp only [n3, n2]; rfl) | rfl | (simp only [List.length_drop, List.length_take]; rfl)) ?_
       with_reducible refine (q4_Fits.calls _ _ _ _ _ _ _ _ _ _ _ _ ?p3 ?p2 ?p1 ?p0 A3.out).mono ?_
       (case p3 => exact cb t6 HB)
       (case p2 => exact v0.out)
       (case p1 => exact cb t5 HB)
       (case p0 => exact t9.out)
       rintro e R2 ⟨rfl, hb⟩
       have r5 := (hb.cell (World.block_lt_of_cell? _ _ (hHeld.2.2.2.2.2.2.2.1))).trans (hHeld.2.2.2.2.2.2.2.1)
       have r4 := (hb.cell (World.block_lt_of_cell? _ _ (hHeld.2.2.2.2.2.2.2.2))).trans (hHeld.2.2.2.2.2.2.2.2)
       refine ⟨_, rfl, ?_⟩
       replace HO_758000 := kRb HO_758000 hb
       replace HO_758001 := kRb HO_758001 hb
       replace a4 := bkb a4 hb
       replace a6 := bkb a6 hb
       replace a2 := bkb a2 hb
       replace a8 := bkb a8 hb
       replace HB := bstep HB hb
       (try clear hb)
       (try clear hb2)
       (try clear hk)
       (try clear hi)
       refine hK.out _ _ ⟨bc a4 0, bc a4 1, bc a8 0, bc a8 1, bc a8 2, bc a2 0, bc a2 1, r5, r4⟩ (fun hHeld => ?_)
       clear hK K
       refine norm_ (a' := ?_) ?_ ?_
       rotate_left
       ·show Act.put _ (some 106) _ = _
        simp only [Act.put, List.setIfInBounds_toArray, List.set_cons_zero, List.set_cons_succ, i64_w, i32_w]
        rfl
       refine done_ (done_of HT_.out (by kernel_rfl)) ?_
       have M7 := h0.out
       have L6 := h2.out
       have M6 := g9.out
       have L5 := h1.out
       have M5 := c7.out
       have L4 := c4.out
       obtain ⟨I6, I5, H1, H0⟩ := cz2 a2
       have M4 := c6.out
       have L3 := d0.out
       have M3 := c5.out
       have L2 := c8.out
       obtain ⟨I4, I3, I2, G9, G8, G7⟩ := cz3 a8
       try go_wp2_with (first | ((with_reducible refine gate_builtin (b := .append) (xs := #[.tmp 108, .tmp 110]) rfl ?_); (try (refine gate_guard (by rfl) ?_; dsimp only)); at_builtin; refine Kd.R_append k39 (w0 := w) w.heap.size rfl (.tmp 108) (.tmp 110) 57 39 (.agg #[(.int .i64 0), (.int .i64 0), (.int .i64 0)]) 24 rfl Try.underlying57 info39 rfl (by decide) (by omega) b7 b4 (⟨Int.tmod (wrap64 ((rd_T35 l2 a0).f0)) (a7.length : Int), b1, b3⟩ : S39) [.int .i64 (Int.tmod (wrap64 ((rd_T35 l2 a0).f0)) (a7.length : Int)), .int .i64 b1, .int .i64 b3] (fun k_ => k_ ≠ a5) (fun _ => False) rfl rfl ?aP (fun _ hk => hk.elim) ?aF ?aO ?aB ?aS ?aL ?_; (case aP => exact k39_mkM _ _ _ (⟨Int.tmod (wrap64 ((rd_T35 l2 a0).f0)) (a7.length : Int), b1, b3⟩ : S39)); (case aB => exact (bb HB)); (case aF => exact (fun k_ hk => Kd.freshB (g := a5) (o := .cells #[.int .i64 (Int.tmod (wrap64 ((rd_T35 l2 a0).f0)) (a7.length : Int)), .int .i64 b1, .int .i64 b3] 39 (0, 0)) (bk a8) k_ hk)); (case aO => exact (kR HO_758001)); (case aS => exact (below_size (bb HB))); (case aL => have := w4.out; omega); intro P7 R1 ho hb hg hat; rw [← w2.out] at ho; replace HO_758000 := Aside0.mk (Kd.R_over' (kR HO_758000) (Kd.R_typed (kR HO_758001)) (by decide) hg); replace a4 := Aside0.mk (blk_grown (g := c3) (o := .cells #[.slice d5 b2.length d3, .slice d4 a7.length d2] 25 (0, 0)) (bk a4) hg (Kd.R_ne HO_758001.out a4.out (by decide))); replace a6 := Aside0.mk (blk_grown (g := g8) (o := .cells #[.slice none 0 0, .slice none 0 0] 59 (0, 0)) (bk a6) hg (Kd.R_ne HO_758001.out a6.out (by decide))); replace a2 := Aside0.mk (blk_grown (g := b9) (o := .cells #[.slice (some g7) a1.length o1, b7] 59 (0, 0)) (bk a2) hg (Kd.R_ne HO_758001.out a2.out (by decide))); replace HB := Aside0.mk (hb); have t7 := Aside0.mk (ho); clear HO_758001 ho hb hg hat; obtain ⟨A9, A6, eo63⟩ := Kd.R_slice t7.out; subst eo63; obtain ⟨I1, I0, G6, G5⟩ := cz2 a2))
       go_roundg h5
       case measure => have := o4.out; have := o3.out; have := p8.out; omega
       case rel => exact ⟨(wrap64 (a0 + 1)), (q3), (.slice A9 q3.length A6), eqs, H', ⟨by have := o4.out; have := o3.out; have := p8.out; omega⟩, ⟨ktm HO_758000 a2 (fun _ hk => trivial)⟩, ⟨ktm t7 a2 (fun _ hk => trivial)⟩, ⟨bkF a4⟩, ⟨bkF a6⟩, ⟨bkP a2⟩, ⟨bb HB⟩⟩
end Go.Proofs.Ytfpianecohobjaa.P
