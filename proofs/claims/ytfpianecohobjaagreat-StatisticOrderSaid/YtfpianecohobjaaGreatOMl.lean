/- StatisticOf: a part of its proof. No condition. -/
import Derived.Test.YtfpianecohobjaaGreatOPx0
import Derived.Test.YtfpianecohobjaaGreatOMe
import Derived.Test.YtfpianecohobjaaGreatOPx20
import Derived.Test.YtfpianecohobjaaGreatOMa
import Derived.Test.YtfpianecohobjaaGreatOH1
import Derived.Test.YtfpianecohobjaaGreatOMc
namespace Go.Proofs.YtfpianecohobjaaGreat.P
open Go.RowKit Go.Proofs.YtfpianecohobjaaGreatW.PrintWords Go.Proofs.YtfpianecohobjaaGreatW.PrintLast Go.Proofs.YtfpianecohobjaaGreatW.PrintMore
set_option maxHeartbeats 8000000
set_option maxRecDepth 100000
set_option linter.unusedVariables false
set_option linter.unusedSimpArgs false
mutual
def scarfjointref18_Made.j1 : Nat → List (S51) → List (S96) → List (S101) → List Int → Option (List Int × (List (S56)))
 | 0, _, _, _, _ => none
 | k + 1, x2, b6, b5, a9 => scarfjointref18_Made.l1 k x2 0 b6 b5 a9 ([] : List (S56))
def scarfjointref18_Made.l1 : Nat → List (S51) → Int → List (S96) → List (S101) → List Int → List (S56) → Option (List Int × (List (S56)))
 | 0, _, _, _, _, _, _ => none
 | k + 1, x2, e6, b6, b5, a9, d6 => if e6 < (x2.length : Int) then (if e6 < 12 then (if (a9.length : Int) > 0 then (scarfjointref18_Made.j3 k x2 e6 (decide ((b5.length : Int) > 0)) b6 b5 a9 d6) else (scarfjointref18_Made.j3 k x2 e6 false b6 b5 a9 d6)) else (scarfjointref18_Made.j3 k x2 e6 false b6 b5 a9 d6)) else (scarfjointref18_Made.j3 k x2 e6 false b6 b5 a9 d6)
def scarfjointref18_Made.j3 : Nat → List (S51) → Int → Bool → List (S96) → List (S101) → List Int → List (S56) → Option (List Int × (List (S56)))
 | 0, _, _, _, _, _, _, _ => none
 | k + 1, x2, e6, J1, b6, b5, a9, d6 => if J1 = true then (if 0 ≤ e6 then (if e6 < (x2.length : Int) then (if (b5.length : Int) = 0 then (none) else (if (a9.length : Int) = 0 then (none) else (if 0 ≤ (Int.tmod (wrap64 ((rd_T51 x2 e6).f1)) (a9.length : Int)) then (if (Int.tmod (wrap64 ((rd_T51 x2 e6).f1)) (a9.length : Int)) < (a9.length : Int) then (if 0 ≤ (Int.tmod (wrap64 ((rd_T51 x2 e6).f2)) (a9.length : Int)) then (if (Int.tmod (wrap64 ((rd_T51 x2 e6).f2)) (a9.length : Int)) < (a9.length : Int) then ((q4_Fits.f k b6 b5 (Int.tmod (wrap64 ((rd_T51 x2 e6).f0)) (b5.length : Int)) (rd a9 (Int.tmod (wrap64 ((rd_T51 x2 e6).f1)) (a9.length : Int))) (rd a9 (Int.tmod (wrap64 ((rd_T51 x2 e6).f2)) (a9.length : Int)))).bind fun j5 => (if j5 = true then (if d6.length < 5864062014805 then (scarfjointref18_Made.l1 k x2 (wrap64 (e6 + 1)) b6 b5 a9 (d6 ++ [(⟨Int.tmod (wrap64 ((rd_T51 x2 e6).f0)) (b5.length : Int), Int.tmod (wrap64 ((rd_T51 x2 e6).f1)) (a9.length : Int), Int.tmod (wrap64 ((rd_T51 x2 e6).f2)) (a9.length : Int)⟩ : S56)])) else (none)) else (scarfjointref18_Made.l1 k x2 (wrap64 (e6 + 1)) b6 b5 a9 d6))) else (none)) else (none)) else (none)) else (none)))) else (none)) else (none)) else (some (a9, d6))
def scarfjointref18_Made.l0 : Nat → List Int → List (S51) → Int → Int → List (S96) → List (S101) → List Int → Option (List Int × (List (S56)))
 | 0, _, _, _, _, _, _, _ => none
 | k + 1, x1, x2, x3, p9, b6, b5, a9 => if p9 < (x1.length : Int) then (if p9 < x3 then (if 0 ≤ p9 then (if (b6.length : Int) = 0 then (none) else (if a9.length < 17592186044416 then (scarfjointref18_Made.l0 k x1 x2 x3 (wrap64 (p9 + 1)) b6 b5 (a9 ++ [Int.tmod (wrap64 (rd x1 p9)) (b6.length : Int)])) else (none))) else (none)) else (scarfjointref18_Made.j1 k x2 b6 b5 a9)) else (scarfjointref18_Made.j1 k x2 b6 b5 a9)
end
def scarfjointref18_Made.f (k : Nat) (b2 : List (S96)) (a7 : List (S101)) (l1 : List Int) (l2 : List (S51)) (a3 : Int) : Option (List Int × (List (S56))) := scarfjointref18_Made.l0 k l1 l2 a3 0 b2 a7 ([] : List Int)
def scarfjointref18_Made.T5 : Bool × List (List Nat × List Nat) := (true, [([], []), ([0], [0]), ([], []), ([], []), ([2, 3], [2, 3]), ([4], [4]), ([5], [5]), ([], []), ([7], [7]), ([8], [8]), ([6, 9], [6, 9]), ([10], [10]), ([1, 11], [1, 11]), ([0, 1, 2, 3, 4, 5, 6, 7, 8, 9, 10, 11, 12], []), ([13, 12, 12, 0, 1, 2, 3, 4, 5, 6, 7, 8, 9, 10, 11, 12], [12, 13])])
def scarfjointref18_Made.B5 : List Nat := [0, 1, 0, 0, 12, 28, 60, 0, 128, 384, 1020, 2044, 4095, 8191, 16383]
theorem scarfjointref18_Made.tab5 : rtab .any (opsOf Tryz.f36 5) = scarfjointref18_Made.T5 := by kernel_rfl
theorem scarfjointref18_Made.bits5 : waitsOk scarfjointref18_Made.T5.2 scarfjointref18_Made.B5 = true := by kernel_rfl
def scarfjointref18_Made.T9 : Bool × List (List Nat × List Nat) := (true, [([], []), ([], []), ([0, 1], [0, 1]), ([2], [2]), ([3], [3]), ([4], [4]), ([], []), ([6], [6]), ([7], [7]), ([5, 8], [5, 8]), ([], []), ([], []), ([10, 11], [10, 11]), ([12], [12]), ([13], [13]), ([14], [14]), ([], []), ([16], [16]), ([17], [17]), ([15, 18], [15, 18]), ([], []), ([], []), ([20, 21], [20, 21]), ([22], [22]), ([23], [23]), ([24], [24]), ([], []), ([26], [26]), ([27], [27]), ([25, 28], [25, 28]), ([9, 19, 29], [9, 19, 29]), ([], []), ([31, 30, 0, 1, 2, 3, 4, 5, 6, 7, 8, 9, 10, 11, 12, 13, 14, 15, 16, 17, 18, 19, 20, 21, 22, 23, 24, 25, 26, 27, 28, 29, 30, 31], [30, 31])])
def scarfjointref18_Made.B9 : List Nat := [0, 0, 3, 7, 15, 31, 0, 64, 192, 511, 0, 0, 3072, 7168, 15360, 31744, 0, 65536, 196608, 523264, 0, 0, 3145728, 7340032, 15728640, 32505856, 0, 67108864, 201326592, 535822336, 1073741823, 0, 4294967295]
theorem scarfjointref18_Made.tab9 : rtab .any (opsOf Tryz.f36 9) = scarfjointref18_Made.T9 := by kernel_rfl
theorem scarfjointref18_Made.bits9 : waitsOk scarfjointref18_Made.T9.2 scarfjointref18_Made.B9 = true := by kernel_rfl
def scarfjointref18_Made.T10 : Bool × List (List Nat × List Nat) := (true, [([], []), ([], []), ([1], [1]), ([], []), ([3], [3]), ([], []), ([5], [5]), ([4, 6], [4, 6]), ([7], [7]), ([], []), ([9], [9]), ([], []), ([11], [11]), ([10, 12], [10, 12]), ([13], [13]), ([0, 2, 8, 14], [0, 2, 8, 14])])
def scarfjointref18_Made.B10 : List Nat := [0, 0, 2, 0, 8, 0, 32, 120, 248, 0, 512, 0, 2048, 7680, 15872, 32767]
theorem scarfjointref18_Made.tab10 : rtab .any (opsOf Tryz.f36 10) = scarfjointref18_Made.T10 := by kernel_rfl
theorem scarfjointref18_Made.bits10 : waitsOk scarfjointref18_Made.T10.2 scarfjointref18_Made.B10 = true := by kernel_rfl
theorem scarfjointref18_Made.calls (k : Nat) (d5 : Option Addr) (d3 : Nat) (b2 : List (S96)) (d4 : Option Addr) (d2 : Nat) (a7 : List (S101)) (A1 : Option Addr) (c1 : Nat) (l1 : List Int) (A2 : Option Addr) (c2 : Nat) (l2 : List (S51)) (a3 : Int) (r1 : List Int) (r2 : List (S56)) (w : World) (t0 : Kd.C k96 w d5 b2.length b2) (t2 : b2.length ≤ d3) (r9 : Kd.C k101 w d4 a7.length a7) (t1 : a7.length ≤ d2) (x9 : Kd.C (Kd.int .u8) w A1 l1.length l1) (y1 : l1.length ≤ c1) (x8 : Kd.C k51 w A2 l2.length l2) (y0 : l2.length ≤ c2) (h : scarfjointref18_Made.f k b2 a7 l1 l2 a3 = some (r1, r2)) :
  Calls Tryz.prog 36 #[.agg #[.slice d5 b2.length d3, .slice d4 a7.length d2], .slice A1 l1.length c1, .slice A2 l2.length c2, .int .i64 a3] w fun e w' => ∃ x4 x0 : Value, e = .returned (.agg #[x4, x0]) ∧ Kd.R (Kd.int .i64) 3 w' w.heap.size (fun _ => True) x4 r1 ∧ Kd.R k56 56 w' w.heap.size (fun _ => True) x0 r2 ∧ Below w.heap.size w w' := by
 have hu31 := Tryz.underlying31
 have hu35 := Tryz.underlying35
 have hu56 := Tryz.underlying56
 have t6 := Aside0.mk t0
 have v0 := Aside0.mk t2
 clear t0 t2
 have t5 := Aside0.mk r9
 have t9 := Aside0.mk t1
 clear r9 t1
 have J8 := Aside0.mk x9
 have R7 := Aside0.mk y1
 clear x9 y1
 have o9 := Aside0.mk x8
 have R6 := Aside0.mk y0
 clear x8 y0
 have HB := Aside0.mk (Below.refl w.heap.size w)
 have H : (scarfjointref18_Made.l0 k l1 l2 a3 0 b2 a7 ([] : List Int)) = some (r1, r2) := h
 clear h
 have v3 := Aside0.mk H
 clear H
 go_enter Tryz.func36, Tryz.ntmps36
 go_upto_block 0 with (first | ((with_reducible refine gate_dst (N := 4) rfl ?_); (try (refine gate_guard (by rfl) ?_; dsimp only)); refine be 4 #[.slice d5 b2.length d3, .slice d4 a7.length d2] 31 ?_; intro c3 hg w6 hbox hb; have a4 := Aside0.mk (hbox); have P6 := bsz HB hg; replace HB := bstep HB hb; clear hb hbox hg) | ((with_reducible refine gate_dst (N := 8) rfl ?_); (try (refine gate_guard (by rfl) ?_; dsimp only)); refine be 8 #[.slice none 0 0, .slice none 0 0] 35 ?_; intro g8 hg w7 hbox hb; have a6 := Aside0.mk (hbox); have P5 := bsz HB hg; replace HB := bstep HB hb; have n1 := blt a4 hg; have n0 := bgt a4 hg; replace a4 := bkb a4 hb; clear hb hbox hg) | ((with_reducible refine gate_dst (N := 9) rfl ?_); (try (refine gate_guard (by rfl) ?_; dsimp only)); refine be 9 #[.slice none 0 0, .slice none 0 0] 35 ?_; intro b9 hg w8 hbox hb; have a2 := Aside0.mk (hbox); have P4 := bsz HB hg; replace HB := bstep HB hb; have h2 := blt a4 hg; have h0 := bgt a4 hg; replace a4 := bkb a4 hb; have h1 := blt a6 hg; have g9 := bgt a6 hg; replace a6 := bkb a6 hb; clear hb hbox hg))
 (try simp only [Act.put, List.setIfInBounds_toArray, List.set_cons_zero, List.set_cons_succ])
 go_cut [] (fun wc => ∃ (kq : Nat) (a1 : List Int) (b8 : Value), Aside0 (scarfjointref18_Made.j1 kq l2 b2 a7 a1 = some (r1, r2)) ∧ Aside0 (kq ≤ k) ∧ Aside0 (Kd.R (Kd.int .i64) 3 wc w.heap.size (fun _ => True) b8 a1) ∧ Aside0 (wc.heap[c3]? = some (.cells #[(.slice d5 b2.length d3), (.slice d4 a7.length d2)] 31 (0, 0))) ∧ Aside0 (wc.heap[g8]? = some (.cells #[(.slice none 0 0), (.slice none 0 0)] 35 (0, 0))) ∧ Aside0 (wc.heap[b9]? = some (.cells #[b8, (.slice none 0 0)] 35 (0, 0))) ∧ Aside0 (Below w.heap.size w wc))
 case first =>
  have H := v3.out
  clear v3
  have H' := Aside0.mk H
  clear H
  go_wp2
  go_loopg [10] k (fun kq J7 w' => ∃ (d1 : Int) (e7 : List Int) (b8 : Value), J7 = .int .i64 d1 ∧ Aside0 (scarfjointref18_Made.l0 kq l1 l2 a3 d1 b2 a7 e7 = some (r1, r2)) ∧ Aside0 (kq ≤ k) ∧ Aside0 (Kd.R (Kd.int .i64) 3 w' w.heap.size (fun _ => True) b8 e7) ∧ Aside0 (w'.heap[c3]? = some (.cells #[(.slice d5 b2.length d3), (.slice d4 a7.length d2)] 31 (0, 0))) ∧ Aside0 (w'.heap[g8]? = some (.cells #[(.slice none 0 0), (.slice none 0 0)] 35 (0, 0))) ∧ Aside0 (w'.heap[b9]? = some (.cells #[b8, (.slice none 0 0)] 35 (0, 0))) ∧ Aside0 (Below w.heap.size w w'))
  case atStart => exact ⟨(0), (([] : List Int)), (.slice none 0 0), eqs, H', ⟨Nat.le_refl _⟩, ⟨by first | exact Kd.R_nil _ _ _ _ _ | exact Kd.N_nil _ _ _ _ _ | exact Kd.V_nil _ _ _ _ _ | exact Kd.Q_nil _ _ _ _ _ | exact Kd.S_nil _ _ _ _ _⟩, ⟨bk a4⟩, ⟨bk a6⟩, ⟨bk a2⟩, ⟨bb HB⟩⟩
  case round =>
   clear H'
   obtain ⟨d1, e7, b8, rfl, HA, v2, HO_500000, a4, a6, a2, HB⟩ := hrel
   cases gk with
   | zero => exact absurd HA.out (by simp [scarfjointref18_Made.l0])
   | succ k1 =>
    have H := HA.out
    clear HA
    simp only [scarfjointref18_Made.l0] at H
    by_cases c9 : d1 < (l1.length : Int)
    rw [if_pos c9] at H
    have o2 := decide_eq_true c9
    clear c9
    (first | rw [o2] | (simp only [i64_w, i32_w]; rw [o2]) | skip)
    by_cases o8 : d1 < a3
    ·rw [if_pos o8] at H
     have v8 := decide_eq_true o8
     clear o8
     obtain ⟨A0, H⟩ := itn H
     have P3 := decide_eq_true A0
     clear A0
     by_cases q2 : (b2.length : Int) = 0
     ·rw [if_pos q2] at H
      exact absurd H (by simp)
     rw [if_neg q2] at H
     have P2 := beq_eq_false_iff_ne.mpr q2
     have P1 := bne_iff_ne.mpr q2
     have P0 : ¬ (b2 = []) := fun h_ => q2 (by rw [h_]; rfl)
     obtain ⟨y9, H⟩ := itn H
     have w5 := Aside0.mk y9
     clear y9
     obtain ⟨q4, m8⟩ : ∃ y_ : List Int, y_ = (e7 ++ [Int.tmod (wrap64 (rd l1 d1)) (b2.length : Int)]) := ⟨_, rfl⟩
     replace H : (scarfjointref18_Made.l0 k1 l1 l2 a3 (wrap64 (d1 + 1)) b2 a7 q4) = some (r1, r2) := by first | (rw [m8]; with_reducible exact H) | (have H2_ := (Option.bind_some _ _).symm.trans H; rw [m8]; with_reducible exact H2_) | (have H2_ := (Option.bind_some _ _).symm.trans H; with_reducible exact H2_) | with_reducible exact H | (rw [m8]; exact H) | exact H
     have w3 := Aside0.mk m8
     clear m8
     have H' := Aside0.mk H
     clear H
     try go_wp2
     replace HO_500000 := Aside0.mk (Kd.R_drew HO_500000.out)
     replace a4 := Aside0.mk (blk_drew a4.out)
     replace a6 := Aside0.mk (blk_drew a6.out)
     replace a2 := Aside0.mk (blk_drew a2.out)
     replace HB := Aside0.mk (below_drew1 HB.out)
     have q6 : 0 ≤ d1 := odt
     have q5 : d1 < (l1.length : Int) := odt
     obtain ⟨v9, A4, j2⟩ := Kd.at_int J8.out d1 q6 q5
     have j4 := j2
     cases A4
     replace j2 := hxc HB j2
     replace q6 := eq_true q6
     replace q5 := eq_true q5
     refine start_ (n := 15) (S := fun w' => w'.cell? ⟨b9, 0, none⟩ = some (b8) ∧ w'.cell? ⟨b9, 1, none⟩ = some (.slice none 0 0) ∧ w'.cell? ⟨c3, 0, none⟩ = some (.slice d5 b2.length d3) ∧ w'.cell? ⟨c3, 1, none⟩ = some (.slice d4 a7.length d2) ∧ w'.cell? (v9.add (d1).toNat) = some (.int .u8 (rd l1 d1))) (ds := [14]) #[false, false, false, false, false, false, false, false, false, false, false, false, false, false, false] (by kernel_rfl) rfl rfl ⟨bc a2 0, bc a2 1, bc a4 0, bc a4 1, (hxc HB j4)⟩ (fun hHeld => ?_); refine with_tabW scarfjointref18_Made.tab5 scarfjointref18_Made.bits5 (fun HT_ HW_ => ?_)
     generalize wr.drew = R5 at HO_500000 a4 a6 a2 HB j2 hHeld ⊢
     refine pu 0 24 (bits 15 0x1) HT_ (h := ?_)
     refine pu 2 26 (bits 15 0x5) HT_ (h := ?_)
     refine pu 3 27 (bits 15 0xd) HT_ (h := ?_)
     refine pu 4 28 (bits 15 0x1d) HT_ (h := ?_)
     refine pu 7 31 (bits 15 0x9d) HT_ (h := ?_)
     refine tk 1 25 (bits 15 0x9f) HT_ HW_ hHeld (hy := by rintro w' ⟨s0, s1, s2, s3, s4⟩; go_simp; with_reducible rfl) (h := ?_)
     refine tk 5 29 (bits 15 0xbf) HT_ HW_ hHeld (hy := by rintro w' ⟨s0, s1, s2, s3, s4⟩; go_simp; with_reducible rfl) (h := ?_)
     refine pu 6 30 (bits 15 0xff) HT_ (h := ?_)
     refine tk 8 32 (bits 15 0x1ff) HT_ HW_ hHeld (hy := by rintro w' ⟨s0, s1, s2, s3, s4⟩; go_simp; with_reducible rfl) (h := ?_)
     refine pu 9 33 (bits 15 0x3ff) HT_ (h := ?_)
     refine pu 10 34 (bits 15 0x7ff) HT_ (h := ?_)
     refine one_ (i := 11) (N := some 35) #[true, true, true, true, true, true, true, true, true, true, true, true, false, false, false] rfl rfl (one_of HT_.out (by kernel_rfl)) (by decide) (fun K hK => ?_)
     refine value_ (w1 := ?_) (v := ?_) (by rfl) rfl ?_ ?_
     rotate_left 2
     ·go_simp
      constructor
      ·rfl
      ·rfl
     refine hK.out _ _ ⟨(blk_cell (blk_alloc a2.out _) 0).trans rfl, (blk_cell (blk_alloc a2.out _) 1).trans rfl, (blk_cell (blk_alloc a4.out _) 0).trans rfl, (blk_cell (blk_alloc a4.out _) 1).trans rfl, (World.cell?_alloc_lt _ _ _ (World.block_lt_of_cell? _ _ ((hxc HB j4)))).trans ((hxc HB j4))⟩ (fun hHeld => ?_)
     clear hK K
     refine norm_ (a' := ?_) ?_ ?_
     rotate_left
     ·show Act.put _ (some 35) _ = _
      simp only [Act.put, List.setIfInBounds_toArray, List.set_cons_zero, List.set_cons_succ, i64_w, i32_w]
      rfl
     refine one_ (i := 12) (N := some 36) #[true, true, true, true, true, true, true, true, true, true, true, true, true, false, false] rfl rfl (one_of HT_.out (by kernel_rfl)) (by decide) (fun K hK => ?_)
     refine Kd.R_append_step (Kd.int .i64) (w0 := w) w.heap.size (by rfl) (.tmp 25) (.tmp 35) 32 3 (.int .i64 0) 8 rfl Tryz.underlying32 info3 rfl (by decide) (by omega) b8 e7 (Int.tmod (wrap64 (rd l1 d1)) (b2.length : Int)) [.int .i64 (Int.tmod (wrap64 (rd l1 d1)) (b2.length : Int))] (fun _ => True) (fun _ => False) rfl rfl ?aP (fun _ hk => hk.elim) ?aF ?aO ?aB ?aS ?aL ?_
     (case aP => exact rfl)
     (case aB => exact (bb HB))
     (case aF => exact (fun _ _ => trivial))
     (case aO => exact (kR HO_500000))
     (case aS => exact (below_size (bb HB)))
     (case aL => have := w5.out; omega)
     intro P8 J4 ho hb hg hat
     rw [← w3.out] at ho
     replace a4 := Aside0.mk (blk_grown (g := c3) (o := .cells #[.slice d5 b2.length d3, .slice d4 a7.length d2] 31 (0, 0)) (bk a4) hg (Kd.R_ne HO_500000.out a4.out (by decide)))
     replace a6 := Aside0.mk (blk_grown (g := g8) (o := .cells #[.slice none 0 0, .slice none 0 0] 35 (0, 0)) (bk a6) hg (Kd.R_ne HO_500000.out a6.out (by decide)))
     replace a2 := Aside0.mk (blk_grown (g := b9) (o := .cells #[b8, .slice none 0 0] 35 (0, 0)) (bk a2) hg (Kd.R_ne HO_500000.out a2.out (by decide)))
     replace HB := Aside0.mk (hb)
     have t8 := Aside0.mk (ho)
     clear HO_500000 ho hb hg hat
     obtain ⟨C0, A7, eo16⟩ := Kd.R_slice t8.out
     (first | subst eo16 | (injection eo16 with f1_ f2_ f3_; have f4_ := f1_.symm; have f5_ := f3_.symm; clear f1_ f2_ f3_; subst f4_; subst f5_))
     refine hK.out _ _ ⟨bc a2 0, bc a2 1, bc a4 0, bc a4 1, (hxc HB j4)⟩ (fun hHeld => ?_)
     clear hK K
     refine norm_ (a' := ?_) ?_ ?_
     rotate_left
     ·show Act.put _ (some 36) _ = _
      simp only [Act.put, List.setIfInBounds_toArray, List.set_cons_zero, List.set_cons_succ, i64_w, i32_w]
      rfl
     refine pu 13 37 (bits 15 0x3fff) HT_ (h := ?_)
     refine last_ (i := 14) (N := none) #[true, true, true, true, true, true, true, true, true, true, true, true, true, true, true] rfl rfl (one_of HT_.out (by kernel_rfl)) (by decide) (fun K hK => ?_)
     have Q5 : J4.cell? ⟨b9, 0, none⟩ = some (b8) := bc a2 0
     have N7 := blk_frozen a2.out 0
     have E0 := h2.out
     have D9 := h1.out
     have G0 := h0.out
     have F9 := g9.out
     refine skip_ (w1 := ?_) (by rfl) rfl ?_ ?_
     rotate_left
     ·go_simp
      rfl
     refine hK.out _ _ ?_
     clear hK K
     refine done_ (done_of HT_.out (by kernel_rfl)) ?_
     try go_wp2
     go_roundg k1
     case measure => have := v2.out; omega
     case rel => exact ⟨(wrap64 (d1 + 1)), (q4), (.slice C0 q4.length A7), eqs, H', ⟨by have := v2.out; omega⟩, ⟨ktm t8 a2 (fun _ hk => trivial)⟩, ⟨bkF a4⟩, ⟨bkF a6⟩, ⟨bkP a2⟩, ⟨bb HB⟩⟩
    rw [if_neg o8] at H
    have v8 := decide_eq_false o8
    clear o8
    have H' := Aside0.mk H
    clear H
    rotate_left
    rw [if_neg c9] at H
    have o2 := decide_eq_false c9
    clear c9
    (first | rw [o2] | (simp only [i64_w, i32_w]; rw [o2]) | skip)
    have H' := Aside0.mk H
    clear H
    all_goals
     go_wp2
     go_meet
     case rel => exact ⟨_, (e7), (b8), H', ⟨by have := v2.out; first | omega | exact Nat.le_refl _⟩, ⟨kR HO_500000⟩, ⟨bk a4⟩, ⟨bk a6⟩, ⟨bk a2⟩, ⟨bb HB⟩⟩
 case rest =>
  clear v3
  obtain ⟨kq, a1, b8, HA, o4, HO_500000, a4, a6, a2, HB⟩ := hcut
  cases kq with
  | zero => exact absurd HA.out (by simp [scarfjointref18_Made.j1])
  | succ x6 =>
   have H := HA.out
   clear HA
   simp only [scarfjointref18_Made.j1] at H
   have H' := Aside0.mk H
   clear H
   go_wp2
   go_loopg [11] x6 (fun kq J6 w' => ∃ (a0 : Int) (b4 : List (S56)) (b7 : Value), J6 = .int .i64 a0 ∧ Aside0 (scarfjointref18_Made.l1 kq l2 a0 b2 a7 a1 b4 = some (r1, r2)) ∧ Aside0 (kq ≤ x6) ∧ Aside0 (Kd.R (Kd.int .i64) 3 w' w.heap.size (fun _ => True) b8 a1) ∧ Aside0 (Kd.R k56 56 w' w.heap.size (fun _ => True) b7 b4) ∧ Aside0 (w'.heap[c3]? = some (.cells #[(.slice d5 b2.length d3), (.slice d4 a7.length d2)] 31 (0, 0))) ∧ Aside0 (w'.heap[g8]? = some (.cells #[(.slice none 0 0), (.slice none 0 0)] 35 (0, 0))) ∧ Aside0 (w'.heap[b9]? = some (.cells #[b8, b7] 35 (0, 0))) ∧ Aside0 (Below w.heap.size w w'))
   case atStart => exact ⟨(0), (([] : List (S56))), (.slice none 0 0), eqs, H', ⟨Nat.le_refl _⟩, ⟨kR HO_500000⟩, ⟨by first | exact Kd.R_nil _ _ _ _ _ | exact Kd.N_nil _ _ _ _ _ | exact Kd.V_nil _ _ _ _ _ | exact Kd.Q_nil _ _ _ _ _ | exact Kd.S_nil _ _ _ _ _⟩, ⟨bk a4⟩, ⟨bk a6⟩, ⟨bk a2⟩, ⟨bb HB⟩⟩
   case round =>
    clear H'
    obtain ⟨a0, b4, b7, rfl, HA, o3, HO_500000, HO_500001, a4, a6, a2, HB⟩ := hrel
    cases gk with
    | zero => exact absurd HA.out (by simp [scarfjointref18_Made.l1])
    | succ k2 =>
     have H := HA.out
     clear HA
     simp only [scarfjointref18_Made.l1] at H
     have r6 := Aside0.mk H
     clear H
     go_upto_region 7 with (fail)
     go_cut [57] (fun J5 wc => ∃ (kq : Nat) (m6 : Bool), J5 = .bool m6 ∧ Aside0 (scarfjointref18_Made.j3 kq l2 a0 m6 b2 a7 a1 b4 = some (r1, r2)) ∧ Aside0 (kq ≤ k2) ∧ Aside0 (Kd.R (Kd.int .i64) 3 wc w.heap.size (fun _ => True) b8 a1) ∧ Aside0 (Kd.R k56 56 wc w.heap.size (fun _ => True) b7 b4) ∧ Aside0 (wc.heap[c3]? = some (.cells #[(.slice d5 b2.length d3), (.slice d4 a7.length d2)] 31 (0, 0))) ∧ Aside0 (wc.heap[g8]? = some (.cells #[(.slice none 0 0), (.slice none 0 0)] 35 (0, 0))) ∧ Aside0 (wc.heap[b9]? = some (.cells #[b8, b7] 35 (0, 0))) ∧ Aside0 (Below w.heap.size w wc))
     case first =>
      have H := r6.out
      clear r6
      by_cases o7 : a0 < (l2.length : Int)
      rotate_left
      ·rw [if_neg o7] at H
       have m9 := decide_eq_false o7
       clear o7
       (first | rw [m9] | (simp only [i64_w, i32_w]; rw [m9]) | skip)
       have H' := Aside0.mk H
       clear H
       go_wp2
       go_meet
       case rel => exact ⟨_, (false), eqs, H', ⟨by have := o4.out; have := o3.out; first | omega | exact Nat.le_refl _⟩, ⟨kR HO_500000⟩, ⟨kR HO_500001⟩, ⟨bk a4⟩, ⟨bk a6⟩, ⟨bk a2⟩, ⟨bb HB⟩⟩
      rw [if_pos o7] at H
      have m9 := decide_eq_true o7
      clear o7
      (first | rw [m9] | (simp only [i64_w, i32_w]; rw [m9]) | skip)
      by_cases o6 : a0 < 12
      rotate_left
      ·rw [if_neg o6] at H
       have v7 := decide_eq_false o6
       clear o6
       have H' := Aside0.mk H
       clear H
       go_wp2
       go_meet
       case rel => exact ⟨_, (false), eqs, H', ⟨by have := o4.out; have := o3.out; first | omega | exact Nat.le_refl _⟩, ⟨kR HO_500000⟩, ⟨kR HO_500001⟩, ⟨bk a4⟩, ⟨bk a6⟩, ⟨bk a2⟩, ⟨bb HB⟩⟩
      rw [if_pos o6] at H
      have v7 := decide_eq_true o6
      clear o6
      by_cases o5 : (a1.length : Int) > 0
      rw [if_pos o5] at H
      have v6 : decide (0 < (a1.length : Int)) = true := decide_eq_true o5
      have v5 : decide (0 < a1.length) = true := decide_eq_true (by omega)
      clear o5
      have H' := Aside0.mk H
      clear H
      rotate_left
      rw [if_neg o5] at H
      have v6 : decide (0 < (a1.length : Int)) = false := decide_eq_false o5
      have v5 : decide (0 < a1.length) = false := decide_eq_false (by omega)
      clear o5
      have H' := Aside0.mk H
      clear H
      all_goals
       have N0 := h0.out
       have L9 := h2.out
       have M9 := g9.out
       have L8 := h1.out
       obtain ⟨J0, I9, H5, H4⟩ := cz2 a2
       obtain ⟨Q7, Q6, eo25⟩ := Kd.R_slice HO_500000.out
       subst eo25
       have M8 := n1.out
       have L7 := n0.out
       obtain ⟨I8, I7, H3, H2⟩ := cz2 a4
       go_wp2
       go_meet
       case rel => exact ⟨_, _, eqs, H', ⟨by have := o4.out; have := o3.out; first | omega | exact Nat.le_refl _⟩, ⟨kR HO_500000⟩, ⟨kR HO_500001⟩, ⟨bk a4⟩, ⟨bk a6⟩, ⟨bk a2⟩, ⟨bb HB⟩⟩
     case rest =>
      clear r6
      obtain ⟨kq, m6, rfl, HA, p8, HO_500000, HO_500001, a4, a6, a2, HB⟩ := hcut
      cases kq with
      | zero => exact absurd HA.out (by simp [scarfjointref18_Made.j3])
      | succ h5 =>
       have H := HA.out
       clear HA
       simp only [scarfjointref18_Made.j3] at H
       by_cases t4 : m6 = true
       rotate_left
       ·replace t4 := Bool.eq_false_iff.mpr t4
        subst t4
        replace H := iff_ H
        simp only [Option.some.injEq, Prod.mk.injEq] at H
        obtain ⟨rfl, rfl⟩ := H
        have M2 := h0.out
        have L1 := h2.out
        have M1 := g9.out
        have L0 := h1.out
        obtain ⟨H9, H8, G4, G3⟩ := cz2 a2
        obtain ⟨v4, v1, eo77⟩ := Kd.R_slice HO_500000.out
        subst eo77
        have M0 := n0.out
        have J9 := n1.out
        obtain ⟨H7, H6, G2, G1⟩ := cz2 a6
        obtain ⟨A8, A5, eo80⟩ := Kd.R_slice HO_500001.out
        subst eo80
        go_wp2
        refine bodyPost_ret (results_cell_row rfl _ _ g8 35 #[.slice v4 a1.length v1, .slice A8 b4.length A5] (0, 0) _ rfl (by (with_reducible repeat (first | refine dN ?_ _ | refine dR ?_ | refine dA ?_ _)); refine blk_put (cs := #[.slice v4 a1.length v1, .slice none 0 0]) ?_ 1 _ rfl; refine blk_put (cs := #[.slice none 0 0, .slice none 0 0]) ?_ 0 _ rfl; (with_reducible repeat (first | refine dN ?_ _ | refine dR ?_ | refine dA ?_ _)); exact a6.out) Tryz.underlying35 rfl (by kernel_rfl)) rfl ?_
        exact ⟨_, _, erf, ktm HO_500000 a6 (fun _ hk => trivial), ktm HO_500001 a6 (fun _ hk => trivial), bb HB⟩
       subst t4
       replace H := ift H
       obtain ⟨y8, H⟩ := itn H
       have O9 := decide_eq_true y8
       clear y8
       obtain ⟨y7, H⟩ := itn H
       have O8 := decide_eq_true y7
       clear y7
       by_cases q1 : (a7.length : Int) = 0
       ·rw [if_pos q1] at H
        exact absurd H (by simp)
       rw [if_neg q1] at H
       have O7 := beq_eq_false_iff_ne.mpr q1
       have O6 := bne_iff_ne.mpr q1
       have O5 : ¬ (a7 = []) := fun h_ => q1 (by rw [h_]; rfl)
       by_cases q0 : (a1.length : Int) = 0
       ·rw [if_pos q0] at H
        exact absurd H (by simp)
       rw [if_neg q0] at H
       have O4 := beq_eq_false_iff_ne.mpr q0
       have O3 := bne_iff_ne.mpr q0
       have O2 : ¬ (a1 = []) := fun h_ => q0 (by rw [h_]; rfl)
       obtain ⟨b1, n3⟩ : ∃ j_ : Int, (Int.tmod (wrap64 ((rd_T51 l2 a0).f1)) (a1.length : Int)) = j_ := ⟨_, rfl⟩
       replace H : (if 0 ≤ (b1) then (if (b1) < (a1.length : Int) then (if 0 ≤ (Int.tmod (wrap64 ((rd_T51 l2 a0).f2)) (a1.length : Int)) then (if (Int.tmod (wrap64 ((rd_T51 l2 a0).f2)) (a1.length : Int)) < (a1.length : Int) then ((q4_Fits.f h5 b2 a7 (Int.tmod (wrap64 ((rd_T51 l2 a0).f0)) (a7.length : Int)) (rd a1 (b1)) (rd a1 (Int.tmod (wrap64 ((rd_T51 l2 a0).f2)) (a1.length : Int)))).bind fun j5 => (if j5 = true then (if b4.length < 5864062014805 then (scarfjointref18_Made.l1 h5 l2 (wrap64 (a0 + 1)) b2 a7 a1 (b4 ++ [(⟨Int.tmod (wrap64 ((rd_T51 l2 a0).f0)) (a7.length : Int), b1, Int.tmod (wrap64 ((rd_T51 l2 a0).f2)) (a1.length : Int)⟩ : S56)])) else (none)) else (scarfjointref18_Made.l1 h5 l2 (wrap64 (a0 + 1)) b2 a7 a1 b4))) else (none)) else (none)) else (none)) else (none)) = some (r1, r2) := by first | (rw [n3] at H; exact H) | (simp only [n3] at H ⊢; exact H)
       obtain ⟨y6, H⟩ := itn H
       have O1 := decide_eq_true y6
       clear y6
       obtain ⟨y5, H⟩ := itn H
       have O0 := decide_eq_true y5
       clear y5
       obtain ⟨b3, n2⟩ : ∃ j_ : Int, (Int.tmod (wrap64 ((rd_T51 l2 a0).f2)) (a1.length : Int)) = j_ := ⟨_, rfl⟩
       replace H : (if 0 ≤ (b3) then (if (b3) < (a1.length : Int) then ((q4_Fits.f h5 b2 a7 (Int.tmod (wrap64 ((rd_T51 l2 a0).f0)) (a7.length : Int)) (rd a1 (b1)) (rd a1 (b3))).bind fun j5 => (if j5 = true then (if b4.length < 5864062014805 then (scarfjointref18_Made.l1 h5 l2 (wrap64 (a0 + 1)) b2 a7 a1 (b4 ++ [(⟨Int.tmod (wrap64 ((rd_T51 l2 a0).f0)) (a7.length : Int), b1, b3⟩ : S56)])) else (none)) else (scarfjointref18_Made.l1 h5 l2 (wrap64 (a0 + 1)) b2 a7 a1 b4))) else (none)) else (none)) = some (r1, r2) := by first | (rw [n2] at H; exact H) | (simp only [n2] at H ⊢; exact H)
       obtain ⟨y4, H⟩ := itn H
       have N9 := decide_eq_true y4
       clear y4
       obtain ⟨y3, H⟩ := itn H
       have N8 := decide_eq_true y3
       clear y3
       obtain ⟨j5, A3, H⟩ := obA H
       by_cases t3 : j5 = true
       rotate_left
       ·replace t3 := Bool.eq_false_iff.mpr t3
        subst t3
        replace H := iff_ H
        have H' := Aside0.mk H
        clear H
        try go_wp2
        replace HO_500000 := Aside0.mk (Kd.R_drew HO_500000.out)
        replace HO_500001 := Aside0.mk (Kd.R_drew HO_500001.out)
        replace a4 := Aside0.mk (blk_drew a4.out)
        replace a6 := Aside0.mk (blk_drew a6.out)
        replace a2 := Aside0.mk (blk_drew a2.out)
        replace HB := Aside0.mk (below_drew1 HB.out)
        have m5 : 0 ≤ a0 := odt
        have m0 : a0 < (l2.length : Int) := odt
        obtain ⟨b0, r3, e5, e4, e3⟩ := at_T51 o9.out a0 m5 m0
        have g4 := e3
        have g5 := e4
        have g6 := e5
        cases r3
        replace e5 := hxc HB e5
        replace e4 := hxc HB e4
        replace e3 := hxc HB e3
        replace m5 := eq_true m5
        replace m0 := eq_true m0
        have m4 : 0 ≤ a0 := odt
        have j9 : a0 < (l2.length : Int) := odt
        obtain ⟨p7, r0, e2, e1, e0⟩ := at_T51 o9.out a0 m4 j9
        have g1 := e0
        have g2 := e1
        have g3 := e2
        obtain rfl : b0 = p7 := (by injection r0)
        replace e2 := hxc HB e2
        replace e1 := hxc HB e1
        replace e0 := hxc HB e0
        replace m4 := eq_true m4
        replace j9 := eq_true j9
        obtain ⟨r7, p4, eo66⟩ := Kd.R_slice HO_500000.out
        (first | subst eo66 | (injection eo66 with f1_ f2_ f3_; have f4_ := f1_.symm; have f5_ := f3_.symm; clear f1_ f2_ f3_; subst f4_; subst f5_))
        have m3 : 0 ≤ a0 := odt
        have j8 : a0 < (l2.length : Int) := odt
        obtain ⟨p6, q9, d9, d8, d7⟩ := at_T51 o9.out a0 m3 j8
        have e8 := d7
        have e9 := d8
        have g0 := d9
        obtain rfl : b0 = p6 := (by injection q9)
        replace d9 := hxc HB d9
        replace d8 := hxc HB d8
        replace d7 := hxc HB d7
        replace m3 := eq_true m3
        replace j8 := eq_true j8
        refine start_ (n := 33) (S := fun w' => w'.cell? ⟨c3, 0, none⟩ = some (.slice d5 b2.length d3) ∧ w'.cell? ⟨c3, 1, none⟩ = some (.slice d4 a7.length d2) ∧ w'.cell? ⟨b9, 0, none⟩ = some (.slice r7 a1.length p4) ∧ w'.cell? ⟨b9, 1, none⟩ = some (b7) ∧ w'.cell? (b0.add ((a0).toNat * 3)) = some (.int .u8 ((rd_T51 l2 a0).f0)) ∧ w'.cell? ⟨(b0.add ((a0).toNat * 3)).block, (b0.add ((a0).toNat * 3)).off + 1, none⟩ = some (.int .u8 ((rd_T51 l2 a0).f1)) ∧ w'.cell? ⟨(b0.add ((a0).toNat * 3)).block, (b0.add ((a0).toNat * 3)).off + 2, none⟩ = some (.int .u8 ((rd_T51 l2 a0).f2)) ∧ w'.cell? (b0.add ((a0).toNat * 3)) = some (.int .u8 ((rd_T51 l2 a0).f0)) ∧ w'.cell? ⟨(b0.add ((a0).toNat * 3)).block, (b0.add ((a0).toNat * 3)).off + 1, none⟩ = some (.int .u8 ((rd_T51 l2 a0).f1)) ∧ w'.cell? ⟨(b0.add ((a0).toNat * 3)).block, (b0.add ((a0).toNat * 3)).off + 2, none⟩ = some (.int .u8 ((rd_T51 l2 a0).f2)) ∧ w'.cell? (b0.add ((a0).toNat * 3)) = some (.int .u8 ((rd_T51 l2 a0).f0)) ∧ w'.cell? ⟨(b0.add ((a0).toNat * 3)).block, (b0.add ((a0).toNat * 3)).off + 1, none⟩ = some (.int .u8 ((rd_T51 l2 a0).f1)) ∧ w'.cell? ⟨(b0.add ((a0).toNat * 3)).block, (b0.add ((a0).toNat * 3)).off + 2, none⟩ = some (.int .u8 ((rd_T51 l2 a0).f2))) (ds := []) #[false, false, false, false, false, false, false, false, false, false, false, false, false, false, false, false, false, false, false, false, false, false, false, false, false, false, false, false, false, false, false, false, false] (by kernel_rfl) rfl rfl ⟨bc a4 0, bc a4 1, bc a2 0, bc a2 1, (hxc HB g6), (hxc HB g5), (hxc HB g4), (hxc HB g3), (hxc HB g2), (hxc HB g1), (hxc HB g0), (hxc HB e9), (hxc HB e8)⟩ (fun hHeld => ?_); refine with_tabW scarfjointref18_Made.tab9 scarfjointref18_Made.bits9 (fun HT_ HW_ => ?_)
        generalize wc.drew = R0 at HO_500000 HO_500001 a4 a6 a2 HB e5 e4 e3 e2 e1 e0 d9 d8 d7 hHeld ⊢
        refine pu 0 60 (bits 33 0x1) HT_ (h := ?_)
        refine pu 1 61 (bits 33 0x3) HT_ (h := ?_)
        refine pu 2 62 (bits 33 0x7) HT_ (h := ?_)
        refine pu 3 63 (bits 33 0xf) HT_ (h := ?_)
        refine pu 6 66 (bits 33 0x4f) HT_ (h := ?_)
        refine pu 10 70 (bits 33 0x44f) HT_ (h := ?_)
        refine pu 11 71 (bits 33 0xc4f) HT_ (h := ?_)
        refine pu 12 72 (bits 33 0x1c4f) HT_ (h := ?_)
        refine pu 13 73 (bits 33 0x3c4f) HT_ (h := ?_)
        refine pu 16 76 (bits 33 0x13c4f) HT_ (h := ?_)
        refine pu 20 80 (bits 33 0x113c4f) HT_ (h := ?_)
        refine pu 21 81 (bits 33 0x313c4f) HT_ (h := ?_)
        refine pu 22 82 (bits 33 0x713c4f) HT_ (h := ?_)
        refine pu 23 83 (bits 33 0xf13c4f) HT_ (h := ?_)
        refine pu 26 86 (bits 33 0x4f13c4f) HT_ (h := ?_)
        refine tk 4 64 (bits 33 0x4f13c5f) HT_ HW_ hHeld (hy := by rintro w' ⟨s0, s1, s2, s3, s4, s5, s6, s7, s8, s9, j0, h9, h8⟩; go_simp; with_reducible rfl) (h := ?_)
        refine pu 5 65 (bits 33 0x4f13c7f) HT_ (h := ?_)
        refine tk 7 67 (bits 33 0x4f13cff) HT_ HW_ hHeld (hy := by rintro w' ⟨s0, s1, s2, s3, s4, s5, s6, s7, s8, s9, j0, h9, h8⟩; go_simp; with_reducible rfl) (h := ?_)
        refine pu 8 68 (bits 33 0x4f13dff) HT_ (h := ?_)
        refine pu 9 69 (bits 33 0x4f13fff) HT_ (h := ?_)
        refine tk 14 74 (bits 33 0x4f17fff) HT_ HW_ hHeld (hy := by rintro w' ⟨s0, s1, s2, s3, s4, s5, s6, s7, s8, s9, j0, h9, h8⟩; go_simp; with_reducible rfl) (h := ?_)
        refine pu 15 75 (bits 33 0x4f1ffff) HT_ (h := ?_)
        refine tk 17 77 (bits 33 0x4f3ffff) HT_ HW_ hHeld (hy := by rintro w' ⟨s0, s1, s2, s3, s4, s5, s6, s7, s8, s9, j0, h9, h8⟩; go_simp; with_reducible rfl) (h := ?_)
        refine pu 18 78 (bits 33 0x4f7ffff) HT_ (h := ?_)
        refine pu 19 79 (bits 33 0x4ffffff) HT_ (h := ?_)
        refine tk 24 84 (bits 33 0x5ffffff) HT_ HW_ hHeld (hy := by rintro w' ⟨s0, s1, s2, s3, s4, s5, s6, s7, s8, s9, j0, h9, h8⟩; go_simp; with_reducible rfl) (h := ?_)
        refine pu 25 85 (bits 33 0x7ffffff) HT_ (h := ?_)
        refine tk 27 87 (bits 33 0xfffffff) HT_ HW_ hHeld (hy := by rintro w' ⟨s0, s1, s2, s3, s4, s5, s6, s7, s8, s9, j0, h9, h8⟩; go_simp; with_reducible rfl) (h := ?_)
        refine pu 28 88 (bits 33 0x1fffffff) HT_ (h := ?_)
        refine pu 29 89 (bits 33 0x3fffffff) HT_ (h := ?_)
        refine pu 30 90 (bits 33 0x7fffffff) HT_ (h := ?_)
        refine one_ (i := 31) (N := some 12) #[true, true, true, true, true, true, true, true, true, true, true, true, true, true, true, true, true, true, true, true, true, true, true, true, true, true, true, true, true, true, true, true, false] rfl rfl (one_of HT_.out (by kernel_rfl)) (by decide) (fun K hK => ?_)
        refine box_step ?hg (N := 12) ?hd (cs := #[.int .i64 0, .int .i64 0, .int .i64 0]) (t := 56) ?hr ?_; (case hd => rfl); (case hg => rfl); (case hr => first | (go_simp; done) | (go_simp; rfl))
        intro a5 hg h6 hbox hb
        replace HO_500000 := kRb HO_500000 hb
        replace HO_500001 := Aside0.mk (Kd.R_below (Kd.R_elderB (kR HO_500001) a5 (Nat.le_of_eq hg.symm)) hb)
        have a8 := Aside0.mk (hbox)
        have c0 := bsz HB hg
        have w9 := bsz HB hg
        replace HB := bstep HB hb
        have d0 := blt a4 hg
        have c6 := bgt a4 hg
        replace a4 := bkb a4 hb
        have c8 := blt a6 hg
        have c5 := bgt a6 hg
        replace a6 := bkb a6 hb
        have c7 := blt a2 hg
        have c4 := bgt a2 hg
        replace a2 := bkb a2 hb
        clear hb hbox hg
        refine hK.out _ _ ⟨bc a4 0, bc a4 1, bc a2 0, bc a2 1, (hxc HB g6), (hxc HB g5), (hxc HB g4), (hxc HB g3), (hxc HB g2), (hxc HB g1), (hxc HB g0), (hxc HB e9), (hxc HB e8)⟩ (fun hHeld => ?_)
        clear hK K
        refine norm_ (a' := ?_) ?_ ?_
        rotate_left
        ·show Act.put _ (some 12) _ = _
         simp only [Act.put, List.setIfInBounds_toArray, List.set_cons_zero, List.set_cons_succ, i64_w, i32_w]
         rfl
        refine one_ (i := 32) (N := none) #[true, true, true, true, true, true, true, true, true, true, true, true, true, true, true, true, true, true, true, true, true, true, true, true, true, true, true, true, true, true, true, true, true] rfl rfl (one_of HT_.out (by kernel_rfl)) (by decide) (fun K hK => ?_)
        have Q1 : h6.cell? ⟨a5, 0, none⟩ = some (.int .i64 0) := bc a8 0
        have N3 := blk_frozen a8.out 0
        have C9 := d0.out
        have C8 := c8.out
        have C7 := c7.out
        have E9 := c6.out
        have E8 := c5.out
        have E7 := c4.out
        have Q0 : h6.cell? ⟨a5, 1, none⟩ = some (.int .i64 0) := bc a8 1
        have N2 := blk_frozen a8.out 1
        have C6 := d0.out
        have C5 := c8.out
        have C4 := c7.out
        have E6 := c6.out
        have E5 := c5.out
        have E4 := c4.out
        have P9 : h6.cell? ⟨a5, 2, none⟩ = some (.int .i64 0) := bc a8 2
        have N1 := blk_frozen a8.out 2
        have C3 := d0.out
        have C2 := c8.out
        have C1 := c7.out
        have E3 := c6.out
        have E2 := c5.out
        have E1 := c4.out
        refine skip_ (w1 := ?_) (by rfl) rfl ?_ ?_
        rotate_left
        ·go_simp
         rfl
        refine hK.out _ _ ⟨(cfr hHeld.1), (cfr hHeld.2.1), (cfr hHeld.2.2.1), (cfr hHeld.2.2.2.1), (cfn hHeld.2.2.2.2.1 (cfw g6 c0)), (cfn hHeld.2.2.2.2.2.1 (cfw g5 c0)), (cfn hHeld.2.2.2.2.2.2.1 (cfw g4 c0)), (cfn hHeld.2.2.2.2.2.2.2.1 (cfw g3 c0)), (cfn hHeld.2.2.2.2.2.2.2.2.1 (cfw g2 c0)), (cfn hHeld.2.2.2.2.2.2.2.2.2.1 (cfw g1 c0)), (cfn hHeld.2.2.2.2.2.2.2.2.2.2.1 (cfw g0 c0)), (cfn hHeld.2.2.2.2.2.2.2.2.2.2.2.1 (cfw e9 c0)), (cfn hHeld.2.2.2.2.2.2.2.2.2.2.2.2 (cfw e8 c0))⟩ (fun hHeld => ?_)
        clear hK K
        refine done_ (done_of HT_.out (by kernel_rfl)) ?_
        try go_wp2
        have o0 : Aside0 (Kd.R (Kd.int .i64) 3 (((h6.setCell ⟨a5, 0, none⟩ (.int .i64 (Int.tmod (wrap64 ((rd_T51 l2 a0).f0)) (a7.length : Int)))).setCell ⟨a5, 1, none⟩ (.int .i64 b1)).setCell ⟨a5, 2, none⟩ (.int .i64 b3)) w.heap.size (fun _ => True) (.slice r7 a1.length p4) a1) := ⟨ktm HO_500000 a8 (fun _ hk => trivial)⟩
        have n9 : Aside0 (Kd.R k56 56 (((h6.setCell ⟨a5, 0, none⟩ (.int .i64 (Int.tmod (wrap64 ((rd_T51 l2 a0).f0)) (a7.length : Int)))).setCell ⟨a5, 1, none⟩ (.int .i64 b1)).setCell ⟨a5, 2, none⟩ (.int .i64 b3)) w.heap.size (fun k_ => k_ ≠ a5) b7 b4) := ⟨knm (g := a5) HO_500001 (fun _ hk => hk.2) (fun _ hk => hk.1.2)⟩
        have n8 : Aside0 ((((h6.setCell ⟨a5, 0, none⟩ (.int .i64 (Int.tmod (wrap64 ((rd_T51 l2 a0).f0)) (a7.length : Int)))).setCell ⟨a5, 1, none⟩ (.int .i64 b1)).setCell ⟨a5, 2, none⟩ (.int .i64 b3)).heap[c3]? = some (.cells #[.slice d5 b2.length d3, .slice d4 a7.length d2] 31 (0, 0))) := ⟨bkF a4⟩
        have n7 : Aside0 ((((h6.setCell ⟨a5, 0, none⟩ (.int .i64 (Int.tmod (wrap64 ((rd_T51 l2 a0).f0)) (a7.length : Int)))).setCell ⟨a5, 1, none⟩ (.int .i64 b1)).setCell ⟨a5, 2, none⟩ (.int .i64 b3)).heap[g8]? = some (.cells #[.slice none 0 0, .slice none 0 0] 35 (0, 0))) := ⟨bkF a6⟩
        have n6 : Aside0 ((((h6.setCell ⟨a5, 0, none⟩ (.int .i64 (Int.tmod (wrap64 ((rd_T51 l2 a0).f0)) (a7.length : Int)))).setCell ⟨a5, 1, none⟩ (.int .i64 b1)).setCell ⟨a5, 2, none⟩ (.int .i64 b3)).heap[b9]? = some (.cells #[.slice r7 a1.length p4, b7] 35 (0, 0))) := ⟨bkF a2⟩
        have n5 : Aside0 ((((h6.setCell ⟨a5, 0, none⟩ (.int .i64 (Int.tmod (wrap64 ((rd_T51 l2 a0).f0)) (a7.length : Int)))).setCell ⟨a5, 1, none⟩ (.int .i64 b1)).setCell ⟨a5, 2, none⟩ (.int .i64 b3)).heap[a5]? = some (.cells #[.int .i64 (Int.tmod (wrap64 ((rd_T51 l2 a0).f0)) (a7.length : Int)), .int .i64 b1, .int .i64 b3] 56 (0, 0))) := ⟨bkP a8⟩
        have n4 : Aside0 (Below w.heap.size w (((h6.setCell ⟨a5, 0, none⟩ (.int .i64 (Int.tmod (wrap64 ((rd_T51 l2 a0).f0)) (a7.length : Int)))).setCell ⟨a5, 1, none⟩ (.int .i64 b1)).setCell ⟨a5, 2, none⟩ (.int .i64 b3))) := ⟨bb HB⟩
        (try clear HO_500000)
        (try clear HO_500001)
        (try clear a4)
        (try clear a6)
        (try clear a2)
        (try clear a8)
        (try clear HB)
        generalize (((h6.setCell ⟨a5, 0, none⟩ (.int .i64 (Int.tmod (wrap64 ((rd_T51 l2 a0).f0)) (a7.length : Int)))).setCell ⟨a5, 1, none⟩ (.int .i64 b1)).setCell ⟨a5, 2, none⟩ (.int .i64 b3)) = J2 at o0 n9 n8 n7 n6 n5 n4 ⊢
        have HO_500000 := o0
        have HO_500001 := n9
        have a4 := n8
        have a6 := n7
        have a2 := n6
        have a8 := n5
        have HB := n4
        clear o0 n9 n8 n7 n6 n5 n4
        replace HO_500000 := Aside0.mk (Kd.R_drew HO_500000.out)
        replace HO_500001 := Aside0.mk (Kd.R_drew HO_500001.out)
        replace a4 := Aside0.mk (blk_drew a4.out)
        replace a6 := Aside0.mk (blk_drew a6.out)
        replace a2 := Aside0.mk (blk_drew a2.out)
        replace a8 := Aside0.mk (blk_drew a8.out)
        replace HB := Aside0.mk (below_drew1 HB.out)
        have m2 : 0 ≤ ((b1) : Int) := odt
        have j7 : (b1) < (a1.length : Int) := odt
        obtain ⟨g7, q8, h4⟩ := Kd.at_int (Kd.R_reads' HO_500000.out).2.2 (b1) m2 j7
        cases q8
        replace m2 := eq_true m2
        replace j7 := eq_true j7
        have m1 : 0 ≤ ((b3) : Int) := odt
        have j6 : (b3) < (a1.length : Int) := odt
        obtain ⟨p5, q7, h3⟩ := Kd.at_int (Kd.R_reads' HO_500000.out).2.2 (b3) m1 j6
        obtain rfl : g7 = p5 := (by injection q7)
        replace m1 := eq_true m1
        replace j6 := eq_true j6
        refine start_ (n := 16) (S := fun w' => w'.cell? ⟨c3, 0, none⟩ = some (.slice d5 b2.length d3) ∧ w'.cell? ⟨c3, 1, none⟩ = some (.slice d4 a7.length d2) ∧ w'.cell? ⟨a5, 0, none⟩ = some (.int .i64 (Int.tmod (wrap64 ((rd_T51 l2 a0).f0)) (a7.length : Int))) ∧ w'.cell? ⟨a5, 1, none⟩ = some (.int .i64 b1) ∧ w'.cell? ⟨a5, 2, none⟩ = some (.int .i64 b3) ∧ w'.cell? ⟨b9, 0, none⟩ = some (.slice (some g7) a1.length p4) ∧ w'.cell? ⟨b9, 1, none⟩ = some (b7) ∧ w'.cell? (g7.add ((b1)).toNat) = some (.int .i64 (rd a1 (b1))) ∧ w'.cell? (g7.add ((b3)).toNat) = some (.int .i64 (rd a1 (b3)))) (ds := []) #[false, false, false, false, false, false, false, false, false, false, false, false, false, false, false, false] (by kernel_rfl) rfl rfl ⟨bc a4 0, bc a4 1, bc a8 0, bc a8 1, bc a8 2, bc a2 0, bc a2 1, h4, h3⟩ (fun hHeld => ?_); refine with_tabW scarfjointref18_Made.tab10 scarfjointref18_Made.bits10 (fun HT_ HW_ => ?_)
        generalize J2.drew = Q9 at HO_500000 HO_500001 a4 a6 a2 a8 HB h4 h3 hHeld ⊢
        refine pu 1 92 (bits 16 0x2) HT_ (h := ?_)
        refine pu 3 94 (bits 16 0xa) HT_ (h := ?_)
        refine pu 5 96 (bits 16 0x2a) HT_ (h := ?_)
        refine pu 9 100 (bits 16 0x22a) HT_ (h := ?_)
        refine pu 11 102 (bits 16 0xa2a) HT_ (h := ?_)
        refine tk 0 91 (bits 16 0xa2b) HT_ HW_ hHeld (hy := by rintro w' ⟨s0, s1, s2, s3, s4, s5, s6, s7, s8⟩; go_simp; with_reducible rfl) (h := ?_)
        refine tk 2 93 (bits 16 0xa2f) HT_ HW_ hHeld (hy := by rintro w' ⟨s0, s1, s2, s3, s4, s5, s6, s7, s8⟩; go_simp; with_reducible rfl) (h := ?_)
        refine tk 4 95 (bits 16 0xa3f) HT_ HW_ hHeld (hy := by rintro w' ⟨s0, s1, s2, s3, s4, s5, s6, s7, s8⟩; go_simp; with_reducible rfl) (h := ?_)
        refine tk 6 97 (bits 16 0xa7f) HT_ HW_ hHeld (hy := by rintro w' ⟨s0, s1, s2, s3, s4, s5, s6, s7, s8⟩; go_simp; with_reducible rfl) (h := ?_)
        refine pu 7 98 (bits 16 0xaff) HT_ (h := ?_)
        refine tk 8 99 (bits 16 0xbff) HT_ HW_ hHeld (hy := by rintro w' ⟨s0, s1, s2, s3, s4, s5, s6, s7, s8⟩; go_simp; with_reducible rfl) (h := ?_)
        refine tk 10 101 (bits 16 0xfff) HT_ HW_ hHeld (hy := by rintro w' ⟨s0, s1, s2, s3, s4, s5, s6, s7, s8⟩; go_simp; with_reducible rfl) (h := ?_)
        refine tk 12 103 (bits 16 0x1fff) HT_ HW_ hHeld (hy := by rintro w' ⟨s0, s1, s2, s3, s4, s5, s6, s7, s8⟩; go_simp; with_reducible rfl) (h := ?_)
        refine pu 13 104 (bits 16 0x3fff) HT_ (h := ?_)
        refine tk 14 105 (bits 16 0x7fff) HT_ HW_ hHeld (hy := by rintro w' ⟨s0, s1, s2, s3, s4, s5, s6, s7, s8⟩; go_simp; with_reducible rfl) (h := ?_)
        refine one_ (i := 15) (N := some 106) #[true, true, true, true, true, true, true, true, true, true, true, true, true, true, true, true] rfl rfl (one_of HT_.out (by kernel_rfl)) (by decide) (fun K hK => ?_)
        refine goes_ Tryz.func65 (by kernel_rfl) rfl #[.agg #[.slice d5 b2.length d3, .slice d4 a7.length d2], .int .i64 (Int.tmod (wrap64 ((rd_T51 l2 a0).f0)) (a7.length : Int)), .int .i64 (rd a1 (b1)), .int .i64 (rd a1 (b3))] (by rfl) rfl rfl (by (try simp only [List.map_toArray, List.map_cons, List.map_nil]); first | done | (simp only [n3, n2]; rfl) | rfl | (simp only [List.length_drop, List.length_take]; rfl)) ?_
        with_reducible refine (q4_Fits.calls _ _ _ _ _ _ _ _ _ _ _ _ ?p3 ?p2 ?p1 ?p0 A3.out).mono ?_
        (case p3 => exact cb t6 HB)
        (case p2 => exact v0.out)
        (case p1 => exact cb t5 HB)
        (case p0 => exact t9.out)
        rintro e Q8 ⟨rfl, hb⟩
        have r5 := (hb.cell (World.block_lt_of_cell? _ _ (hHeld.2.2.2.2.2.2.2.1))).trans (hHeld.2.2.2.2.2.2.2.1)
        have r4 := (hb.cell (World.block_lt_of_cell? _ _ (hHeld.2.2.2.2.2.2.2.2))).trans (hHeld.2.2.2.2.2.2.2.2)
        refine ⟨_, rfl, ?_⟩
        replace HO_500000 := kRb HO_500000 hb
        replace HO_500001 := kRb HO_500001 hb
        replace a4 := bkb a4 hb
        replace a6 := bkb a6 hb
        replace a2 := bkb a2 hb
        replace a8 := bkb a8 hb
        replace HB := bstep HB hb
        (try clear hb)
        (try clear hb2)
        (try clear hk)
        (try clear hi)
        refine hK.out _ _ ⟨bc a4 0, bc a4 1, bc a8 0, bc a8 1, bc a8 2, bc a2 0, bc a2 1, r5, r4⟩ (fun hHeld => ?_)
        clear hK K
        refine norm_ (a' := ?_) ?_ ?_
        rotate_left
        ·show Act.put _ (some 106) _ = _
         simp only [Act.put, List.setIfInBounds_toArray, List.set_cons_zero, List.set_cons_succ, i64_w, i32_w]
         rfl
        refine done_ (done_of HT_.out (by kernel_rfl)) ?_
        try go_wp2
        go_roundg h5
        case measure => have := o4.out; have := o3.out; have := p8.out; omega
        case rel => exact ⟨(wrap64 (a0 + 1)), (b4), (b7), eqs, H', ⟨by have := o4.out; have := o3.out; have := p8.out; omega⟩, ⟨kR HO_500000⟩, ⟨kmm HO_500001 (fun _ hk => trivial)⟩, ⟨bk a4⟩, ⟨bk a6⟩, ⟨bk a2⟩, ⟨bb HB⟩⟩
       subst t3
       replace H := ift H
       obtain ⟨y2, H⟩ := itn H
       have w4 := Aside0.mk y2
       clear y2
       obtain ⟨q3, m7⟩ : ∃ y_ : List (S56), y_ = (b4 ++ [(⟨Int.tmod (wrap64 ((rd_T51 l2 a0).f0)) (a7.length : Int), b1, b3⟩ : S56)]) := ⟨_, rfl⟩
       replace H : (scarfjointref18_Made.l1 h5 l2 (wrap64 (a0 + 1)) b2 a7 a1 q3) = some (r1, r2) := by first | (rw [m7]; with_reducible exact H) | (have H2_ := (Option.bind_some _ _).symm.trans H; rw [m7]; with_reducible exact H2_) | (have H2_ := (Option.bind_some _ _).symm.trans H; with_reducible exact H2_) | with_reducible exact H | (rw [m7]; exact H) | exact H
       have w2 := Aside0.mk m7
       clear m7
       have H' := Aside0.mk H
       clear H
       try go_wp2
       replace HO_500000 := Aside0.mk (Kd.R_drew HO_500000.out)
       replace HO_500001 := Aside0.mk (Kd.R_drew HO_500001.out)
       replace a4 := Aside0.mk (blk_drew a4.out)
       replace a6 := Aside0.mk (blk_drew a6.out)
       replace a2 := Aside0.mk (blk_drew a2.out)
       replace HB := Aside0.mk (below_drew1 HB.out)
       have m5 : 0 ≤ a0 := odt
       have m0 : a0 < (l2.length : Int) := odt
       obtain ⟨b0, r3, e5, e4, e3⟩ := at_T51 o9.out a0 m5 m0
       have g4 := e3
       have g5 := e4
       have g6 := e5
       cases r3
       replace e5 := hxc HB e5
       replace e4 := hxc HB e4
       replace e3 := hxc HB e3
       replace m5 := eq_true m5
       replace m0 := eq_true m0
       have m4 : 0 ≤ a0 := odt
       have j9 : a0 < (l2.length : Int) := odt
       obtain ⟨p7, r0, e2, e1, e0⟩ := at_T51 o9.out a0 m4 j9
       have g1 := e0
       have g2 := e1
       have g3 := e2
       obtain rfl : b0 = p7 := (by injection r0)
       replace e2 := hxc HB e2
       replace e1 := hxc HB e1
       replace e0 := hxc HB e0
       replace m4 := eq_true m4
       replace j9 := eq_true j9
       obtain ⟨r8, o1, eo47⟩ := Kd.R_slice HO_500000.out
       (first | subst eo47 | (injection eo47 with f1_ f2_ f3_; have f4_ := f1_.symm; have f5_ := f3_.symm; clear f1_ f2_ f3_; subst f4_; subst f5_))
       have m3 : 0 ≤ a0 := odt
       have j8 : a0 < (l2.length : Int) := odt
       obtain ⟨p6, q9, d9, d8, d7⟩ := at_T51 o9.out a0 m3 j8
       have e8 := d7
       have e9 := d8
       have g0 := d9
       obtain rfl : b0 = p6 := (by injection q9)
       replace d9 := hxc HB d9
       replace d8 := hxc HB d8
       replace d7 := hxc HB d7
       replace m3 := eq_true m3
       replace j8 := eq_true j8
       refine start_ (n := 33) (S := fun w' => w'.cell? ⟨c3, 0, none⟩ = some (.slice d5 b2.length d3) ∧ w'.cell? ⟨c3, 1, none⟩ = some (.slice d4 a7.length d2) ∧ w'.cell? ⟨b9, 0, none⟩ = some (.slice r8 a1.length o1) ∧ w'.cell? ⟨b9, 1, none⟩ = some (b7) ∧ w'.cell? (b0.add ((a0).toNat * 3)) = some (.int .u8 ((rd_T51 l2 a0).f0)) ∧ w'.cell? ⟨(b0.add ((a0).toNat * 3)).block, (b0.add ((a0).toNat * 3)).off + 1, none⟩ = some (.int .u8 ((rd_T51 l2 a0).f1)) ∧ w'.cell? ⟨(b0.add ((a0).toNat * 3)).block, (b0.add ((a0).toNat * 3)).off + 2, none⟩ = some (.int .u8 ((rd_T51 l2 a0).f2)) ∧ w'.cell? (b0.add ((a0).toNat * 3)) = some (.int .u8 ((rd_T51 l2 a0).f0)) ∧ w'.cell? ⟨(b0.add ((a0).toNat * 3)).block, (b0.add ((a0).toNat * 3)).off + 1, none⟩ = some (.int .u8 ((rd_T51 l2 a0).f1)) ∧ w'.cell? ⟨(b0.add ((a0).toNat * 3)).block, (b0.add ((a0).toNat * 3)).off + 2, none⟩ = some (.int .u8 ((rd_T51 l2 a0).f2)) ∧ w'.cell? (b0.add ((a0).toNat * 3)) = some (.int .u8 ((rd_T51 l2 a0).f0)) ∧ w'.cell? ⟨(b0.add ((a0).toNat * 3)).block, (b0.add ((a0).toNat * 3)).off + 1, none⟩ = some (.int .u8 ((rd_T51 l2 a0).f1)) ∧ w'.cell? ⟨(b0.add ((a0).toNat * 3)).block, (b0.add ((a0).toNat * 3)).off + 2, none⟩ = some (.int .u8 ((rd_T51 l2 a0).f2))) (ds := []) #[false, false, false, false, false, false, false, false, false, false, false, false, false, false, false, false, false, false, false, false, false, false, false, false, false, false, false, false, false, false, false, false, false] (by kernel_rfl) rfl rfl ⟨bc a4 0, bc a4 1, bc a2 0, bc a2 1, (hxc HB g6), (hxc HB g5), (hxc HB g4), (hxc HB g3), (hxc HB g2), (hxc HB g1), (hxc HB g0), (hxc HB e9), (hxc HB e8)⟩ (fun hHeld => ?_); refine with_tabW scarfjointref18_Made.tab9 scarfjointref18_Made.bits9 (fun HT_ HW_ => ?_)
       generalize wc.drew = R4 at HO_500000 HO_500001 a4 a6 a2 HB e5 e4 e3 e2 e1 e0 d9 d8 d7 hHeld ⊢
       refine pu 0 60 (bits 33 0x1) HT_ (h := ?_)
       refine pu 1 61 (bits 33 0x3) HT_ (h := ?_)
       refine pu 2 62 (bits 33 0x7) HT_ (h := ?_)
       refine pu 3 63 (bits 33 0xf) HT_ (h := ?_)
       refine pu 6 66 (bits 33 0x4f) HT_ (h := ?_)
       refine pu 10 70 (bits 33 0x44f) HT_ (h := ?_)
       refine pu 11 71 (bits 33 0xc4f) HT_ (h := ?_)
       refine pu 12 72 (bits 33 0x1c4f) HT_ (h := ?_)
       refine pu 13 73 (bits 33 0x3c4f) HT_ (h := ?_)
       refine pu 16 76 (bits 33 0x13c4f) HT_ (h := ?_)
       refine pu 20 80 (bits 33 0x113c4f) HT_ (h := ?_)
       refine pu 21 81 (bits 33 0x313c4f) HT_ (h := ?_)
       refine pu 22 82 (bits 33 0x713c4f) HT_ (h := ?_)
       refine pu 23 83 (bits 33 0xf13c4f) HT_ (h := ?_)
       refine pu 26 86 (bits 33 0x4f13c4f) HT_ (h := ?_)
       refine tk 4 64 (bits 33 0x4f13c5f) HT_ HW_ hHeld (hy := by rintro w' ⟨s0, s1, s2, s3, s4, s5, s6, s7, s8, s9, j0, h9, h8⟩; go_simp; with_reducible rfl) (h := ?_)
       refine pu 5 65 (bits 33 0x4f13c7f) HT_ (h := ?_)
       refine tk 7 67 (bits 33 0x4f13cff) HT_ HW_ hHeld (hy := by rintro w' ⟨s0, s1, s2, s3, s4, s5, s6, s7, s8, s9, j0, h9, h8⟩; go_simp; with_reducible rfl) (h := ?_)
       refine pu 8 68 (bits 33 0x4f13dff) HT_ (h := ?_)
       refine pu 9 69 (bits 33 0x4f13fff) HT_ (h := ?_)
       refine tk 14 74 (bits 33 0x4f17fff) HT_ HW_ hHeld (hy := by rintro w' ⟨s0, s1, s2, s3, s4, s5, s6, s7, s8, s9, j0, h9, h8⟩; go_simp; with_reducible rfl) (h := ?_)
       refine pu 15 75 (bits 33 0x4f1ffff) HT_ (h := ?_)
       refine tk 17 77 (bits 33 0x4f3ffff) HT_ HW_ hHeld (hy := by rintro w' ⟨s0, s1, s2, s3, s4, s5, s6, s7, s8, s9, j0, h9, h8⟩; go_simp; with_reducible rfl) (h := ?_)
       refine pu 18 78 (bits 33 0x4f7ffff) HT_ (h := ?_)
       refine pu 19 79 (bits 33 0x4ffffff) HT_ (h := ?_)
       refine tk 24 84 (bits 33 0x5ffffff) HT_ HW_ hHeld (hy := by rintro w' ⟨s0, s1, s2, s3, s4, s5, s6, s7, s8, s9, j0, h9, h8⟩; go_simp; with_reducible rfl) (h := ?_)
       refine pu 25 85 (bits 33 0x7ffffff) HT_ (h := ?_)
       refine tk 27 87 (bits 33 0xfffffff) HT_ HW_ hHeld (hy := by rintro w' ⟨s0, s1, s2, s3, s4, s5, s6, s7, s8, s9, j0, h9, h8⟩; go_simp; with_reducible rfl) (h := ?_)
       refine pu 28 88 (bits 33 0x1fffffff) HT_ (h := ?_)
       refine pu 29 89 (bits 33 0x3fffffff) HT_ (h := ?_)
       refine pu 30 90 (bits 33 0x7fffffff) HT_ (h := ?_)
       refine one_ (i := 31) (N := some 12) #[true, true, true, true, true, true, true, true, true, true, true, true, true, true, true, true, true, true, true, true, true, true, true, true, true, true, true, true, true, true, true, true, false] rfl rfl (one_of HT_.out (by kernel_rfl)) (by decide) (fun K hK => ?_)
       refine box_step ?hg (N := 12) ?hd (cs := #[.int .i64 0, .int .i64 0, .int .i64 0]) (t := 56) ?hr ?_; (case hd => rfl); (case hg => rfl); (case hr => first | (go_simp; done) | (go_simp; rfl))
       intro a5 hg h7 hbox hb
       replace HO_500000 := kRb HO_500000 hb
       replace HO_500001 := Aside0.mk (Kd.R_below (Kd.R_elderB (kR HO_500001) a5 (Nat.le_of_eq hg.symm)) hb)
       have a8 := Aside0.mk (hbox)
       have c0 := bsz HB hg
       have w9 := bsz HB hg
       replace HB := bstep HB hb
       have d0 := blt a4 hg
       have c6 := bgt a4 hg
       replace a4 := bkb a4 hb
       have c8 := blt a6 hg
       have c5 := bgt a6 hg
       replace a6 := bkb a6 hb
       have c7 := blt a2 hg
       have c4 := bgt a2 hg
       replace a2 := bkb a2 hb
       clear hb hbox hg
       refine hK.out _ _ ⟨bc a4 0, bc a4 1, bc a2 0, bc a2 1, (hxc HB g6), (hxc HB g5), (hxc HB g4), (hxc HB g3), (hxc HB g2), (hxc HB g1), (hxc HB g0), (hxc HB e9), (hxc HB e8)⟩ (fun hHeld => ?_)
       clear hK K
       refine norm_ (a' := ?_) ?_ ?_
       rotate_left
       ·show Act.put _ (some 12) _ = _
        simp only [Act.put, List.setIfInBounds_toArray, List.set_cons_zero, List.set_cons_succ, i64_w, i32_w]
        rfl
       refine one_ (i := 32) (N := none) #[true, true, true, true, true, true, true, true, true, true, true, true, true, true, true, true, true, true, true, true, true, true, true, true, true, true, true, true, true, true, true, true, true] rfl rfl (one_of HT_.out (by kernel_rfl)) (by decide) (fun K hK => ?_)
       have Q4 : h7.cell? ⟨a5, 0, none⟩ = some (.int .i64 0) := bc a8 0
       have N6 := blk_frozen a8.out 0
       have D8 := d0.out
       have D7 := c8.out
       have D6 := c7.out
       have F8 := c6.out
       have F7 := c5.out
       have F6 := c4.out
       have Q3 : h7.cell? ⟨a5, 1, none⟩ = some (.int .i64 0) := bc a8 1
       have N5 := blk_frozen a8.out 1
       have D5 := d0.out
       have D4 := c8.out
       have D3 := c7.out
       have F5 := c6.out
       have F4 := c5.out
       have F3 := c4.out
       have Q2 : h7.cell? ⟨a5, 2, none⟩ = some (.int .i64 0) := bc a8 2
       have N4 := blk_frozen a8.out 2
       have D2 := d0.out
       have D1 := c8.out
       have D0 := c7.out
       have F2 := c6.out
       have F1 := c5.out
       have F0 := c4.out
       refine skip_ (w1 := ?_) (by rfl) rfl ?_ ?_
       rotate_left
       ·go_simp
        rfl
       refine hK.out _ _ ⟨(cfr hHeld.1), (cfr hHeld.2.1), (cfr hHeld.2.2.1), (cfr hHeld.2.2.2.1), (cfn hHeld.2.2.2.2.1 (cfw g6 c0)), (cfn hHeld.2.2.2.2.2.1 (cfw g5 c0)), (cfn hHeld.2.2.2.2.2.2.1 (cfw g4 c0)), (cfn hHeld.2.2.2.2.2.2.2.1 (cfw g3 c0)), (cfn hHeld.2.2.2.2.2.2.2.2.1 (cfw g2 c0)), (cfn hHeld.2.2.2.2.2.2.2.2.2.1 (cfw g1 c0)), (cfn hHeld.2.2.2.2.2.2.2.2.2.2.1 (cfw g0 c0)), (cfn hHeld.2.2.2.2.2.2.2.2.2.2.2.1 (cfw e9 c0)), (cfn hHeld.2.2.2.2.2.2.2.2.2.2.2.2 (cfw e8 c0))⟩ (fun hHeld => ?_)
       clear hK K
       refine done_ (done_of HT_.out (by kernel_rfl)) ?_
       try go_wp2
       have o0 : Aside0 (Kd.R (Kd.int .i64) 3 (((h7.setCell ⟨a5, 0, none⟩ (.int .i64 (Int.tmod (wrap64 ((rd_T51 l2 a0).f0)) (a7.length : Int)))).setCell ⟨a5, 1, none⟩ (.int .i64 b1)).setCell ⟨a5, 2, none⟩ (.int .i64 b3)) w.heap.size (fun _ => True) (.slice r8 a1.length o1) a1) := ⟨ktm HO_500000 a8 (fun _ hk => trivial)⟩
       have n9 : Aside0 (Kd.R k56 56 (((h7.setCell ⟨a5, 0, none⟩ (.int .i64 (Int.tmod (wrap64 ((rd_T51 l2 a0).f0)) (a7.length : Int)))).setCell ⟨a5, 1, none⟩ (.int .i64 b1)).setCell ⟨a5, 2, none⟩ (.int .i64 b3)) w.heap.size (fun k_ => k_ ≠ a5) b7 b4) := ⟨knm (g := a5) HO_500001 (fun _ hk => hk.2) (fun _ hk => hk.1.2)⟩
       have n8 : Aside0 ((((h7.setCell ⟨a5, 0, none⟩ (.int .i64 (Int.tmod (wrap64 ((rd_T51 l2 a0).f0)) (a7.length : Int)))).setCell ⟨a5, 1, none⟩ (.int .i64 b1)).setCell ⟨a5, 2, none⟩ (.int .i64 b3)).heap[c3]? = some (.cells #[.slice d5 b2.length d3, .slice d4 a7.length d2] 31 (0, 0))) := ⟨bkF a4⟩
       have n7 : Aside0 ((((h7.setCell ⟨a5, 0, none⟩ (.int .i64 (Int.tmod (wrap64 ((rd_T51 l2 a0).f0)) (a7.length : Int)))).setCell ⟨a5, 1, none⟩ (.int .i64 b1)).setCell ⟨a5, 2, none⟩ (.int .i64 b3)).heap[g8]? = some (.cells #[.slice none 0 0, .slice none 0 0] 35 (0, 0))) := ⟨bkF a6⟩
       have n6 : Aside0 ((((h7.setCell ⟨a5, 0, none⟩ (.int .i64 (Int.tmod (wrap64 ((rd_T51 l2 a0).f0)) (a7.length : Int)))).setCell ⟨a5, 1, none⟩ (.int .i64 b1)).setCell ⟨a5, 2, none⟩ (.int .i64 b3)).heap[b9]? = some (.cells #[.slice r8 a1.length o1, b7] 35 (0, 0))) := ⟨bkF a2⟩
       have n5 : Aside0 ((((h7.setCell ⟨a5, 0, none⟩ (.int .i64 (Int.tmod (wrap64 ((rd_T51 l2 a0).f0)) (a7.length : Int)))).setCell ⟨a5, 1, none⟩ (.int .i64 b1)).setCell ⟨a5, 2, none⟩ (.int .i64 b3)).heap[a5]? = some (.cells #[.int .i64 (Int.tmod (wrap64 ((rd_T51 l2 a0).f0)) (a7.length : Int)), .int .i64 b1, .int .i64 b3] 56 (0, 0))) := ⟨bkP a8⟩
       have n4 : Aside0 (Below w.heap.size w (((h7.setCell ⟨a5, 0, none⟩ (.int .i64 (Int.tmod (wrap64 ((rd_T51 l2 a0).f0)) (a7.length : Int)))).setCell ⟨a5, 1, none⟩ (.int .i64 b1)).setCell ⟨a5, 2, none⟩ (.int .i64 b3))) := ⟨bb HB⟩
       (try clear HO_500000)
       (try clear HO_500001)
       (try clear a4)
       (try clear a6)
       (try clear a2)
       (try clear a8)
       (try clear HB)
       generalize (((h7.setCell ⟨a5, 0, none⟩ (.int .i64 (Int.tmod (wrap64 ((rd_T51 l2 a0).f0)) (a7.length : Int)))).setCell ⟨a5, 1, none⟩ (.int .i64 b1)).setCell ⟨a5, 2, none⟩ (.int .i64 b3)) = J3 at o0 n9 n8 n7 n6 n5 n4 ⊢
       have HO_500000 := o0
       have HO_500001 := n9
       have a4 := n8
       have a6 := n7
       have a2 := n6
       have a8 := n5
       have HB := n4
       clear o0 n9 n8 n7 n6 n5 n4
       replace HO_500000 := Aside0.mk (Kd.R_drew HO_500000.out)
       replace HO_500001 := Aside0.mk (Kd.R_drew HO_500001.out)
       replace a4 := Aside0.mk (blk_drew a4.out)
       replace a6 := Aside0.mk (blk_drew a6.out)
       replace a2 := Aside0.mk (blk_drew a2.out)
       replace a8 := Aside0.mk (blk_drew a8.out)
       replace HB := Aside0.mk (below_drew1 HB.out)
       have m2 : 0 ≤ ((b1) : Int) := odt
       have j7 : (b1) < (a1.length : Int) := odt
       obtain ⟨g7, q8, h4⟩ := Kd.at_int (Kd.R_reads' HO_500000.out).2.2 (b1) m2 j7
       cases q8
       replace m2 := eq_true m2
       replace j7 := eq_true j7
       have m1 : 0 ≤ ((b3) : Int) := odt
       have j6 : (b3) < (a1.length : Int) := odt
       obtain ⟨p5, q7, h3⟩ := Kd.at_int (Kd.R_reads' HO_500000.out).2.2 (b3) m1 j6
       obtain rfl : g7 = p5 := (by injection q7)
       replace m1 := eq_true m1
       replace j6 := eq_true j6
       refine start_ (n := 16) (S := fun w' => w'.cell? ⟨c3, 0, none⟩ = some (.slice d5 b2.length d3) ∧ w'.cell? ⟨c3, 1, none⟩ = some (.slice d4 a7.length d2) ∧ w'.cell? ⟨a5, 0, none⟩ = some (.int .i64 (Int.tmod (wrap64 ((rd_T51 l2 a0).f0)) (a7.length : Int))) ∧ w'.cell? ⟨a5, 1, none⟩ = some (.int .i64 b1) ∧ w'.cell? ⟨a5, 2, none⟩ = some (.int .i64 b3) ∧ w'.cell? ⟨b9, 0, none⟩ = some (.slice (some g7) a1.length o1) ∧ w'.cell? ⟨b9, 1, none⟩ = some (b7) ∧ w'.cell? (g7.add ((b1)).toNat) = some (.int .i64 (rd a1 (b1))) ∧ w'.cell? (g7.add ((b3)).toNat) = some (.int .i64 (rd a1 (b3)))) (ds := []) #[false, false, false, false, false, false, false, false, false, false, false, false, false, false, false, false] (by kernel_rfl) rfl rfl ⟨bc a4 0, bc a4 1, bc a8 0, bc a8 1, bc a8 2, bc a2 0, bc a2 1, h4, h3⟩ (fun hHeld => ?_); refine with_tabW scarfjointref18_Made.tab10 scarfjointref18_Made.bits10 (fun HT_ HW_ => ?_)
       generalize J3.drew = R3 at HO_500000 HO_500001 a4 a6 a2 a8 HB h4 h3 hHeld ⊢
       refine pu 1 92 (bits 16 0x2) HT_ (h := ?_)
       refine pu 3 94 (bits 16 0xa) HT_ (h := ?_)
       refine pu 5 96 (bits 16 0x2a) HT_ (h := ?_)
       refine pu 9 100 (bits 16 0x22a) HT_ (h := ?_)
       refine pu 11 102 (bits 16 0xa2a) HT_ (h := ?_)
       refine tk 0 91 (bits 16 0xa2b) HT_ HW_ hHeld (hy := by rintro w' ⟨s0, s1, s2, s3, s4, s5, s6, s7, s8⟩; go_simp; with_reducible rfl) (h := ?_)
       refine tk 2 93 (bits 16 0xa2f) HT_ HW_ hHeld (hy := by rintro w' ⟨s0, s1, s2, s3, s4, s5, s6, s7, s8⟩; go_simp; with_reducible rfl) (h := ?_)
       refine tk 4 95 (bits 16 0xa3f) HT_ HW_ hHeld (hy := by rintro w' ⟨s0, s1, s2, s3, s4, s5, s6, s7, s8⟩; go_simp; with_reducible rfl) (h := ?_)
       refine tk 6 97 (bits 16 0xa7f) HT_ HW_ hHeld (hy := by rintro w' ⟨s0, s1, s2, s3, s4, s5, s6, s7, s8⟩; go_simp; with_reducible rfl) (h := ?_)
       refine pu 7 98 (bits 16 0xaff) HT_ (h := ?_)
       refine tk 8 99 (bits 16 0xbff) HT_ HW_ hHeld (hy := by rintro w' ⟨s0, s1, s2, s3, s4, s5, s6, s7, s8⟩; go_simp; with_reducible rfl) (h := ?_)
       refine tk 10 101 (bits 16 0xfff) HT_ HW_ hHeld (hy := by rintro w' ⟨s0, s1, s2, s3, s4, s5, s6, s7, s8⟩; go_simp; with_reducible rfl) (h := ?_)
       refine tk 12 103 (bits 16 0x1fff) HT_ HW_ hHeld (hy := by rintro w' ⟨s0, s1, s2, s3, s4, s5, s6, s7, s8⟩; go_simp; with_reducible rfl) (h := ?_)
       refine pu 13 104 (bits 16 0x3fff) HT_ (h := ?_)
       refine tk 14 105 (bits 16 0x7fff) HT_ HW_ hHeld (hy := by rintro w' ⟨s0, s1, s2, s3, s4, s5, s6, s7, s8⟩; go_simp; with_reducible rfl) (h := ?_)
       refine one_ (i := 15) (N := some 106) #[true, true, true, true, true, true, true, true, true, true, true, true, true, true, true, true] rfl rfl (one_of HT_.out (by kernel_rfl)) (by decide) (fun K hK => ?_)
       refine goes_ Tryz.func65 (by kernel_rfl) rfl #[.agg #[.slice d5 b2.length d3, .slice d4 a7.length d2], .int .i64 (Int.tmod (wrap64 ((rd_T51 l2 a0).f0)) (a7.length : Int)), .int .i64 (rd a1 (b1)), .int .i64 (rd a1 (b3))] (by rfl) rfl rfl (by (try simp only [List.map_toArray, List.map_cons, List.map_nil]); first | done | (simp only [n3, n2]; rfl) | rfl | (simp only [List.length_drop, List.length_take]; rfl)) ?_
       with_reducible refine (q4_Fits.calls _ _ _ _ _ _ _ _ _ _ _ _ ?p3 ?p2 ?p1 ?p0 A3.out).mono ?_
       (case p3 => exact cb t6 HB)
       (case p2 => exact v0.out)
       (case p1 => exact cb t5 HB)
       (case p0 => exact t9.out)
       rintro e R2 ⟨rfl, hb⟩
       have r5 := (hb.cell (World.block_lt_of_cell? _ _ (hHeld.2.2.2.2.2.2.2.1))).trans (hHeld.2.2.2.2.2.2.2.1)
       have r4 := (hb.cell (World.block_lt_of_cell? _ _ (hHeld.2.2.2.2.2.2.2.2))).trans (hHeld.2.2.2.2.2.2.2.2)
       refine ⟨_, rfl, ?_⟩
       replace HO_500000 := kRb HO_500000 hb
       replace HO_500001 := kRb HO_500001 hb
       replace a4 := bkb a4 hb
       replace a6 := bkb a6 hb
       replace a2 := bkb a2 hb
       replace a8 := bkb a8 hb
       replace HB := bstep HB hb
       (try clear hb)
       (try clear hb2)
       (try clear hk)
       (try clear hi)
       refine hK.out _ _ ⟨bc a4 0, bc a4 1, bc a8 0, bc a8 1, bc a8 2, bc a2 0, bc a2 1, r5, r4⟩ (fun hHeld => ?_)
       clear hK K
       refine norm_ (a' := ?_) ?_ ?_
       rotate_left
       ·show Act.put _ (some 106) _ = _
        simp only [Act.put, List.setIfInBounds_toArray, List.set_cons_zero, List.set_cons_succ, i64_w, i32_w]
        rfl
       refine done_ (done_of HT_.out (by kernel_rfl)) ?_
       have M7 := h0.out
       have L6 := h2.out
       have M6 := g9.out
       have L5 := h1.out
       have M5 := c7.out
       have L4 := c4.out
       obtain ⟨I6, I5, H1, H0⟩ := cz2 a2
       have M4 := c6.out
       have L3 := d0.out
       have M3 := c5.out
       have L2 := c8.out
       obtain ⟨I4, I3, I2, G9, G8, G7⟩ := cz3 a8
       try go_wp2_with (first | ((with_reducible refine gate_builtin (b := .append) (xs := #[.tmp 108, .tmp 110]) rfl ?_); (try (refine gate_guard (by rfl) ?_; dsimp only)); at_builtin; refine Kd.R_append k56 (w0 := w) w.heap.size rfl (.tmp 108) (.tmp 110) 33 56 (.agg #[(.int .i64 0), (.int .i64 0), (.int .i64 0)]) 24 rfl Tryz.underlying33 info56 rfl (by decide) (by omega) b7 b4 (⟨Int.tmod (wrap64 ((rd_T51 l2 a0).f0)) (a7.length : Int), b1, b3⟩ : S56) [.int .i64 (Int.tmod (wrap64 ((rd_T51 l2 a0).f0)) (a7.length : Int)), .int .i64 b1, .int .i64 b3] (fun k_ => k_ ≠ a5) (fun _ => False) rfl rfl ?aP (fun _ hk => hk.elim) ?aF ?aO ?aB ?aS ?aL ?_; (case aP => exact k56_mkM _ _ _ (⟨Int.tmod (wrap64 ((rd_T51 l2 a0).f0)) (a7.length : Int), b1, b3⟩ : S56)); (case aB => exact (bb HB)); (case aF => exact (fun k_ hk => Kd.freshB (g := a5) (o := .cells #[.int .i64 (Int.tmod (wrap64 ((rd_T51 l2 a0).f0)) (a7.length : Int)), .int .i64 b1, .int .i64 b3] 56 (0, 0)) (bk a8) k_ hk)); (case aO => exact (kR HO_500001)); (case aS => exact (below_size (bb HB))); (case aL => have := w4.out; omega); intro P7 R1 ho hb hg hat; rw [← w2.out] at ho; replace HO_500000 := Aside0.mk (Kd.R_over' (kR HO_500000) (Kd.R_typed (kR HO_500001)) (by decide) hg); replace a4 := Aside0.mk (blk_grown (g := c3) (o := .cells #[.slice d5 b2.length d3, .slice d4 a7.length d2] 31 (0, 0)) (bk a4) hg (Kd.R_ne HO_500001.out a4.out (by decide))); replace a6 := Aside0.mk (blk_grown (g := g8) (o := .cells #[.slice none 0 0, .slice none 0 0] 35 (0, 0)) (bk a6) hg (Kd.R_ne HO_500001.out a6.out (by decide))); replace a2 := Aside0.mk (blk_grown (g := b9) (o := .cells #[.slice (some g7) a1.length o1, b7] 35 (0, 0)) (bk a2) hg (Kd.R_ne HO_500001.out a2.out (by decide))); replace HB := Aside0.mk (hb); have t7 := Aside0.mk (ho); clear HO_500001 ho hb hg hat; obtain ⟨A9, A6, eo63⟩ := Kd.R_slice t7.out; subst eo63; obtain ⟨I1, I0, G6, G5⟩ := cz2 a2))
       go_roundg h5
       case measure => have := o4.out; have := o3.out; have := p8.out; omega
       case rel => exact ⟨(wrap64 (a0 + 1)), (q3), (.slice A9 q3.length A6), eqs, H', ⟨by have := o4.out; have := o3.out; have := p8.out; omega⟩, ⟨ktm HO_500000 a2 (fun _ hk => trivial)⟩, ⟨ktm t7 a2 (fun _ hk => trivial)⟩, ⟨bkF a4⟩, ⟨bkF a6⟩, ⟨bkP a2⟩, ⟨bb HB⟩⟩
def scarfjointlaw18_made.f (k : Nat) (c8 : List (S107)) (c7 : List (S107)) (c6 : List Int) (c4 : List (S51)) : Option ((List (S96)) × (List (S101)) × List Int × (List (S56))) := (q4_Made.f k c8 c7).bind fun c9 => ((scarfjointref18_Made.f k c9.1 c9.2 c6 c4 8).bind fun g0 => (some (c9.1, c9.2, g0.1, g0.2)))
def scarfjointlaw18_made.T2 : Bool × List (List Nat × List Nat) := (true, [([], []), ([], []), ([], []), ([2], [2]), ([], []), ([4], [4]), ([1, 3, 5], [1, 3, 5]), ([0, 6, 0], [0]), ([6, 7, 0, 1, 2, 3, 4, 5, 6, 7], [6])])
def scarfjointlaw18_made.B2 : List Nat := [0, 0, 0, 4, 0, 16, 62, 127, 255]
theorem scarfjointlaw18_made.tab2 : rtab .any (opsOf Tryz.f11 2) = scarfjointlaw18_made.T2 := by kernel_rfl
theorem scarfjointlaw18_made.bits2 : waitsOk scarfjointlaw18_made.T2.2 scarfjointlaw18_made.B2 = true := by kernel_rfl
theorem scarfjointlaw18_made.calls (k : Nat) (e8 : Option Addr) (e4 : Nat) (c8 : List (S107)) (e7 : Option Addr) (e3 : Nat) (c7 : List (S107)) (e6 : Option Addr) (e2 : Nat) (c6 : List Int) (e5 : Option Addr) (e1 : Nat) (c4 : List (S51)) (r1 : List (S96)) (r2 : List (S101)) (r3 : List Int) (r4 : List (S56)) (w : World) (j8 : Kd.C k107 w e8 c8.length c8) (m4 : c8.length ≤ e4) (j7 : Kd.C k107 w e7 c7.length c7) (m3 : c7.length ≤ e3) (j6 : Kd.C (Kd.int .u8) w e6 c6.length c6) (m2 : c6.length ≤ e2) (j5 : Kd.C k51 w e5 c4.length c4) (m1 : c4.length ≤ e1) (h : scarfjointlaw18_made.f k c8 c7 c6 c4 = some (r1, r2, r3, r4)) :
  Calls Tryz.prog 11 #[.agg #[.slice e8 c8.length e4, .slice e7 c7.length e3, .slice e6 c6.length e2, .slice e5 c4.length e1]] w fun e w' => ∃ q0 n4 n3 n2 : Value, e = .returned (.tuple #[.agg #[q0, n4], .agg #[n3, n2]]) ∧ Kd.N k96 96 w' w.heap.size (fun k_ => (w.heap.size ≤ k_) ∧ some k_ ≠ (n4 : Value).ownBlock ∧ some k_ ≠ (n3 : Value).ownBlock ∧ some k_ ≠ (n2 : Value).ownBlock) q0 r1 ∧ Kd.R k101 101 w' w.heap.size (fun k_ => (w.heap.size ≤ k_)) n4 r2 ∧ Kd.R (Kd.int .i64) 3 w' w.heap.size (fun k_ => (w.heap.size ≤ k_)) n3 r3 ∧ Kd.R k56 56 w' w.heap.size (fun k_ => (w.heap.size ≤ k_)) n2 r4 ∧ Below w.heap.size w w' := by
 have hu26 := Tryz.underlying26
 have hu31 := Tryz.underlying31
 have hu35 := Tryz.underlying35
 have p3 := Aside0.mk j8
 have p7 := Aside0.mk m4
 clear j8 m4
 have p2 := Aside0.mk j7
 have p6 := Aside0.mk m3
 clear j7 m3
 have p1 := Aside0.mk j6
 have p5 := Aside0.mk m2
 clear j6 m2
 have p0 := Aside0.mk j5
 have p4 := Aside0.mk m1
 clear j5 m1
 have HB := Aside0.mk (Below.refl w.heap.size w)
 have H : ((q4_Made.f k c8 c7).bind fun c9 => ((scarfjointref18_Made.f k c9.1 c9.2 c6 c4 8).bind fun g0 => (some (c9.1, c9.2, g0.1, g0.2)))) = some (r1, r2, r3, r4) := h
 clear h
 obtain ⟨⟨a9, a8⟩, A2, H⟩ := obA H
 try dsimp only at H
 obtain ⟨⟨g1, g7⟩, A3, H⟩ := obA H
 try dsimp only at H
 simp only [Option.some.injEq, Prod.mk.injEq] at H
 obtain ⟨rfl, rfl, rfl, rfl⟩ := H
 go_enter Tryz.func11, Tryz.ntmps11
 try go_wp2_with (first | ((with_reducible refine gate_dst (N := 1) rfl ?_); refine be 1 #[.slice e8 c8.length e4, .slice e7 c7.length e3, .slice e6 c6.length e2, .slice e5 c4.length e1] 26 ?_; intro d0 hg w4 hbox hb; have a0 := Aside0.mk (hbox); have A9 := bsz HB hg; replace HB := bstep HB hb; clear hb hbox hg) | ((with_reducible refine gate_dst (N := 2) rfl ?_); refine be 2 #[.slice none 0 0, .slice none 0 0] 31 ?_; intro a7 hg w5 hbox hb; have a2 := Aside0.mk (hbox); have A8 := bsz HB hg; replace HB := bstep HB hb; have d9 := blt a0 hg; have d7 := bgt a0 hg; replace a0 := bkb a0 hb; clear hb hbox hg) | ((with_reducible refine gate_dst (N := 3) rfl ?_); refine be 3 #[.slice none 0 0, .slice none 0 0] 35 ?_; intro a6 hg w6 hbox hb; have a3 := Aside0.mk (hbox); have A7 := bsz HB hg; replace HB := bstep HB hb; have d8 := blt a0 hg; have d5 := bgt a0 hg; replace a0 := bkb a0 hb; have b9 := blt a2 hg; have b8 := bgt a2 hg; replace a2 := bkb a2 hb; clear hb hbox hg; have D0 := d9.out; have C8 := d7.out; have C9 := d8.out; have C7 := d5.out; obtain ⟨x6, x5, x3, x2, x1, w7, w3, w2⟩ := cz4 a0) | ((with_reducible refine gate_callee (f := 35) rfl ?_); refine gl 9 Tryz.func35 #[.slice e8 c8.length e4, .slice e7 c7.length e3] (h := ?_); (with_reducible refine (q4_Made.calls _ _ _ _ _ _ _ _ _ _ ?c2 ?c1 ?d1 ?h5 A2.out).mono ?_); (case c2 => exact cb p3 HB); (case c1 => exact p7.out); (case d1 => exact cb p2 HB); (case h5 => exact p6.out); rintro e D3 ⟨C2, q7, rfl, h3, h2, hb⟩; refine ⟨_, rfl, ?_⟩; have b5 := Aside0.mk (Kd.N_lower (Kd.N_mono (ok' := fun k_ => (w.heap.size ≤ k_) ∧ some k_ ≠ (q7 : Value).ownBlock ∧ k_ ≠ d0 ∧ k_ ≠ a7 ∧ k_ ≠ a6) h3 (fun k_ hk_ => ⟨(Nat.le_trans (below_size (bb HB)) hk_.1), hk_.2, (Kd.freshB (g := d0) (o := .cells #[.slice e8 c8.length e4, .slice e7 c7.length e3, .slice e6 c6.length e2, .slice e5 c4.length e1] 26 (0, 0)) (bk a0) k_ hk_.1), (Kd.freshB (g := a7) (o := .cells #[.slice none 0 0, .slice none 0 0] 31 (0, 0)) (bk a2) k_ hk_.1), (Kd.freshB (g := a6) (o := .cells #[.slice none 0 0, .slice none 0 0] 35 (0, 0)) (bk a3) k_ hk_.1)⟩)) (below_size (bb HB))); have b4 := Aside0.mk (Kd.R_lower (Kd.R_newM (M := fun k_ => (w.heap.size ≤ k_)) (Kd.R_mono (ok' := fun k_ => True) h2 (fun _ hk_ => trivial)) (below_size (bb HB)) (fun k_ h_ => h_)) (below_size (bb HB))); replace a0 := bkb a0 hb; replace a2 := bkb a2 hb; replace a3 := bkb a3 hb; replace HB := bstep HB hb; clear hb h3 h2) | ((with_reducible refine gate_dst (N := 4) rfl ?_); refine be 4 #[.slice none 0 0, .slice none 0 0] 31 ?_; intro a4 hg e9 hbox hb; replace b5 := Aside0.mk (Kd.N_below (Kd.N_elderB (kN b5) a4 (Nat.le_of_eq hg.symm)) hb); replace b4 := kRb b4 hb; have b6 := Aside0.mk (hbox); have A6 := bsz HB hg; replace HB := bstep HB hb; have h9 := blt a0 hg; have h8 := bgt a0 hg; replace a0 := bkb a0 hb; have d6 := blt a2 hg; have d3 := bgt a2 hg; replace a2 := bkb a2 hb; have d4 := blt a3 hg; have d2 := bgt a3 hg; replace a3 := bkb a3 hb; clear hb hbox hg; obtain ⟨b3, b1, eo12⟩ := Kd.N_slice b5.out; subst eo12; have y2 := h8.out; have x9 := h9.out; have y1 := d3.out; have x8 := d6.out; have y0 := d2.out; have x7 := d4.out; obtain ⟨v8, v7, v5, v4⟩ := cz2 b6; obtain ⟨b2, b0, eo17⟩ := Kd.R_slice b4.out; subst eo17))
 have o1 : Aside0 (Kd.N k96 96 ((e9.setCell ⟨a4, 0, none⟩ (.slice b3 a9.length b1)).setCell ⟨a4, 1, none⟩ (.slice b2 a8.length b0)) w.heap.size (fun k_ => (w.heap.size ≤ k_) ∧ some k_ ≠ (.slice b2 a8.length b0 : Value).ownBlock ∧ k_ ≠ d0 ∧ k_ ≠ a7 ∧ k_ ≠ a6 ∧ k_ ≠ a4) (.slice b3 a9.length b1) a9) := ⟨kNm (g := a4) b5 (fun _ hk => hk.2) (fun _ hk => ⟨hk.1.1.1, ⟨hk.1.1.2.1, ⟨hk.1.1.2.2.1, ⟨hk.1.1.2.2.2.1, ⟨hk.1.1.2.2.2.2, hk.1.2⟩⟩⟩⟩⟩)⟩
 have o0 : Aside0 (Kd.R k101 101 ((e9.setCell ⟨a4, 0, none⟩ (.slice b3 a9.length b1)).setCell ⟨a4, 1, none⟩ (.slice b2 a8.length b0)) w.heap.size (fun k_ => (w.heap.size ≤ k_)) (.slice b2 a8.length b0) a8) := ⟨ktm b4 b6 (fun _ hk => hk.1.1)⟩
 have n9 : Aside0 (((e9.setCell ⟨a4, 0, none⟩ (.slice b3 a9.length b1)).setCell ⟨a4, 1, none⟩ (.slice b2 a8.length b0)).heap[d0]? = some (.cells #[.slice e8 c8.length e4, .slice e7 c7.length e3, .slice e6 c6.length e2, .slice e5 c4.length e1] 26 (0, 0))) := ⟨bkF a0⟩
 have n8 : Aside0 (((e9.setCell ⟨a4, 0, none⟩ (.slice b3 a9.length b1)).setCell ⟨a4, 1, none⟩ (.slice b2 a8.length b0)).heap[a7]? = some (.cells #[.slice none 0 0, .slice none 0 0] 31 (0, 0))) := ⟨bkF a2⟩
 have n7 : Aside0 (((e9.setCell ⟨a4, 0, none⟩ (.slice b3 a9.length b1)).setCell ⟨a4, 1, none⟩ (.slice b2 a8.length b0)).heap[a6]? = some (.cells #[.slice none 0 0, .slice none 0 0] 35 (0, 0))) := ⟨bkF a3⟩
 have n6 : Aside0 (((e9.setCell ⟨a4, 0, none⟩ (.slice b3 a9.length b1)).setCell ⟨a4, 1, none⟩ (.slice b2 a8.length b0)).heap[a4]? = some (.cells #[.slice b3 a9.length b1, .slice b2 a8.length b0] 31 (0, 0))) := ⟨bkP b6⟩
 have n5 : Aside0 (Below w.heap.size w ((e9.setCell ⟨a4, 0, none⟩ (.slice b3 a9.length b1)).setCell ⟨a4, 1, none⟩ (.slice b2 a8.length b0))) := ⟨bb HB⟩
 (try clear b5)
 (try clear b4)
 (try clear a0)
 (try clear a2)
 (try clear a3)
 (try clear b6)
 (try clear HB)
 generalize ((e9.setCell ⟨a4, 0, none⟩ (.slice b3 a9.length b1)).setCell ⟨a4, 1, none⟩ (.slice b2 a8.length b0)) = v9 at o1 o0 n9 n8 n7 n6 n5 ⊢
 have b5 := o1
 have b4 := o0
 have a0 := n9
 have a2 := n8
 have a3 := n7
 have b6 := n6
 have HB := n5
 clear o1 o0 n9 n8 n7 n6 n5
 replace b5 := Aside0.mk (Kd.N_drew b5.out)
 replace b4 := Aside0.mk (Kd.R_drew b4.out)
 replace a0 := Aside0.mk (blk_drew a0.out)
 replace a2 := Aside0.mk (blk_drew a2.out)
 replace a3 := Aside0.mk (blk_drew a3.out)
 replace b6 := Aside0.mk (blk_drew b6.out)
 replace HB := Aside0.mk (below_drew1 HB.out)
 refine start_ (n := 9) (S := fun w' => w'.cell? ⟨a4, 0, none⟩ = some (.slice b3 a9.length b1) ∧ w'.cell? ⟨a4, 1, none⟩ = some (.slice b2 a8.length b0) ∧ w'.cell? ⟨d0, 0, none⟩ = some (.slice e8 c8.length e4) ∧ w'.cell? ⟨d0, 1, none⟩ = some (.slice e7 c7.length e3) ∧ w'.cell? ⟨d0, 2, none⟩ = some (.slice e6 c6.length e2) ∧ w'.cell? ⟨d0, 3, none⟩ = some (.slice e5 c4.length e1)) (ds := []) #[false, false, false, false, false, false, false, false, false] (by kernel_rfl) rfl rfl ⟨bc b6 0, bc b6 1, bc a0 0, bc a0 1, bc a0 2, bc a0 3⟩ (fun hHeld => ?_); refine with_tabW scarfjointlaw18_made.tab2 scarfjointlaw18_made.bits2 (fun HT_ HW_ => ?_)
 generalize v9.drew = D2 at b5 b4 a0 a2 a3 b6 HB hHeld ⊢
 refine pu 2 12 (bits 9 0x4) HT_ (h := ?_)
 refine pu 4 14 (bits 9 0x14) HT_ (h := ?_)
 refine tk 0 10 (bits 9 0x15) HT_ HW_ hHeld (hy := by rintro w' ⟨s0, s1, s2, s3, s4, s5⟩; go_simp; with_reducible rfl) (h := ?_)
 refine tk 1 11 (bits 9 0x17) HT_ HW_ hHeld (hy := by rintro w' ⟨s0, s1, s2, s3, s4, s5⟩; go_simp; with_reducible rfl) (h := ?_)
 refine tk 3 13 (bits 9 0x1f) HT_ HW_ hHeld (hy := by rintro w' ⟨s0, s1, s2, s3, s4, s5⟩; go_simp; with_reducible rfl) (h := ?_)
 refine tk 5 15 (bits 9 0x3f) HT_ HW_ hHeld (hy := by rintro w' ⟨s0, s1, s2, s3, s4, s5⟩; go_simp; with_reducible rfl) (h := ?_)
 refine one_ (i := 6) (N := some 16) #[true, true, true, true, true, true, true, false, false] rfl rfl (one_of HT_.out (by kernel_rfl)) (by decide) (fun K hK => ?_)
 refine goes_ Tryz.func36 (by kernel_rfl) rfl #[.agg #[.slice b3 a9.length b1, .slice b2 a8.length b0], .slice e6 c6.length e2, .slice e5 c4.length e1, .int .i64 8] (by rfl) rfl rfl (by (try simp only [List.map_toArray, List.map_cons, List.map_nil]); first | done | rfl | (simp only [List.length_drop, List.length_take]; rfl)) ?_
 with_reducible refine (scarfjointref18_Made.calls _ _ _ _ _ _ _ _ _ _ _ _ _ _ _ _ _ ?c2 ?c1 ?d1 ?h5 ?o8 ?o7 ?o6 ?o5 A3.out).mono ?_
 (case c2 => repeat (first | exact (Kd.N_reads' b5.out).2.2 | (with_reducible refine Kd.C_alloc ?_ _) | (with_reducible refine Kd.C_drewN ?_ _) | (with_reducible refine Kd.C_drew ?_)))
 (case c1 => exact (Kd.N_reads' b5.out).2.1)
 (case d1 => repeat (first | exact (Kd.R_reads' b4.out).2.2 | (with_reducible refine Kd.C_alloc ?_ _) | (with_reducible refine Kd.C_drewN ?_ _) | (with_reducible refine Kd.C_drew ?_)))
 (case h5 => exact (Kd.R_reads' b4.out).2.1)
 (case o8 => exact cb p1 HB)
 (case o7 => exact p5.out)
 (case o6 => exact cb p0 HB)
 (case o5 => exact p4.out)
 rintro e j4 ⟨C1, C0, rfl, h3, h2, hb⟩
 refine ⟨_, rfl, ?_⟩
 replace b5 := Aside0.mk (Kd.N_mono (Kd.N_told (Kd.N_told (Kd.N_old (kN b5) hb) (Kd.R_base h3)) (Kd.R_base h2)) (fun _ h_ => h_.1))
 replace b4 := kRb b4 hb
 have m7 := Aside0.mk (Kd.R_lower (Kd.R_newM (M := fun k_ => (w.heap.size ≤ k_)) h3 (below_size (bb HB)) (fun k_ h_ => h_)) (below_size (bb HB)))
 have m6 := Aside0.mk (Kd.R_lower (Kd.R_newM (M := fun k_ => (w.heap.size ≤ k_)) h2 (below_size (bb HB)) (fun k_ h_ => h_)) (below_size (bb HB)))
 replace a0 := bkb a0 hb
 replace a2 := bkb a2 hb
 replace a3 := bkb a3 hb
 replace b6 := bkb b6 hb
 replace HB := bstep HB hb
 (try clear hb)
 (try clear hb2)
 (try clear hk)
 (try clear hi)
 (try clear h3)
 (try clear h2)
 obtain ⟨g3, g2, eo23⟩ := Kd.R_slice m7.out
 (first | subst eo23 | (injection eo23 with f1_ f2_ f3_; have f4_ := f1_.symm; have f5_ := f3_.symm; clear f1_ f2_ f3_; subst f4_; subst f5_))
 obtain ⟨g9, g8, eo25⟩ := Kd.R_slice m6.out
 (first | subst eo25 | (injection eo25 with f1_ f2_ f3_; have f4_ := f1_.symm; have f5_ := f3_.symm; clear f1_ f2_ f3_; subst f4_; subst f5_))
 refine hK.out _ _ ⟨bc b6 0, bc b6 1, bc a0 0, bc a0 1, bc a0 2, bc a0 3⟩ (fun hHeld => ?_)
 clear hK K
 refine norm_ (a' := ?_) ?_ ?_
 rotate_left
 ·show Act.put _ (some 16) _ = _
  simp only [Act.put, List.setIfInBounds_toArray, List.set_cons_zero, List.set_cons_succ, i64_w, i32_w]
  rfl
 refine one_ (i := 7) (N := none) #[true, true, true, true, true, true, true, true, false] rfl rfl (one_of HT_.out (by kernel_rfl)) (by decide) (fun K hK => ?_)
 have C6 : j4.cell? ⟨a7, 0, none⟩ = some (.slice none 0 0) := bc a2 0
 have y6 := blk_frozen a2.out 0
 have t0 := d9.out
 have s9 := b8.out
 have s8 := d3.out
 have v2 := d7.out
 have v1 := b9.out
 have v0 := d6.out
 have C5 : j4.cell? ⟨a7, 1, none⟩ = some (.slice none 0 0) := bc a2 1
 have y5 := blk_frozen a2.out 1
 have s7 := d9.out
 have s6 := b8.out
 have r9 := d3.out
 have t9 := d7.out
 have t8 := b9.out
 have t7 := d6.out
 refine skip_ (w1 := ?_) (by rfl) rfl ?_ ?_
 rotate_left
 ·go_simp
  rfl
 refine hK.out _ _ ⟨(cfr hHeld.1), (cfr hHeld.2.1), (cfr hHeld.2.2.1), (cfr hHeld.2.2.2.1), (cfr hHeld.2.2.2.2.1), (cfr hHeld.2.2.2.2.2)⟩ (fun hHeld => ?_)
 clear hK K
 refine one_ (i := 8) (N := none) #[true, true, true, true, true, true, true, true, true] rfl rfl (one_of HT_.out (by kernel_rfl)) (by decide) (fun K hK => ?_)
 have C4 : j4.cell? ⟨a6, 0, none⟩ = some (.slice none 0 0) := bc a3 0
 have y4 := blk_frozen a3.out 0
 have r8 := d8.out
 have r7 := b9.out
 have r6 := d2.out
 have t6 := d5.out
 have t5 := b8.out
 have t4 := d4.out
 have C3 : j4.cell? ⟨a6, 1, none⟩ = some (.slice none 0 0) := bc a3 1
 have y3 := blk_frozen a3.out 1
 have r5 := d8.out
 have r0 := b9.out
 have q9 := d2.out
 have t3 := d5.out
 have t2 := b8.out
 have t1 := d4.out
 refine skip_ (w1 := ?_) (by rfl) rfl ?_ ?_
 rotate_left
 ·go_simp
  rfl
 refine hK.out _ _ ⟨(cfr hHeld.1), (cfr hHeld.2.1), (cfr hHeld.2.2.1), (cfr hHeld.2.2.2.1), (cfr hHeld.2.2.2.2.1), (cfr hHeld.2.2.2.2.2)⟩ (fun hHeld => ?_)
 clear hK K
 refine done_ (done_of HT_.out (by kernel_rfl)) ?_
 try go_wp2
 refine bodyPost_ret (results_cc rfl _ _ a7 a6 31 35 #[.slice b3 a9.length b1, .slice b2 a8.length b0] #[.slice g3 g1.length g2, .slice g9 g7.length g8] (0, 0) (0, 0) _ _ rfl (by (with_reducible repeat (first | refine dN ?_ _ | refine dR ?_ | refine dA ?_ _)); refine blk_far ?_ b9.out _; (with_reducible repeat (first | refine dN ?_ _ | refine dR ?_ | refine dA ?_ _)); refine blk_far ?_ b9.out _; (with_reducible repeat (first | refine dN ?_ _ | refine dR ?_ | refine dA ?_ _)); refine blk_put (cs := #[.slice b3 a9.length b1, .slice none 0 0]) ?_ 1 _ rfl; refine blk_put (cs := #[.slice none 0 0, .slice none 0 0]) ?_ 0 _ rfl; (with_reducible repeat (first | refine dN ?_ _ | refine dR ?_ | refine dA ?_ _)); exact a2.out) Tryz.underlying31 rfl (by kernel_rfl) rfl (by (with_reducible repeat (first | refine dN ?_ _ | refine dR ?_ | refine dA ?_ _)); refine blk_put (cs := #[.slice g3 g1.length g2, .slice none 0 0]) ?_ 1 _ rfl; refine blk_put (cs := #[.slice none 0 0, .slice none 0 0]) ?_ 0 _ rfl; (with_reducible repeat (first | refine dN ?_ _ | refine dR ?_ | refine dA ?_ _)); refine blk_far ?_ b8.out _; (with_reducible repeat (first | refine dN ?_ _ | refine dR ?_ | refine dA ?_ _)); refine blk_far ?_ b8.out _; (with_reducible repeat (first | refine dN ?_ _ | refine dR ?_ | refine dA ?_ _)); exact a3.out) Tryz.underlying35 rfl (by kernel_rfl)) rfl ?_
 exact ⟨_, _, _, _, erf, by (with_reducible repeat (first | apply Kd.N_alloc | apply Kd.N_drewN | apply Kd.N_drew)); exact Kd.N_mono (Kd.N_far (p := ⟨a6, 1, none⟩) (Kd.N_far (p := ⟨a6, 0, none⟩) (Kd.N_far (p := ⟨a7, 1, none⟩) (Kd.N_far (p := ⟨a7, 0, none⟩) (Kd.N_mono (Kd.N_mono b5.out (fun k_ hk => (⟨hk, hk.1.1.2.2.2.1⟩ : _ ∧ k_ ≠ a7))) (fun k_ hk => (⟨hk, hk.1.1.1.2.2.2.2.1⟩ : _ ∧ k_ ≠ a6))) (fun _ hk => hk.1.2) (.slice b3 a9.length b1)) (fun _ hk => hk.1.2) (.slice b2 a8.length b0)) (fun _ hk => hk.2) (.slice g3 g1.length g2)) (fun _ hk => hk.2) (.slice g9 g7.length g8)) (fun _ hk => ⟨hk.1.1.1.1.1, ⟨hk.1.1.1.1.2.1, ⟨hk.1.1.1.2, hk.1.1.2⟩⟩⟩), by (with_reducible repeat (first | apply Kd.R_alloc | apply Kd.R_drewN | apply Kd.R_drew)); exact Kd.R_mono (Kd.R_far (p := ⟨a6, 1, none⟩) (Kd.R_far (p := ⟨a6, 0, none⟩) (Kd.R_far (p := ⟨a7, 1, none⟩) (Kd.R_far (p := ⟨a7, 0, none⟩) (Kd.R_types (Kd.R_types b4.out a2.out (by decide)) a3.out (by decide)) (fun _ hk => hk.1.2) (.slice b3 a9.length b1)) (fun _ hk => hk.1.2) (.slice b2 a8.length b0)) (fun _ hk => hk.2) (.slice g3 g1.length g2)) (fun _ hk => hk.2) (.slice g9 g7.length g8)) (fun _ hk => hk.1.1), by (with_reducible repeat (first | apply Kd.R_alloc | apply Kd.R_drewN | apply Kd.R_drew)); exact Kd.R_mono (Kd.R_far (p := ⟨a6, 1, none⟩) (Kd.R_far (p := ⟨a6, 0, none⟩) (Kd.R_far (p := ⟨a7, 1, none⟩) (Kd.R_far (p := ⟨a7, 0, none⟩) (Kd.R_types (Kd.R_types m7.out a2.out (by decide)) a3.out (by decide)) (fun _ hk => hk.1.2) (.slice b3 a9.length b1)) (fun _ hk => hk.1.2) (.slice b2 a8.length b0)) (fun _ hk => hk.2) (.slice g3 g1.length g2)) (fun _ hk => hk.2) (.slice g9 g7.length g8)) (fun _ hk => hk.1.1.1), by (with_reducible repeat (first | apply Kd.R_alloc | apply Kd.R_drewN | apply Kd.R_drew)); exact Kd.R_mono (Kd.R_far (p := ⟨a6, 1, none⟩) (Kd.R_far (p := ⟨a6, 0, none⟩) (Kd.R_far (p := ⟨a7, 1, none⟩) (Kd.R_far (p := ⟨a7, 0, none⟩) (Kd.R_types (Kd.R_types m6.out a2.out (by decide)) a3.out (by decide)) (fun _ hk => hk.1.2) (.slice b3 a9.length b1)) (fun _ hk => hk.1.2) (.slice b2 a8.length b0)) (fun _ hk => hk.2) (.slice g3 g1.length g2)) (fun _ hk => hk.2) (.slice g9 g7.length g8)) (fun _ hk => hk.1.1.1), bb HB⟩
def graph_permutation.l0 : Nat → List Int → List Int → Int → Int → Option (Int)
 | 0, _, _, _, _ => none
 | k + 1, x0, n1, p9, g5 => if g5 < p9 then (if 0 ≤ g5 then (if g5 < (n1.length : Int) then (if g5 ≤ (x0.length : Int) then ((slices_Contains_int_int.f k (x0.take (g5 : Int).toNat) (rd n1 g5)).bind fun j1 => (if j1 = true then (some 5) else (graph_permutation.l0 k x0 n1 p9 (wrap64 (g5 + 1))))) else (none)) else (none)) else (none)) else (some 0)
def graph_permutation.f (k : Nat) (l0 : List Int) (a1 : Int) : Option (Int) := if (l0.length : Int) = a1 then ((any_perm.f l0 a1).bind fun g6 => (if g6 = true then (some 6) else (graph_permutation.l0 k l0 l0 (l0.length : Int) 0))) else (some 20)
theorem graph_permutation.calls (k : Nat) (A0 : Option Addr) (c0 : Nat) (l0 : List Int) (a1 : Int) (r : Int) (w : World) (q1 : Kd.C (Kd.int .i64) w A0 l0.length l0) (q2 : l0.length ≤ c0) (h : graph_permutation.f k l0 a1 = some r) :
  Calls Tryz.prog 38 #[.slice A0 l0.length c0, .int .i64 a1] w fun e w' => e = .returned (.int .i64 r) ∧ Below w.heap.size w w' := by
 have j0 := Aside0.mk q1
 have m8 := Aside0.mk q2
 clear q1 q2
 have HB := Aside0.mk (Below.refl w.heap.size w)
 have H : (if (l0.length : Int) = a1 then ((any_perm.f l0 a1).bind fun g6 => (if g6 = true then (some 6) else (graph_permutation.l0 k l0 l0 (l0.length : Int) 0))) else (some 20)) = some r := h
 clear h
 by_cases c3 : (l0.length : Int) = a1
 rw [if_pos c3] at H
 have o3 := beq_iff_eq.mpr c3
 have o2 := bne_eq_false_iff_eq.mpr c3
 clear c3
 obtain ⟨g6, A4, H⟩ := obA H
 by_cases c5 : g6 = true
 rotate_left
 ·replace c5 := Bool.eq_false_iff.mpr c5
  subst c5
  replace H := iff_ H
  have H' := Aside0.mk H
  clear H
  go_enter Tryz.func38, Tryz.ntmps38
  go_wp2_with (first | ((with_reducible refine gate_dst (N := 3) rfl ?_); refine be 3 #[.int .i64 a1] 3 ?_; intro e0 hg w9 hbox hb; have b7 := Aside0.mk (hbox); have p8 := bsz HB hg; replace HB := bstep HB hb; clear hb hbox hg; obtain ⟨n0, m9⟩ := cz1 b7) | ((with_reducible refine gate_callee (f := 68) rfl ?_); refine gl 13 Tryz.func68 #[.slice A0 l0.length c0, .func (.func 72) #[] #[.pointer (some ⟨e0, 0, none⟩)]] (h := ?_); (with_reducible refine (any_perm.calls _ _ l0 e0 a1 false _ ?c2 ?c1 ?d1 A4.out).mono ?_); (case c2 => exact cb j0 HB); (case c1 => exact m8.out); (case d1 => exact (bk b7)); rintro e e9 ⟨rfl, hb⟩; refine ⟨_, rfl, ?_⟩; replace b7 := bkb b7 hb; replace HB := bstep HB hb; clear hb))
  go_loopg [16] k (fun kq w0 w' => ∃ (a5 : Int), w0 = .int .i64 a5 ∧ Aside0 (graph_permutation.l0 kq l0 l0 (l0.length : Int) a5 = some r) ∧ Aside0 (kq ≤ k) ∧ Aside0 (w'.heap[e0]? = some (.cells #[.int .i64 a1] 3 (0, 0))) ∧ Aside0 (Below w.heap.size w w'))
  case atStart => exact ⟨(0), eqs, H', ⟨Nat.le_refl _⟩, ⟨bk b7⟩, ⟨bb HB⟩⟩
  case round =>
   clear H'
   try clear o3 o2 c5 n0 m9
   obtain ⟨a5, rfl, HA, q5, b7, HB⟩ := hrel
   cases gk with
   | zero => exact absurd HA.out (by simp [graph_permutation.l0])
   | succ k1 =>
    have H := HA.out
    clear HA
    simp only [graph_permutation.l0] at H
    by_cases h4 : a5 < (l0.length : Int)
    rotate_left
    ·rw [if_neg h4] at H
     have o9 := decide_eq_false h4
     clear h4
     obtain rfl := Option.some.inj H
     go_wp2
     go_ret
     exact ⟨erf, bb HB⟩
    rw [if_pos h4] at H
    have o9 := decide_eq_true h4
    clear h4
    obtain ⟨q4, H⟩ := itn H
    have A5 := decide_eq_true q4
    clear q4
    obtain ⟨q3, H⟩ := itn H
    have A1 := decide_eq_true q3
    clear q3
    have y9 := eq_true (odt : 0 ≤ a5)
    obtain ⟨o4, H⟩ := itn H
    have y8 := eq_true o4
    have y7 := decide_eq_true o4
    clear o4
    obtain ⟨j1, q6, H⟩ := obA H
    by_cases m5 : j1 = true
    subst m5
    replace H := ift H
    obtain rfl := Option.some.inj H
    rotate_left
    replace m5 := Bool.eq_false_iff.mpr m5
    subst m5
    replace H := iff_ H
    have H' := Aside0.mk H
    clear H
    all_goals
     have j3 : 0 ≤ a5 := odt
     have j2 : a5 < (l0.length : Int) := odt
     obtain ⟨g4, q8, h0⟩ := Kd.at_int j0.out a5 j3 j2
     cases q8
     replace h0 := hxc HB h0
     replace j3 := eq_true j3
     replace j2 := eq_true j2
    ·obtain ⟨i020, j9, _, hsz20, _⟩ := info_parts info3
     obtain ⟨hcut20, hA20, hC20⟩ := print_take_of (P := Tryz.prog) (Value.int .i64) 0 32 3 .i64 Tryz.underlying32 j9 hsz20 (some g4) c0 l0 a5 (odt) (odt) m8.out
     have h6 := Aside0.mk (Kd.C_of_reads (h1 := fun _ => rfl) (hA20 _ (Kd.reads_of_C j0.out)))
     have h7 := Aside0.mk hC20
     clear hA20 hC20 j9 hsz20
     go_wp2_with (first | ((with_reducible refine gate_callee (f := 73) rfl ?_); refine goesL_ (some 25) rfl rfl Tryz.func73 (by kernel_rfl) rfl #[.slice (some g4) (l0.take (a5 : Int).toNat).length c0, .int .i64 (rd l0 a5)] rfl (by (try simp only [List.map_toArray, List.map_cons, List.map_nil]); first | done | (rw [show (l0.take (a5 : Int).toNat).length = a5.toNat from (by rw [List.length_take]; have h_ : (a5 : Int) ≤ (l0.length : Int) := odt; omega)] <;> rfl) | rfl | (simp only [List.length_drop, List.length_take]; rfl)) ?_; (with_reducible refine (slices_Contains_int_int.calls _ _ _ _ _ _ _ ?c2 ?c1 q6.out).mono ?_); (case c2 => exact cb h6 HB); (case c1 => exact h7.out); rintro e w' ⟨rfl, ⟨nd, rfl⟩⟩; refine ⟨_, rfl, ?_⟩))
     go_roundg k1
     case measure => have := q5.out; omega
     case rel => exact ⟨(wrap64 (a5 + 1)), eqs, H', ⟨by have := q5.out; omega⟩, ⟨bk b7⟩, ⟨bb HB⟩⟩
    ·obtain ⟨i019, m0, _, hsz19, _⟩ := info_parts info3
     obtain ⟨hcut19, hA19, hC19⟩ := print_take_of (P := Tryz.prog) (Value.int .i64) 0 32 3 .i64 Tryz.underlying32 m0 hsz19 (some g4) c0 l0 a5 (odt) (odt) m8.out
     have h6 := Aside0.mk (Kd.C_of_reads (h1 := fun _ => rfl) (hA19 _ (Kd.reads_of_C j0.out)))
     have h7 := Aside0.mk hC19
     clear hA19 hC19 m0 hsz19
     go_wp2_with (first | ((with_reducible refine gate_callee (f := 73) rfl ?_); refine goesL_ (some 25) rfl rfl Tryz.func73 (by kernel_rfl) rfl #[.slice (some g4) (l0.take (a5 : Int).toNat).length c0, .int .i64 (rd l0 a5)] rfl (by (try simp only [List.map_toArray, List.map_cons, List.map_nil]); first | done | (rw [show (l0.take (a5 : Int).toNat).length = a5.toNat from (by rw [List.length_take]; have h_ : (a5 : Int) ≤ (l0.length : Int) := odt; omega)] <;> rfl) | rfl | (simp only [List.length_drop, List.length_take]; rfl)) ?_; (with_reducible refine (slices_Contains_int_int.calls _ _ _ _ _ _ _ ?c2 ?c1 q6.out).mono ?_); (case c2 => exact cb h6 HB); (case c1 => exact h7.out); rintro e w' ⟨rfl, ⟨nd, rfl⟩⟩; refine ⟨_, rfl, ?_⟩))
     go_ret
     exact ⟨erf, bb HB⟩
 rotate_left
 subst c5
 replace H := ift H
 obtain rfl := Option.some.inj H
 rotate_left
 rw [if_neg c3] at H
 have o3 := beq_eq_false_iff_ne.mpr c3
 have o2 := bne_iff_ne.mpr c3
 obtain rfl := Option.some.inj H
 all_goals
  go_enter Tryz.func38, Tryz.ntmps38
  go_wp2_with (first | ((with_reducible refine gate_dst (N := 3) rfl ?_); refine be 3 #[.int .i64 a1] 3 ?_; intro e0 hg D1 hbox hb; have b7 := Aside0.mk (hbox); have p8 := bsz HB hg; replace HB := bstep HB hb; clear hb hbox hg; obtain ⟨v6, v3⟩ := cz1 b7) | ((with_reducible refine gate_callee (f := 68) rfl ?_); refine gl 13 Tryz.func68 #[.slice A0 l0.length c0, .func (.func 72) #[] #[.pointer (some ⟨e0, 0, none⟩)]] (h := ?_); (with_reducible refine (any_perm.calls _ _ l0 e0 a1 true _ ?c2 ?c1 ?d1 A4.out).mono ?_); (case c2 => exact cb j0 HB); (case c1 => exact m8.out); (case d1 => exact (bk b7)); rintro e w8 ⟨rfl, hb⟩; refine ⟨_, rfl, ?_⟩; replace b7 := bkb b7 hb; replace HB := bstep HB hb; clear hb))
  go_ret
  exact ⟨erf, bb HB⟩
mutual
def graph_Reorder.j0 : Nat → Bool → List Int → List (S56) → List Int → List Int → Option (List Int × (List (S56)) × Int)
 | 0, _, _, _, _, _ => none
 | k + 1, P7, e3, e2, c9, d6 => if P7 = true then (some (([] : List Int), ([] : List (S56)), 20)) else ((graph_permutation.f k c9 (e3.length : Int)).bind fun o0 => (if o0 = 0 then ((graph_permutation.f k d6 (e2.length : Int)).bind fun n9 => (if n9 = 0 then (if 0 ≤ (e3.length : Int) then (if ((e3.length : Int) : Int).toNat ≤ 35184372088832 then (if 0 ≤ (e2.length : Int) then (if ((e2.length : Int) : Int).toNat ≤ 11728124029610 then (graph_Reorder.l0 k e3 (e3.length : Int) 0 e3 e2 c9 d6 (List.replicate ((e3.length : Int) : Int).toNat 0) (List.replicate ((e2.length : Int) : Int).toNat z56)) else (none)) else (none)) else (none)) else (none)) else (some (([] : List Int), ([] : List (S56)), n9)))) else (some (([] : List Int), ([] : List (S56)), o0))))
def graph_Reorder.l0 : Nat → List Int → Int → Int → List Int → List (S56) → List Int → List Int → List Int → List (S56) → Option (List Int × (List (S56)) × Int)
 | 0, _, _, _, _, _, _, _, _, _ => none
 | k + 1, x0, E1, j6, e3, e2, c9, d6, g5, g4 => if j6 < E1 then (if 0 ≤ j6 then (if j6 < (x0.length : Int) then (if j6 < (c9.length : Int) then (if 0 ≤ (rd c9 j6) then (if (rd c9 j6) < (g5.length : Int) then (graph_Reorder.l0 k x0 E1 (wrap64 (j6 + 1)) e3 e2 c9 d6 (g5.set ((rd c9 j6) : Int).toNat (rd x0 j6)) g4) else (none)) else (none)) else (none)) else (none)) else (none)) else (graph_Reorder.l1 k e2 (e2.length : Int) 0 c9 d6 g5 g4)
def graph_Reorder.l1 : Nat → List (S56) → Int → Int → List Int → List Int → List Int → List (S56) → Option (List Int × (List (S56)) × Int)
 | 0, _, _, _, _, _, _, _ => none
 | k + 1, j5, E0, g6, c9, d6, g5, g4 => if g6 < E0 then (if 0 ≤ g6 then (if g6 < (j5.length : Int) then (if g6 < (d6.length : Int) then (if 0 ≤ ((rd_T56 j5 g6).f1) then (if ((rd_T56 j5 g6).f1) < (c9.length : Int) then (if 0 ≤ ((rd_T56 j5 g6).f2) then (if ((rd_T56 j5 g6).f2) < (c9.length : Int) then (if 0 ≤ (rd d6 g6) then (if (rd d6 g6) < (g4.length : Int) then (graph_Reorder.l1 k j5 E0 (wrap64 (g6 + 1)) c9 d6 g5 (g4.set ((rd d6 g6) : Int).toNat (⟨(rd_T56 j5 g6).f0, rd c9 ((rd_T56 j5 g6).f1), rd c9 ((rd_T56 j5 g6).f2)⟩ : S56))) else (none)) else (none)) else (none)) else (none)) else (none)) else (none)) else (none)) else (none)) else (none)) else (some (g5, g4, 0))
end
def graph_Reorder.f (k : Nat) (a5 : List Int) (a3 : List (S56)) (a9 : List Int) (b0 : List Int) : Option (List Int × (List (S56)) × Int) := (graph_Valid.f k a5 a3).bind fun j2 => (if j2 = 0 then (if (a9.length : Int) = (a5.length : Int) then (graph_Reorder.j0 k ((b0.length : Int) != (a3.length : Int)) a5 a3 a9 b0) else (graph_Reorder.j0 k true a5 a3 a9 b0)) else (some (([] : List Int), ([] : List (S56)), j2)))
def graph_Reorder.T12 : Bool × List (List Nat × List Nat) := (true, [([], []), ([0], [0]), ([1], [1]), ([2, 2], [2]), ([], []), ([4], [4]), ([5], [5]), ([6, 6], [6]), ([3, 7], [3, 7]), ([], []), ([9, 8, 0, 1, 2, 3, 4, 5, 6, 7, 8, 9], [8, 9])])
def graph_Reorder.B12 : List Nat := [0, 1, 3, 7, 0, 16, 48, 112, 255, 0, 1023]
theorem graph_Reorder.tab12 : rtab .any (opsOf Tryz.f12 12) = graph_Reorder.T12 := by kernel_rfl
theorem graph_Reorder.bits12 : waitsOk graph_Reorder.T12.2 graph_Reorder.B12 = true := by kernel_rfl
def graph_Reorder.T16 : Bool × List (List Nat × List Nat) := (true, [([], []), ([0], [0]), ([], []), ([2], [2]), ([], []), ([3, 4], [3, 4]), ([5], [5]), ([], []), ([1, 6, 0, 1, 2, 3, 4, 5, 6, 7], [1, 6]), ([8, 7, 0, 1, 2, 3, 4, 5, 6, 7], [7, 8])])
def graph_Reorder.B16 : List Nat := [0, 1, 0, 4, 0, 28, 60, 0, 255, 511]
theorem graph_Reorder.tab16 : rtab .any (opsOf Tryz.f12 16) = graph_Reorder.T16 := by kernel_rfl
theorem graph_Reorder.bits16 : waitsOk graph_Reorder.T16.2 graph_Reorder.B16 = true := by kernel_rfl
def graph_Reorder.T21 : Bool × List (List Nat × List Nat) := (true, [([], []), ([0], [0]), ([], []), ([2], [2]), ([], []), ([3, 4], [3, 4]), ([5], [5]), ([], []), ([7], [7]), ([], []), ([9], [9]), ([], []), ([11], [11]), ([10, 12], [10, 12]), ([13], [13]), ([], []), ([15], [15]), ([], []), ([17], [17]), ([16, 18], [16, 18]), ([19], [19]), ([8, 14, 20], [8, 14, 20]), ([1, 6, 0, 1, 2, 3, 4, 5, 6, 7, 8, 9, 10, 11, 12, 13, 14, 15, 16, 17, 18, 19, 20, 21], [1, 6]), ([22, 21, 0, 1, 2, 3, 4, 5, 6, 7, 8, 9, 10, 11, 12, 13, 14, 15, 16, 17, 18, 19, 20, 21], [21, 22])])
def graph_Reorder.B21 : List Nat := [0, 1, 0, 4, 0, 28, 60, 0, 128, 0, 512, 0, 2048, 7680, 15872, 0, 32768, 0, 131072, 491520, 1015808, 2097024, 4194303, 8388607]
theorem graph_Reorder.tab21 : rtab .any (opsOf Tryz.f12 21) = graph_Reorder.T21 := by kernel_rfl
theorem graph_Reorder.bits21 : waitsOk graph_Reorder.T21.2 graph_Reorder.B21 = true := by kernel_rfl
theorem graph_Reorder.calls (k : Nat) (c2 : Option Addr) (c1 : Nat) (a5 : List Int) (c3 : Option Addr) (c0 : Nat) (a3 : List (S56)) (d4 : Option Addr) (d0 : Nat) (a9 : List Int) (d3 : Option Addr) (d2 : Nat) (b0 : List Int) (r1 : List Int) (r2 : List (S56)) (r3 : Int) (w : World) (r4 : Kd.C (Kd.int .i64) w c2 a5.length a5) (r8 : a5.length ≤ c1) (r0 : Kd.C k56 w c3 a3.length a3) (r7 : a3.length ≤ c0) (q9 : Kd.C (Kd.int .i64) w d4 a9.length a9) (r6 : a9.length ≤ d0) (q8 : Kd.C (Kd.int .i64) w d3 b0.length b0) (r5 : b0.length ≤ d2) (h : graph_Reorder.f k a5 a3 a9 b0 = some (r1, r2, r3)) :
  Calls Tryz.prog 12 #[.agg #[.slice c2 a5.length c1, .slice c3 a3.length c0], .agg #[.slice d4 a9.length d0, .slice d3 b0.length d2]] w fun e w' => ∃ E4 E3 : Value, e = .returned (.tuple #[.agg #[E4, E3], .int .i64 r3]) ∧ Kd.R (Kd.int .i64) 3 w' w.heap.size (fun _ => True) E4 r1 ∧ Kd.R k56 56 w' w.heap.size (fun _ => True) E3 r2 ∧ Below w.heap.size w w' := by
 have hu35 := Tryz.underlying35
 have hu43 := Tryz.underlying43
 have hu56 := Tryz.underlying56
 have o3 := Aside0.mk r4
 have t7 := Aside0.mk r8
 clear r4 r8
 have o2 := Aside0.mk r0
 have t6 := Aside0.mk r7
 clear r0 r7
 have j1 := Aside0.mk q9
 have o4 := Aside0.mk r6
 clear q9 r6
 have o1 := Aside0.mk q8
 have t5 := Aside0.mk r5
 clear q8 r5
 have HB := Aside0.mk (Below.refl w.heap.size w)
 have H : ((graph_Valid.f k a5 a3).bind fun j2 => (if j2 = 0 then (if (a9.length : Int) = (a5.length : Int) then (graph_Reorder.j0 k ((b0.length : Int) != (a3.length : Int)) a5 a3 a9 b0) else (graph_Reorder.j0 k true a5 a3 a9 b0)) else (some (([] : List Int), ([] : List (S56)), j2)))) = some (r1, r2, r3) := h
 clear h
 obtain ⟨j2, A3, H⟩ := obA H
 by_cases c4 : j2 = 0
 rotate_left
 ·rw [if_neg c4] at H
  have A6 := beq_eq_false_iff_ne.mpr c4
  have A5 := bne_iff_ne.mpr c4
  simp only [Option.some.injEq, Prod.mk.injEq] at H
  obtain ⟨rfl, rfl, rfl⟩ := H
  go_enter Tryz.func12, Tryz.ntmps12
  go_wp2_with (first | ((with_reducible refine gate_dst (N := 2) rfl ?_); (try (refine gate_guard (by rfl) ?_; dsimp only)); refine be 2 #[.slice c2 a5.length c1, .slice c3 a3.length c0] 35 ?_; intro a6 hg a0d hbox hb; have a0 := Aside0.mk (hbox); have D8 := bsz HB hg; replace HB := bstep HB hb; clear hb hbox hg) | ((with_reducible refine gate_dst (N := 3) rfl ?_); (try (refine gate_guard (by rfl) ?_; dsimp only)); refine be 3 #[.slice d4 a9.length d0, .slice d3 b0.length d2] 43 ?_; intro b2 hg a0c hbox hb; have a1 := Aside0.mk (hbox); have D7 := bsz HB hg; replace HB := bstep HB hb; have e9 := blt a0 hg; have e8 := bgt a0 hg; replace a0 := bkb a0 hb; clear hb hbox hg) | ((with_reducible refine gate_dst (N := 4) rfl ?_); (try (refine gate_guard (by rfl) ?_; dsimp only)); refine be 4 #[.slice none 0 0, .slice none 0 0] 35 ?_; intro b1 hg a0b hbox hb; have a2 := Aside0.mk (hbox); have D6 := bsz HB hg; replace HB := bstep HB hb; have d8 := blt a0 hg; have d7 := bgt a0 hg; replace a0 := bkb a0 hb; have e7 := blt a1 hg; have e6 := bgt a1 hg; replace a1 := bkb a1 hb; clear hb hbox hg; have R2 := e9.out; have Q6 := e8.out; have R1 := d8.out; have Q5 := d7.out; obtain ⟨I2, I1, G4, G3⟩ := cz2 a0) | ((with_reducible refine gate_callee (f := 37) rfl ?_); refine gl 15 Tryz.func37 #[.agg #[.slice c2 a5.length c1, .slice c3 a3.length c0]] (h := ?_); (with_reducible refine (graph_Valid.calls _ _ _ _ _ _ _ _ _ (cb o3 HB) t7.out (cb o2 HB) t6.out A3.out).mono ?_); rintro e a0a ⟨rfl, hb⟩; refine ⟨_, rfl, ?_⟩; replace a0 := bkb a0 hb; replace a1 := bkb a1 hb; replace a2 := bkb a2 hb; replace HB := bstep HB hb; clear hb; have R0 := e6.out; have Q4 := e7.out; obtain ⟨I0, H9, G2, G1⟩ := cz2 a2))
  refine bodyPost_ret (results_ct rfl _ _ b1 35 #[.slice none 0 0, .slice none 0 0] (0, 0) _ rfl (by (with_reducible repeat (first | refine dN ?_ _ | refine dR ?_ | refine dA ?_ _)); refine blk_put (cs := #[.slice none 0 0, .slice none 0 0]) ?_ 1 _ rfl; refine blk_put (cs := #[.slice none 0 0, .slice none 0 0]) ?_ 0 _ rfl; (with_reducible repeat (first | refine dN ?_ _ | refine dR ?_ | refine dA ?_ _)); exact a2.out) Tryz.underlying35 rfl (by kernel_rfl)) rfl ?_
  exact ⟨_, _, erf, by first | exact Kd.R_nil _ _ _ _ _ | exact Kd.N_nil _ _ _ _ _ | exact Kd.V_nil _ _ _ _ _ | exact Kd.Q_nil _ _ _ _ _ | exact Kd.S_nil _ _ _ _ _, by first | exact Kd.R_nil _ _ _ _ _ | exact Kd.N_nil _ _ _ _ _ | exact Kd.V_nil _ _ _ _ _ | exact Kd.Q_nil _ _ _ _ _ | exact Kd.S_nil _ _ _ _ _, bb HB⟩
 rw [if_pos c4] at H
 have A6 := beq_iff_eq.mpr c4
 have A5 := bne_eq_false_iff_eq.mpr c4
 clear c4
 have C1 := Aside0.mk H
 clear H
 go_enter Tryz.func12, Tryz.ntmps12
 go_upto_region 4 with (first | ((with_reducible refine gate_dst (N := 2) rfl ?_); (try (refine gate_guard (by rfl) ?_; dsimp only)); refine be 2 #[.slice c2 a5.length c1, .slice c3 a3.length c0] 35 ?_; intro a6 hg w6 hbox hb; have a0 := Aside0.mk (hbox); have D8 := bsz HB hg; replace HB := bstep HB hb; clear hb hbox hg) | ((with_reducible refine gate_dst (N := 3) rfl ?_); (try (refine gate_guard (by rfl) ?_; dsimp only)); refine be 3 #[.slice d4 a9.length d0, .slice d3 b0.length d2] 43 ?_; intro b2 hg w7 hbox hb; have a1 := Aside0.mk (hbox); have D7 := bsz HB hg; replace HB := bstep HB hb; have e9 := blt a0 hg; have e8 := bgt a0 hg; replace a0 := bkb a0 hb; clear hb hbox hg) | ((with_reducible refine gate_dst (N := 4) rfl ?_); (try (refine gate_guard (by rfl) ?_; dsimp only)); refine be 4 #[.slice none 0 0, .slice none 0 0] 35 ?_; intro b1 hg w8 hbox hb; have a2 := Aside0.mk (hbox); have D6 := bsz HB hg; replace HB := bstep HB hb; have d8 := blt a0 hg; have d7 := bgt a0 hg; replace a0 := bkb a0 hb; have e7 := blt a1 hg; have e6 := bgt a1 hg; replace a1 := bkb a1 hb; clear hb hbox hg; have a1a := e9.out; have a0j := e8.out; have X3 := d8.out; have V4 := d7.out; obtain ⟨w4, w3, v7, v6⟩ := cz2 a0) | ((with_reducible refine gate_callee (f := 37) rfl ?_); refine gl 15 Tryz.func37 #[.agg #[.slice c2 a5.length c1, .slice c3 a3.length c0]] (h := ?_); (with_reducible refine (graph_Valid.calls _ _ _ _ _ _ _ _ _ (cb o3 HB) t7.out (cb o2 HB) t6.out A3.out).mono ?_); rintro e w12 ⟨rfl, hb⟩; refine ⟨_, rfl, ?_⟩; replace a0 := bkb a0 hb; replace a1 := bkb a1 hb; replace a2 := bkb a2 hb; replace HB := bstep HB hb; clear hb))
 (try simp only [Act.put, List.setIfInBounds_toArray, List.set_cons_zero, List.set_cons_succ])
 go_cut [35] (fun Q3 wc => ∃ (kq : Nat) (m6 : Bool), Q3 = .bool m6 ∧ Aside0 (graph_Reorder.j0 kq m6 a5 a3 a9 b0 = some (r1, r2, r3)) ∧ Aside0 (kq ≤ k) ∧ Aside0 (wc.heap[a6]? = some (.cells #[(.slice c2 a5.length c1), (.slice c3 a3.length c0)] 35 (0, 0))) ∧ Aside0 (wc.heap[b2]? = some (.cells #[(.slice d4 a9.length d0), (.slice d3 b0.length d2)] 43 (0, 0))) ∧ Aside0 (wc.heap[b1]? = some (.cells #[(.slice none 0 0), (.slice none 0 0)] 35 (0, 0))) ∧ Aside0 (Below w.heap.size w wc))
 case first =>
  have H := C1.out
  clear C1
  by_cases h5 : (a9.length : Int) = (a5.length : Int)
  rw [if_pos h5] at H
  have m2 := beq_iff_eq.mpr h5
  have D1 := bne_eq_false_iff_eq.mpr h5
  have D0 : (a9.length == a5.length) = true := by first | simpa using h5 | (simp at h5 ⊢; omega)
  clear h5
  (first | rw [m2] | (simp only [i64_w, i32_w]; rw [m2]) | skip)
  have H' := Aside0.mk H
  clear H
  rotate_left
  rw [if_neg h5] at H
  have m2 := beq_eq_false_iff_ne.mpr h5
  have D1 := bne_iff_ne.mpr h5
  have D0 : (a9.length == a5.length) = false := by first | simpa using h5 | (simp at h5 ⊢; omega)
  (first | rw [m2] | (simp only [i64_w, i32_w]; rw [m2]) | skip)
  have H' := Aside0.mk H
  clear H
  all_goals
   have X2 := e8.out
   have V3 := e9.out
   have X1 := e7.out
   have V2 := e6.out
   obtain ⟨P6, P5, O1, O0⟩ := cz2 a1
   have X0 := d8.out
   have V1 := d7.out
   obtain ⟨P4, P3, N9, N8⟩ := cz2 a0
   go_wp2
   go_meet
   case rel => exact ⟨_, _, eqs, H', ⟨by first | omega | exact Nat.le_refl _⟩, ⟨bk a0⟩, ⟨bk a1⟩, ⟨bk a2⟩, ⟨bb HB⟩⟩
 case rest =>
  clear C1
  try clear A6 A5 w4 w3 v7 v6
  obtain ⟨kq, m6, rfl, HA, t4, a0, a1, a2, HB⟩ := hcut
  cases kq with
  | zero => exact absurd HA.out (by simp [graph_Reorder.j0])
  | succ q7 =>
   have H := HA.out
   clear HA
   simp only [graph_Reorder.j0] at H
   by_cases t0 : m6 = true
   ·subst t0
    replace H := ift H
    simp only [Option.some.injEq, Prod.mk.injEq] at H
    obtain ⟨rfl, rfl, rfl⟩ := H
    have W9 := d7.out
    have V0 := d8.out
    have W8 := e6.out
    have U9 := e7.out
    obtain ⟨P2, P1, N7, N6⟩ := cz2 a2
    go_wp2
    refine bodyPost_ret (results_ct rfl _ _ b1 35 #[.slice none 0 0, .slice none 0 0] (0, 0) _ rfl (by (with_reducible repeat (first | refine dN ?_ _ | refine dR ?_ | refine dA ?_ _)); refine blk_put (cs := #[.slice none 0 0, .slice none 0 0]) ?_ 1 _ rfl; refine blk_put (cs := #[.slice none 0 0, .slice none 0 0]) ?_ 0 _ rfl; (with_reducible repeat (first | refine dN ?_ _ | refine dR ?_ | refine dA ?_ _)); exact a2.out) Tryz.underlying35 rfl (by kernel_rfl)) rfl ?_
    exact ⟨_, _, erf, by first | exact Kd.R_nil _ _ _ _ _ | exact Kd.N_nil _ _ _ _ _ | exact Kd.V_nil _ _ _ _ _ | exact Kd.Q_nil _ _ _ _ _ | exact Kd.S_nil _ _ _ _ _, by first | exact Kd.R_nil _ _ _ _ _ | exact Kd.N_nil _ _ _ _ _ | exact Kd.V_nil _ _ _ _ _ | exact Kd.Q_nil _ _ _ _ _ | exact Kd.S_nil _ _ _ _ _, bb HB⟩
   replace t0 := Bool.eq_false_iff.mpr t0
   subst t0
   replace H := iff_ H
   obtain ⟨o0, C3, H⟩ := obA H
   by_cases n1 : o0 = 0
   rw [if_pos n1] at H
   have C9 := beq_iff_eq.mpr n1
   have C8 := bne_eq_false_iff_eq.mpr n1
   clear n1
   obtain ⟨n9, G0, H⟩ := obA H
   by_cases n0 : n9 = 0
   rw [if_pos n0] at H
   have C7 := beq_iff_eq.mpr n0
   have C6 := bne_eq_false_iff_eq.mpr n0
   clear n0
   obtain ⟨C0, H⟩ := itn H
   have Z7 := eq_true C0
   have Z6 := decide_eq_true C0
   clear C0
   obtain ⟨A9, H⟩ := itn H
   have Z5 := eq_true A9
   have Z4 := decide_eq_true A9
   clear A9
   obtain ⟨e1, m1⟩ : ∃ y_ : List Int, y_ = (List.replicate ((a5.length : Int) : Int).toNat 0) := ⟨_, rfl⟩
   replace H : (if 0 ≤ (a3.length : Int) then (if ((a3.length : Int) : Int).toNat ≤ 11728124029610 then (graph_Reorder.l0 q7 a5 (a5.length : Int) 0 a5 a3 a9 b0 e1 (List.replicate ((a3.length : Int) : Int).toNat z56)) else (none)) else (none)) = some (r1, r2, r3) := by first | (rw [m1]; with_reducible exact H) | (have H2_ := (Option.bind_some _ _).symm.trans H; rw [m1]; with_reducible exact H2_) | (have H2_ := (Option.bind_some _ _).symm.trans H; with_reducible exact H2_) | with_reducible exact H | (rw [m1]; exact H) | exact H
   have h2 := Aside0.mk m1
   clear m1
   obtain ⟨A8, H⟩ := itn H
   have Z3 := eq_true A8
   have Z2 := decide_eq_true A8
   clear A8
   obtain ⟨A7, H⟩ := itn H
   have Z1 := eq_true A7
   have Z0 := decide_eq_true A7
   clear A7
   obtain ⟨d5, m0⟩ : ∃ y_ : List (S56), y_ = (List.replicate ((a3.length : Int) : Int).toNat z56) := ⟨_, rfl⟩
   replace H : (graph_Reorder.l0 q7 a5 (a5.length : Int) 0 a5 a3 a9 b0 e1 d5) = some (r1, r2, r3) := by first | (rw [m0]; with_reducible exact H) | (have H2_ := (Option.bind_some _ _).symm.trans H; rw [m0]; with_reducible exact H2_) | (have H2_ := (Option.bind_some _ _).symm.trans H; with_reducible exact H2_) | with_reducible exact H | (rw [m0]; exact H) | exact H
   have h1 := Aside0.mk m0
   clear m0
   have H' := Aside0.mk H
   clear H
   rotate_left
   rw [if_neg n0] at H
   have C7 := beq_eq_false_iff_ne.mpr n0
   have C6 := bne_iff_ne.mpr n0
   simp only [Option.some.injEq, Prod.mk.injEq] at H
   obtain ⟨rfl, rfl, rfl⟩ := H
   rotate_left
   rw [if_neg n1] at H
   have C9 := beq_eq_false_iff_ne.mpr n1
   have C8 := bne_iff_ne.mpr n1
   simp only [Option.some.injEq, Prod.mk.injEq] at H
   obtain ⟨rfl, rfl, rfl⟩ := H
   all_goals
    have R5 := e8.out
    have Q9 := e9.out
    have R4 := e7.out
    have Q8 := e6.out
    obtain ⟨J4, J3, H6, H5⟩ := cz2 a1
    have R3 := d8.out
    have Q7 := d7.out
    obtain ⟨J2, J1, H4, H3⟩ := cz2 a0
   ·go_wp2_with (first | ((with_reducible refine gate_callee (f := 38) rfl ?_); refine gl 42 Tryz.func38 #[.slice d4 a9.length d0, .int .i64 (a5.length : Int)] (h := ?_); (with_reducible refine (graph_permutation.calls _ _ _ _ _ _ _ (cb j1 HB) o4.out C3.out).mono ?_); rintro e a0e ⟨rfl, hb⟩; refine ⟨_, rfl, ?_⟩; replace a0 := bkb a0 hb; replace a1 := bkb a1 hb; replace a2 := bkb a2 hb; replace HB := bstep HB hb; clear hb; obtain ⟨I4, I3, G6, G5⟩ := cz2 a2))
    refine bodyPost_ret (results_ct rfl _ _ b1 35 #[.slice none 0 0, .slice none 0 0] (0, 0) _ rfl (by (with_reducible repeat (first | refine dN ?_ _ | refine dR ?_ | refine dA ?_ _)); refine blk_put (cs := #[.slice none 0 0, .slice none 0 0]) ?_ 1 _ rfl; refine blk_put (cs := #[.slice none 0 0, .slice none 0 0]) ?_ 0 _ rfl; (with_reducible repeat (first | refine dN ?_ _ | refine dR ?_ | refine dA ?_ _)); exact a2.out) Tryz.underlying35 rfl (by kernel_rfl)) rfl ?_
    exact ⟨_, _, erf, by first | exact Kd.R_nil _ _ _ _ _ | exact Kd.N_nil _ _ _ _ _ | exact Kd.V_nil _ _ _ _ _ | exact Kd.Q_nil _ _ _ _ _ | exact Kd.S_nil _ _ _ _ _, by first | exact Kd.R_nil _ _ _ _ _ | exact Kd.N_nil _ _ _ _ _ | exact Kd.V_nil _ _ _ _ _ | exact Kd.Q_nil _ _ _ _ _ | exact Kd.S_nil _ _ _ _ _, bb HB⟩
   ·try go_wp2_with (first | ((with_reducible refine gate_callee (f := 38) rfl ?_); refine gl 42 Tryz.func38 #[.slice d4 a9.length d0, .int .i64 (a5.length : Int)] (h := ?_); (with_reducible refine (graph_permutation.calls _ _ _ _ _ _ _ (cb j1 HB) o4.out C3.out).mono ?_); rintro e w41 ⟨rfl, hb⟩; refine ⟨_, rfl, ?_⟩; replace a0 := bkb a0 hb; replace a1 := bkb a1 hb; replace a2 := bkb a2 hb; replace HB := bstep HB hb; clear hb; obtain ⟨P0, O9, N5, N4⟩ := cz2 a1; obtain ⟨O8, O7, N3, N2⟩ := cz2 a0) | ((with_reducible refine gate_callee (f := 38) rfl ?_); refine gl 52 Tryz.func38 #[.slice d3 b0.length d2, .int .i64 (a3.length : Int)] (h := ?_); (with_reducible refine (graph_permutation.calls _ _ _ _ _ _ _ (cb o1 HB) t5.out G0.out).mono ?_); rintro e Q0 ⟨rfl, hb⟩; refine ⟨_, rfl, ?_⟩; replace a0 := bkb a0 hb; replace a1 := bkb a1 hb; replace a2 := bkb a2 hb; replace HB := bstep HB hb; clear hb))
    replace a0 := Aside0.mk (blk_drew a0.out)
    replace a1 := Aside0.mk (blk_drew a1.out)
    replace a2 := Aside0.mk (blk_drew a2.out)
    replace HB := Aside0.mk (below_drew1 HB.out)
    refine start_ (n := 11) (S := fun w' => w'.cell? ⟨a6, 0, none⟩ = some (.slice c2 a5.length c1) ∧ w'.cell? ⟨a6, 1, none⟩ = some (.slice c3 a3.length c0)) (ds := []) #[false, false, false, false, false, false, false, false, false, false, false] (by kernel_rfl) rfl rfl ⟨bc a0 0, bc a0 1⟩ (fun hHeld => ?_); refine with_tabW graph_Reorder.tab12 graph_Reorder.bits12 (fun HT_ HW_ => ?_)
    generalize Q0.drew = w45 at a0 a1 a2 HB hHeld ⊢
    refine pu 0 57 (bits 11 0x1) HT_ (h := ?_)
    refine pu 4 61 (bits 11 0x11) HT_ (h := ?_)
    refine tk 1 58 (bits 11 0x13) HT_ HW_ hHeld (hy := by rintro w' ⟨s0, s1⟩; go_simp; with_reducible rfl) (h := ?_)
    refine pu 2 59 (bits 11 0x17) HT_ (h := ?_)
    refine tk 5 62 (bits 11 0x37) HT_ HW_ hHeld (hy := by rintro w' ⟨s0, s1⟩; go_simp; with_reducible rfl) (h := ?_)
    refine pu 6 63 (bits 11 0x77) HT_ (h := ?_)
    refine join_ (σ := Value × Value × Nat) 1 #[true, true, true, true, true, true, true, true, true, true, false] (fun s_ => [(60, s_.1), (64, s_.2.1), (9, .pointer (some ⟨s_.2.2, 0, none⟩)), (65, .agg #[s_.1, s_.2.1])]) (fun s_ w' => (w'.cell? ⟨a6, 0, none⟩ = some (.slice c2 a5.length c1) ∧ w'.cell? ⟨a6, 1, none⟩ = some (.slice c3 a3.length c0)) ∧ (Kd.R (Kd.int .i64) 3 w' w.heap.size (fun _ => True) s_.1 e1) ∧ (Kd.R k56 56 w' w.heap.size (fun _ => True) s_.2.1 d5) ∧ (w'.heap[a6]? = some (.cells #[.slice c2 a5.length c1, .slice c3 a3.length c0] 35 (0, 0))) ∧ (w'.heap[b2]? = some (.cells #[.slice d4 a9.length d0, .slice d3 b0.length d2] 43 (0, 0))) ∧ (w'.heap[b1]? = some (.cells #[.slice none 0 0, .slice none 0 0] 35 (0, 0))) ∧ (w'.heap[s_.2.2]? = some (.cells #[.slice none 0 0, .slice none 0 0] 35 (0, 0))) ∧ (w.heap.size ≤ s_.2.2) ∧ (w.heap.size ≤ s_.2.2) ∧ (a6 ≠ s_.2.2) ∧ (s_.2.2 ≠ a6) ∧ (b2 ≠ s_.2.2) ∧ (s_.2.2 ≠ b2) ∧ (b1 ≠ s_.2.2) ∧ (s_.2.2 ≠ b1) ∧ (Below w.heap.size w w')) ?_ ?_
    rotate_left
    ·intro hJ3_7_9
     refine join_ (σ := Value × Value) 2 #[true, true, true, true, true, true, true, true, true, false, false] (fun s_ => [(60, s_.1), (64, s_.2), (65, .agg #[s_.1, s_.2])]) (fun s_ w' => (w'.cell? ⟨a6, 0, none⟩ = some (.slice c2 a5.length c1) ∧ w'.cell? ⟨a6, 1, none⟩ = some (.slice c3 a3.length c0)) ∧ (Kd.R (Kd.int .i64) 3 w' w.heap.size (fun _ => True) s_.1 e1) ∧ (Kd.R k56 56 w' w.heap.size (fun _ => True) s_.2 d5) ∧ (w'.heap[a6]? = some (.cells #[.slice c2 a5.length c1, .slice c3 a3.length c0] 35 (0, 0))) ∧ (w'.heap[b2]? = some (.cells #[.slice d4 a9.length d0, .slice d3 b0.length d2] 43 (0, 0))) ∧ (w'.heap[b1]? = some (.cells #[.slice none 0 0, .slice none 0 0] 35 (0, 0))) ∧ (Below w.heap.size w w')) ?_ ?_
     rotate_left
     ·intro hJ3_7
      refine join_ (σ := Value × Nat) 3 #[true, true, true, true, true, true, true, false, false, true, false] (fun s_ => [(60, s_.1), (9, .pointer (some ⟨s_.2, 0, none⟩))]) (fun s_ w' => (w'.cell? ⟨a6, 0, none⟩ = some (.slice c2 a5.length c1) ∧ w'.cell? ⟨a6, 1, none⟩ = some (.slice c3 a3.length c0)) ∧ (Kd.R (Kd.int .i64) 3 w' w.heap.size (fun _ => True) s_.1 e1) ∧ (w'.heap[a6]? = some (.cells #[.slice c2 a5.length c1, .slice c3 a3.length c0] 35 (0, 0))) ∧ (w'.heap[b2]? = some (.cells #[.slice d4 a9.length d0, .slice d3 b0.length d2] 43 (0, 0))) ∧ (w'.heap[b1]? = some (.cells #[.slice none 0 0, .slice none 0 0] 35 (0, 0))) ∧ (w'.heap[s_.2]? = some (.cells #[.slice none 0 0, .slice none 0 0] 35 (0, 0))) ∧ (w.heap.size ≤ s_.2) ∧ (w.heap.size ≤ s_.2) ∧ (a6 ≠ s_.2) ∧ (s_.2 ≠ a6) ∧ (b2 ≠ s_.2) ∧ (s_.2 ≠ b2) ∧ (b1 ≠ s_.2) ∧ (s_.2 ≠ b1) ∧ (Below w.heap.size w w')) ?_ ?_
      rotate_left
      ·intro hJ3_9
       refine join_ (σ := Value × Nat) 3 #[true, true, true, false, true, true, true, true, false, true, false] (fun s_ => [(64, s_.1), (9, .pointer (some ⟨s_.2, 0, none⟩))]) (fun s_ w' => (w'.cell? ⟨a6, 0, none⟩ = some (.slice c2 a5.length c1) ∧ w'.cell? ⟨a6, 1, none⟩ = some (.slice c3 a3.length c0)) ∧ (Kd.R k56 56 w' w.heap.size (fun _ => True) s_.1 d5) ∧ (w'.heap[a6]? = some (.cells #[.slice c2 a5.length c1, .slice c3 a3.length c0] 35 (0, 0))) ∧ (w'.heap[b2]? = some (.cells #[.slice d4 a9.length d0, .slice d3 b0.length d2] 43 (0, 0))) ∧ (w'.heap[b1]? = some (.cells #[.slice none 0 0, .slice none 0 0] 35 (0, 0))) ∧ (w'.heap[s_.2]? = some (.cells #[.slice none 0 0, .slice none 0 0] 35 (0, 0))) ∧ (w.heap.size ≤ s_.2) ∧ (w.heap.size ≤ s_.2) ∧ (a6 ≠ s_.2) ∧ (s_.2 ≠ a6) ∧ (b2 ≠ s_.2) ∧ (s_.2 ≠ b2) ∧ (b1 ≠ s_.2) ∧ (s_.2 ≠ b1) ∧ (Below w.heap.size w w')) ?_ ?_
       rotate_left
       ·intro hJ7_9
        refine join_ (σ := Value) 4 #[true, true, true, true, true, true, true, false, false, false, false] (fun s_ => [(60, s_)]) (fun s_ w' => (w'.cell? ⟨a6, 0, none⟩ = some (.slice c2 a5.length c1) ∧ w'.cell? ⟨a6, 1, none⟩ = some (.slice c3 a3.length c0)) ∧ (Kd.R (Kd.int .i64) 3 w' w.heap.size (fun _ => True) s_ e1) ∧ (w'.heap[a6]? = some (.cells #[.slice c2 a5.length c1, .slice c3 a3.length c0] 35 (0, 0))) ∧ (w'.heap[b2]? = some (.cells #[.slice d4 a9.length d0, .slice d3 b0.length d2] 43 (0, 0))) ∧ (w'.heap[b1]? = some (.cells #[.slice none 0 0, .slice none 0 0] 35 (0, 0))) ∧ (Below w.heap.size w w')) ?_ ?_
        rotate_left
        ·intro hJ3
         refine join_ (σ := Value) 4 #[true, true, true, false, true, true, true, true, false, false, false] (fun s_ => [(64, s_)]) (fun s_ w' => (w'.cell? ⟨a6, 0, none⟩ = some (.slice c2 a5.length c1) ∧ w'.cell? ⟨a6, 1, none⟩ = some (.slice c3 a3.length c0)) ∧ (Kd.R k56 56 w' w.heap.size (fun _ => True) s_ d5) ∧ (w'.heap[a6]? = some (.cells #[.slice c2 a5.length c1, .slice c3 a3.length c0] 35 (0, 0))) ∧ (w'.heap[b2]? = some (.cells #[.slice d4 a9.length d0, .slice d3 b0.length d2] 43 (0, 0))) ∧ (w'.heap[b1]? = some (.cells #[.slice none 0 0, .slice none 0 0] 35 (0, 0))) ∧ (Below w.heap.size w w')) ?_ ?_
         rotate_left
         ·intro hJ7
          refine join_ (σ := Nat) 4 #[true, true, true, false, true, true, true, false, false, true, false] (fun s_ => [(9, .pointer (some ⟨s_, 0, none⟩))]) (fun s_ w' => (w'.cell? ⟨a6, 0, none⟩ = some (.slice c2 a5.length c1) ∧ w'.cell? ⟨a6, 1, none⟩ = some (.slice c3 a3.length c0)) ∧ (w'.heap[a6]? = some (.cells #[.slice c2 a5.length c1, .slice c3 a3.length c0] 35 (0, 0))) ∧ (w'.heap[b2]? = some (.cells #[.slice d4 a9.length d0, .slice d3 b0.length d2] 43 (0, 0))) ∧ (w'.heap[b1]? = some (.cells #[.slice none 0 0, .slice none 0 0] 35 (0, 0))) ∧ (w'.heap[s_]? = some (.cells #[.slice none 0 0, .slice none 0 0] 35 (0, 0))) ∧ (w.heap.size ≤ s_) ∧ (w.heap.size ≤ s_) ∧ (a6 ≠ s_) ∧ (s_ ≠ a6) ∧ (b2 ≠ s_) ∧ (s_ ≠ b2) ∧ (b1 ≠ s_) ∧ (s_ ≠ b1) ∧ (Below w.heap.size w w')) ?_ ?_
          rotate_left
          ·intro hJ9
           refine three_ (i := 3) (j := 7) (k := 9) (Ni := some 60) (Nj := some 64) (Nk := some 9) #[true, true, true, true, true, true, true, false, false, false, false] #[true, true, true, false, true, true, true, true, false, false, false] #[true, true, true, false, true, true, true, false, false, true, false] rfl rfl rfl rfl rfl rfl (three_of HT_.out (by kernel_rfl)) (by decide) (by decide) (by decide) (fun K hK => ?_) (fun K hK => ?_) (fun K hK => ?_)
           ·skip
            refine Kd.R_make_step (Kd.int .i64) _ 3 (by rfl) (N := 60) rfl 32 _ _ rfl (a5.length : Int) rfl rfl Tryz.underlying32 (.int .i64 0) 8 info3 rfl (by decide) (by omega) 0 (ok := fun _ => True) (okp := fun _ => True) rfl (fun _ hk => hk) trivial (odt) (Nat.le_trans (Nat.mul_le_mul_right _ (odt : (a5.length : Int).toNat ≤ 35184372088832)) (by omega)) (Below.refl _ _) (Nat.le_refl _) ?_
            intro g1 E2 h0 hb hg_ hnew_
            clear hg_ hnew_
            (first | rw [← h2.out] at h0 | (simp only [Int.reduceToNat] at h0; rw [← h2.out] at h0))
            have c6 := Aside0.mk (Kd.R_lower h0 (below_size (bb HB)))
            replace a0 := bkb a0 hb
            replace a1 := bkb a1 hb
            replace a2 := bkb a2 hb
            replace HB := bstep HB hb
            clear hb h0
            refine hK.out _ _ ⟨bc a0 0, bc a0 1⟩ (fun hHeld => ?_)
            clear hK K
            refine norm_ (a' := ?_) ?_ ?_
            rotate_left
            ·show Act.put _ (some 60) _ = _
             simp only [Act.put, List.setIfInBounds_toArray, List.set_cons_zero, List.set_cons_succ, i64_w, i32_w]
             rfl
            exact norm_ (by first | (simp only [putAll, Act.put, List.setIfInBounds_toArray, List.set_cons_zero, List.set_cons_succ]; done) | (simp only [putAll, Act.put, List.setIfInBounds_toArray, List.set_cons_zero, List.set_cons_succ]; rfl)) (hJ3 (g1) _ ⟨hHeld, (kR c6), (bk a0), (bk a1), (bk a2), (bb HB)⟩)
           ·skip
            refine Kd.R_make_step k56 _ 56 (by rfl) (N := 64) rfl 33 _ _ rfl (a3.length : Int) rfl rfl Tryz.underlying33 (.agg #[(.int .i64 0), (.int .i64 0), (.int .i64 0)]) 24 info56 rfl (by decide) (by omega) z56 (ok := fun _ => True) (okp := fun _ => True) (k56_mkM _ _ _ z56 ) (fun _ hk => hk) trivial (odt) (Nat.le_trans (Nat.mul_le_mul_right _ (odt : (a3.length : Int).toNat ≤ 11728124029610)) (by omega)) (Below.refl _ _) (Nat.le_refl _) ?_
            intro g0 E2 h0 hb hg_ hnew_
            clear hg_ hnew_
            (first | rw [← h1.out] at h0 | (simp only [Int.reduceToNat] at h0; rw [← h1.out] at h0))
            have c5 := Aside0.mk (Kd.R_lower h0 (below_size (bb HB)))
            replace a0 := bkb a0 hb
            replace a1 := bkb a1 hb
            replace a2 := bkb a2 hb
            replace HB := bstep HB hb
            clear hb h0
            refine hK.out _ _ ⟨bc a0 0, bc a0 1⟩ (fun hHeld => ?_)
            clear hK K
            refine norm_ (a' := ?_) ?_ ?_
            rotate_left
            ·show Act.put _ (some 64) _ = _
             simp only [Act.put, List.setIfInBounds_toArray, List.set_cons_zero, List.set_cons_succ, i64_w, i32_w]
             rfl
            exact norm_ (by first | (simp only [putAll, Act.put, List.setIfInBounds_toArray, List.set_cons_zero, List.set_cons_succ]; done) | (simp only [putAll, Act.put, List.setIfInBounds_toArray, List.set_cons_zero, List.set_cons_succ]; rfl)) (hJ7 (g0) _ ⟨hHeld, (kR c5), (bk a0), (bk a1), (bk a2), (bb HB)⟩)
           ·skip
            refine box_step ?hg (N := 9) ?hd (cs := #[.slice none 0 0, .slice none 0 0]) (t := 35) ?hr ?_; (case hd => rfl); (case hg => rfl); (case hr => first | (go_simp; done) | (go_simp; rfl))
            intro a7 hg E2 hbox hb
            have a8 := Aside0.mk (hbox)
            have d9 := bsz HB hg
            have e0 := bsz HB hg
            replace HB := bstep HB hb
            have b4 := blt a0 hg
            have b3 := bgt a0 hg
            replace a0 := bkb a0 hb
            have b9 := blt a1 hg
            have b7 := bgt a1 hg
            replace a1 := bkb a1 hb
            have b8 := blt a2 hg
            have b6 := bgt a2 hg
            replace a2 := bkb a2 hb
            clear hb hbox hg
            refine hK.out _ _ ⟨bc a0 0, bc a0 1⟩ (fun hHeld => ?_)
            clear hK K
            refine norm_ (a' := ?_) ?_ ?_
            rotate_left
            ·show Act.put _ (some 9) _ = _
             simp only [Act.put, List.setIfInBounds_toArray, List.set_cons_zero, List.set_cons_succ, i64_w, i32_w]
             rfl
            exact norm_ (by first | (simp only [putAll, Act.put, List.setIfInBounds_toArray, List.set_cons_zero, List.set_cons_succ]; done) | (simp only [putAll, Act.put, List.setIfInBounds_toArray, List.set_cons_zero, List.set_cons_succ]; rfl)) (hJ9 (a7) _ ⟨hHeld, (bk a0), (bk a1), (bk a2), (bk a8), d9.out, e0.out, b4.out, b3.out, b9.out, b7.out, b8.out, b6.out, (bb HB)⟩)
          ·skip
           rintro a7 m8 ⟨hS_, h0_, h1_, h2_, h3_, h4_, h5_, h6_, h7_, h8_, h9_, h10_, h11_, h12_⟩
           replace a0 : Aside0 (m8.heap[a6]? = some (.cells #[.slice c2 a5.length c1, .slice c3 a3.length c0] 35 (0, 0))) := ⟨h0_⟩
           replace a1 : Aside0 (m8.heap[b2]? = some (.cells #[.slice d4 a9.length d0, .slice d3 b0.length d2] 43 (0, 0))) := ⟨h1_⟩
           replace a2 : Aside0 (m8.heap[b1]? = some (.cells #[.slice none 0 0, .slice none 0 0] 35 (0, 0))) := ⟨h2_⟩
           have a8 : Aside0 (m8.heap[a7]? = some (.cells #[.slice none 0 0, .slice none 0 0] 35 (0, 0))) := ⟨h3_⟩
           have d9 : Aside0 (w.heap.size ≤ a7) := ⟨h4_⟩
           have e0 : Aside0 (w.heap.size ≤ a7) := ⟨h5_⟩
           have b4 : Aside0 (a6 ≠ a7) := ⟨h6_⟩
           have b3 : Aside0 (a7 ≠ a6) := ⟨h7_⟩
           have b9 : Aside0 (b2 ≠ a7) := ⟨h8_⟩
           have b7 : Aside0 (a7 ≠ b2) := ⟨h9_⟩
           have b8 : Aside0 (b1 ≠ a7) := ⟨h10_⟩
           have b6 : Aside0 (a7 ≠ b1) := ⟨h11_⟩
           replace HB : Aside0 (Below w.heap.size w m8) := ⟨h12_⟩
           clear h0_ h1_ h2_ h3_ h4_ h5_ h6_ h7_ h8_ h9_ h10_ h11_ h12_
           have hHeld : m8.cell? ⟨a6, 0, none⟩ = some (.slice c2 a5.length c1) ∧ m8.cell? ⟨a6, 1, none⟩ = some (.slice c3 a3.length c0) := hS_
           refine norm_ (a' := ?_) ?_ ?_
           rotate_left
           ·simp only [putAll, Act.put, List.setIfInBounds_toArray, List.set_cons_zero, List.set_cons_succ]
            rfl
           refine two_ (i := 3) (j := 7) (Ni := some 60) (Nj := some 64) #[true, true, true, true, true, true, true, false, false, true, false] #[true, true, true, false, true, true, true, true, false, true, false] rfl rfl rfl rfl (two_of HT_.out (by kernel_rfl)) (by decide) (by decide) (fun K hK => ?_) (fun K hK => ?_)
           ·skip
            refine Kd.R_make_step (Kd.int .i64) _ 3 (by rfl) (N := 60) rfl 32 _ _ rfl (a5.length : Int) rfl rfl Tryz.underlying32 (.int .i64 0) 8 info3 rfl (by decide) (by omega) 0 (ok := fun _ => True) (okp := fun _ => True) rfl (fun _ hk => hk) trivial (odt) (Nat.le_trans (Nat.mul_le_mul_right _ (odt : (a5.length : Int).toNat ≤ 35184372088832)) (by omega)) (Below.refl _ _) (Nat.le_refl _) ?_
            intro g1 g3 g9 hb hg_ hnew_
            clear hg_ hnew_
            (first | rw [← h2.out] at g9 | (simp only [Int.reduceToNat] at g9; rw [← h2.out] at g9))
            have c6 := Aside0.mk (Kd.R_lower g9 (below_size (bb HB)))
            replace a0 := bkb a0 hb
            replace a1 := bkb a1 hb
            replace a2 := bkb a2 hb
            replace a8 := bkb a8 hb
            replace HB := bstep HB hb
            clear hb g9
            refine hK.out _ _ ⟨bc a0 0, bc a0 1⟩ (fun hHeld => ?_)
            clear hK K
            refine norm_ (a' := ?_) ?_ ?_
            rotate_left
            ·show Act.put _ (some 60) _ = _
             simp only [Act.put, List.setIfInBounds_toArray, List.set_cons_zero, List.set_cons_succ, i64_w, i32_w]
             rfl
            exact norm_ (by first | (simp only [putAll, Act.put, List.setIfInBounds_toArray, List.set_cons_zero, List.set_cons_succ]; done) | (simp only [putAll, Act.put, List.setIfInBounds_toArray, List.set_cons_zero, List.set_cons_succ]; rfl)) (hJ3_9 (g1, a7) _ ⟨hHeld, (kR c6), (bk a0), (bk a1), (bk a2), (bk a8), d9.out, e0.out, b4.out, b3.out, b9.out, b7.out, b8.out, b6.out, (bb HB)⟩)
           ·skip
            refine Kd.R_make_step k56 _ 56 (by rfl) (N := 64) rfl 33 _ _ rfl (a3.length : Int) rfl rfl Tryz.underlying33 (.agg #[(.int .i64 0), (.int .i64 0), (.int .i64 0)]) 24 info56 rfl (by decide) (by omega) z56 (ok := fun _ => True) (okp := fun _ => True) (k56_mkM _ _ _ z56 ) (fun _ hk => hk) trivial (odt) (Nat.le_trans (Nat.mul_le_mul_right _ (odt : (a3.length : Int).toNat ≤ 11728124029610)) (by omega)) (Below.refl _ _) (Nat.le_refl _) ?_
            intro g0 g3 g9 hb hg_ hnew_
            clear hg_ hnew_
            (first | rw [← h1.out] at g9 | (simp only [Int.reduceToNat] at g9; rw [← h1.out] at g9))
            have c5 := Aside0.mk (Kd.R_lower g9 (below_size (bb HB)))
            replace a0 := bkb a0 hb
            replace a1 := bkb a1 hb
            replace a2 := bkb a2 hb
            replace a8 := bkb a8 hb
            replace HB := bstep HB hb
            clear hb g9
            refine hK.out _ _ ⟨bc a0 0, bc a0 1⟩ (fun hHeld => ?_)
            clear hK K
            refine norm_ (a' := ?_) ?_ ?_
            rotate_left
            ·show Act.put _ (some 64) _ = _
             simp only [Act.put, List.setIfInBounds_toArray, List.set_cons_zero, List.set_cons_succ, i64_w, i32_w]
             rfl
            exact norm_ (by first | (simp only [putAll, Act.put, List.setIfInBounds_toArray, List.set_cons_zero, List.set_cons_succ]; done) | (simp only [putAll, Act.put, List.setIfInBounds_toArray, List.set_cons_zero, List.set_cons_succ]; rfl)) (hJ7_9 (g0, a7) _ ⟨hHeld, (kR c5), (bk a0), (bk a1), (bk a2), (bk a8), d9.out, e0.out, b4.out, b3.out, b9.out, b7.out, b8.out, b6.out, (bb HB)⟩)
         ·skip
          rintro g0 g3 ⟨hS_, h0_, h1_, h2_, h3_, h4_⟩
          have c5 : Aside0 (Kd.R k56 56 g3 w.heap.size (fun _ => True) g0 d5) := ⟨h0_⟩
          replace a0 : Aside0 (g3.heap[a6]? = some (.cells #[.slice c2 a5.length c1, .slice c3 a3.length c0] 35 (0, 0))) := ⟨h1_⟩
          replace a1 : Aside0 (g3.heap[b2]? = some (.cells #[.slice d4 a9.length d0, .slice d3 b0.length d2] 43 (0, 0))) := ⟨h2_⟩
          replace a2 : Aside0 (g3.heap[b1]? = some (.cells #[.slice none 0 0, .slice none 0 0] 35 (0, 0))) := ⟨h3_⟩
          replace HB : Aside0 (Below w.heap.size w g3) := ⟨h4_⟩
          clear h0_ h1_ h2_ h3_ h4_
          have hHeld : g3.cell? ⟨a6, 0, none⟩ = some (.slice c2 a5.length c1) ∧ g3.cell? ⟨a6, 1, none⟩ = some (.slice c3 a3.length c0) := hS_
          refine norm_ (a' := ?_) ?_ ?_
          rotate_left
          ·simp only [putAll, Act.put, List.setIfInBounds_toArray, List.set_cons_zero, List.set_cons_succ]
           rfl
          refine two_ (i := 3) (j := 9) (Ni := some 60) (Nj := some 9) #[true, true, true, true, true, true, true, true, false, false, false] #[true, true, true, false, true, true, true, true, false, true, false] rfl rfl rfl rfl (two_of HT_.out (by kernel_rfl)) (by decide) (by decide) (fun K hK => ?_) (fun K hK => ?_)
          ·skip
           refine Kd.R_make_step (Kd.int .i64) _ 3 (by rfl) (N := 60) rfl 32 _ _ rfl (a5.length : Int) rfl rfl Tryz.underlying32 (.int .i64 0) 8 info3 rfl (by decide) (by omega) 0 (ok := fun _ => True) (okp := fun _ => True) rfl (fun _ hk => hk) trivial (odt) (Nat.le_trans (Nat.mul_le_mul_right _ (odt : (a5.length : Int).toNat ≤ 35184372088832)) (by omega)) (Below.refl _ _) (Nat.le_refl _) ?_
           intro g1 e4 g8 hb hg_ hnew_
           clear hg_ hnew_
           (first | rw [← h2.out] at g8 | (simp only [Int.reduceToNat] at g8; rw [← h2.out] at g8))
           replace c5 := kRb c5 hb
           have c6 := Aside0.mk (Kd.R_lower g8 (below_size (bb HB)))
           replace a0 := bkb a0 hb
           replace a1 := bkb a1 hb
           replace a2 := bkb a2 hb
           replace HB := bstep HB hb
           clear hb g8
           obtain ⟨q6, q5, eo51⟩ := Kd.R_slice c5.out
           (first | subst eo51 | (injection eo51 with f1_ f2_ f3_; have f4_ := f1_.symm; have f5_ := f3_.symm; clear f1_ f2_ f3_; subst f4_; subst f5_))
           obtain ⟨j4, j3, eo52⟩ := Kd.R_slice c6.out
           (first | subst eo52 | (injection eo52 with f1_ f2_ f3_; have f4_ := f1_.symm; have f5_ := f3_.symm; clear f1_ f2_ f3_; subst f4_; subst f5_))
           refine hK.out _ _ ⟨bc a0 0, bc a0 1⟩ (fun hHeld => ?_)
           clear hK K
           refine norm_ (a' := ?_) ?_ ?_
           rotate_left
           ·show Act.put _ (some 60) _ = _
            simp only [Act.put, List.setIfInBounds_toArray, List.set_cons_zero, List.set_cons_succ, i64_w, i32_w]
            rfl
           refine pu 8 65 (bits 11 0x1ff) HT_ (h := ?_)
           exact norm_ (by first | (simp only [putAll, Act.put, List.setIfInBounds_toArray, List.set_cons_zero, List.set_cons_succ]; done) | (simp only [putAll, Act.put, List.setIfInBounds_toArray, List.set_cons_zero, List.set_cons_succ]; rfl)) (hJ3_7 (.slice j4 e1.length j3, .slice q6 d5.length q5) _ ⟨hHeld, (kR c6), (kR c5), (bk a0), (bk a1), (bk a2), (bb HB)⟩)
          ·skip
           refine box_step ?hg (N := 9) ?hd (cs := #[.slice none 0 0, .slice none 0 0]) (t := 35) ?hr ?_; (case hd => rfl); (case hg => rfl); (case hr => first | (go_simp; done) | (go_simp; rfl))
           intro a7 hg e4 hbox hb
           replace c5 := kRb c5 hb
           have a8 := Aside0.mk (hbox)
           have d9 := bsz HB hg
           have e0 := bsz HB hg
           replace HB := bstep HB hb
           have b4 := blt a0 hg
           have b3 := bgt a0 hg
           replace a0 := bkb a0 hb
           have b9 := blt a1 hg
           have b7 := bgt a1 hg
           replace a1 := bkb a1 hb
           have b8 := blt a2 hg
           have b6 := bgt a2 hg
           replace a2 := bkb a2 hb
           clear hb hbox hg
           refine hK.out _ _ ⟨bc a0 0, bc a0 1⟩ (fun hHeld => ?_)
           clear hK K
           refine norm_ (a' := ?_) ?_ ?_
           rotate_left
           ·show Act.put _ (some 9) _ = _
            simp only [Act.put, List.setIfInBounds_toArray, List.set_cons_zero, List.set_cons_succ, i64_w, i32_w]
            rfl
           exact norm_ (by first | (simp only [putAll, Act.put, List.setIfInBounds_toArray, List.set_cons_zero, List.set_cons_succ]; done) | (simp only [putAll, Act.put, List.setIfInBounds_toArray, List.set_cons_zero, List.set_cons_succ]; rfl)) (hJ7_9 (g0, a7) _ ⟨hHeld, (kR c5), (bk a0), (bk a1), (bk a2), (bk a8), d9.out, e0.out, b4.out, b3.out, b9.out, b7.out, b8.out, b6.out, (bb HB)⟩)
        ·skip
         rintro g1 g3 ⟨hS_, h0_, h1_, h2_, h3_, h4_⟩
         have c6 : Aside0 (Kd.R (Kd.int .i64) 3 g3 w.heap.size (fun _ => True) g1 e1) := ⟨h0_⟩
         replace a0 : Aside0 (g3.heap[a6]? = some (.cells #[.slice c2 a5.length c1, .slice c3 a3.length c0] 35 (0, 0))) := ⟨h1_⟩
         replace a1 : Aside0 (g3.heap[b2]? = some (.cells #[.slice d4 a9.length d0, .slice d3 b0.length d2] 43 (0, 0))) := ⟨h2_⟩
         replace a2 : Aside0 (g3.heap[b1]? = some (.cells #[.slice none 0 0, .slice none 0 0] 35 (0, 0))) := ⟨h3_⟩
         replace HB : Aside0 (Below w.heap.size w g3) := ⟨h4_⟩
         clear h0_ h1_ h2_ h3_ h4_
         have hHeld : g3.cell? ⟨a6, 0, none⟩ = some (.slice c2 a5.length c1) ∧ g3.cell? ⟨a6, 1, none⟩ = some (.slice c3 a3.length c0) := hS_
         refine norm_ (a' := ?_) ?_ ?_
         rotate_left
         ·simp only [putAll, Act.put, List.setIfInBounds_toArray, List.set_cons_zero, List.set_cons_succ]
          rfl
         refine two_ (i := 7) (j := 9) (Ni := some 64) (Nj := some 9) #[true, true, true, true, true, true, true, true, false, false, false] #[true, true, true, true, true, true, true, false, false, true, false] rfl rfl rfl rfl (two_of HT_.out (by kernel_rfl)) (by decide) (by decide) (fun K hK => ?_) (fun K hK => ?_)
         ·skip
          refine Kd.R_make_step k56 _ 56 (by rfl) (N := 64) rfl 33 _ _ rfl (a3.length : Int) rfl rfl Tryz.underlying33 (.agg #[(.int .i64 0), (.int .i64 0), (.int .i64 0)]) 24 info56 rfl (by decide) (by omega) z56 (ok := fun _ => True) (okp := fun _ => True) (k56_mkM _ _ _ z56 ) (fun _ hk => hk) trivial (odt) (Nat.le_trans (Nat.mul_le_mul_right _ (odt : (a3.length : Int).toNat ≤ 11728124029610)) (by omega)) (Below.refl _ _) (Nat.le_refl _) ?_
          intro g0 e4 g8 hb hg_ hnew_
          clear hg_ hnew_
          (first | rw [← h1.out] at g8 | (simp only [Int.reduceToNat] at g8; rw [← h1.out] at g8))
          replace c6 := kRb c6 hb
          have c5 := Aside0.mk (Kd.R_lower g8 (below_size (bb HB)))
          replace a0 := bkb a0 hb
          replace a1 := bkb a1 hb
          replace a2 := bkb a2 hb
          replace HB := bstep HB hb
          clear hb g8
          obtain ⟨q6, q5, eo51⟩ := Kd.R_slice c5.out
          (first | subst eo51 | (injection eo51 with f1_ f2_ f3_; have f4_ := f1_.symm; have f5_ := f3_.symm; clear f1_ f2_ f3_; subst f4_; subst f5_))
          obtain ⟨j4, j3, eo52⟩ := Kd.R_slice c6.out
          (first | subst eo52 | (injection eo52 with f1_ f2_ f3_; have f4_ := f1_.symm; have f5_ := f3_.symm; clear f1_ f2_ f3_; subst f4_; subst f5_))
          refine hK.out _ _ ⟨bc a0 0, bc a0 1⟩ (fun hHeld => ?_)
          clear hK K
          refine norm_ (a' := ?_) ?_ ?_
          rotate_left
          ·show Act.put _ (some 64) _ = _
           simp only [Act.put, List.setIfInBounds_toArray, List.set_cons_zero, List.set_cons_succ, i64_w, i32_w]
           rfl
          refine pu 8 65 (bits 11 0x1ff) HT_ (h := ?_)
          exact norm_ (by first | (simp only [putAll, Act.put, List.setIfInBounds_toArray, List.set_cons_zero, List.set_cons_succ]; done) | (simp only [putAll, Act.put, List.setIfInBounds_toArray, List.set_cons_zero, List.set_cons_succ]; rfl)) (hJ3_7 (.slice j4 e1.length j3, .slice q6 d5.length q5) _ ⟨hHeld, (kR c6), (kR c5), (bk a0), (bk a1), (bk a2), (bb HB)⟩)
         ·skip
          refine box_step ?hg (N := 9) ?hd (cs := #[.slice none 0 0, .slice none 0 0]) (t := 35) ?hr ?_; (case hd => rfl); (case hg => rfl); (case hr => first | (go_simp; done) | (go_simp; rfl))
          intro a7 hg e4 hbox hb
          replace c6 := kRb c6 hb
          have a8 := Aside0.mk (hbox)
          have d9 := bsz HB hg
          have e0 := bsz HB hg
          replace HB := bstep HB hb
          have b4 := blt a0 hg
          have b3 := bgt a0 hg
          replace a0 := bkb a0 hb
          have b9 := blt a1 hg
          have b7 := bgt a1 hg
          replace a1 := bkb a1 hb
          have b8 := blt a2 hg
          have b6 := bgt a2 hg
          replace a2 := bkb a2 hb
          clear hb hbox hg
          refine hK.out _ _ ⟨bc a0 0, bc a0 1⟩ (fun hHeld => ?_)
          clear hK K
          refine norm_ (a' := ?_) ?_ ?_
          rotate_left
          ·show Act.put _ (some 9) _ = _
           simp only [Act.put, List.setIfInBounds_toArray, List.set_cons_zero, List.set_cons_succ, i64_w, i32_w]
           rfl
          exact norm_ (by first | (simp only [putAll, Act.put, List.setIfInBounds_toArray, List.set_cons_zero, List.set_cons_succ]; done) | (simp only [putAll, Act.put, List.setIfInBounds_toArray, List.set_cons_zero, List.set_cons_succ]; rfl)) (hJ3_9 (g1, a7) _ ⟨hHeld, (kR c6), (bk a0), (bk a1), (bk a2), (bk a8), d9.out, e0.out, b4.out, b3.out, b9.out, b7.out, b8.out, b6.out, (bb HB)⟩)
       ·skip
        rintro ⟨g0, a7⟩ e4 ⟨hS_, h0_, h1_, h2_, h3_, h4_, h5_, h6_, h7_, h8_, h9_, h10_, h11_, h12_, h13_⟩
        have c5 : Aside0 (Kd.R k56 56 e4 w.heap.size (fun _ => True) g0 d5) := ⟨h0_⟩
        replace a0 : Aside0 (e4.heap[a6]? = some (.cells #[.slice c2 a5.length c1, .slice c3 a3.length c0] 35 (0, 0))) := ⟨h1_⟩
        replace a1 : Aside0 (e4.heap[b2]? = some (.cells #[.slice d4 a9.length d0, .slice d3 b0.length d2] 43 (0, 0))) := ⟨h2_⟩
        replace a2 : Aside0 (e4.heap[b1]? = some (.cells #[.slice none 0 0, .slice none 0 0] 35 (0, 0))) := ⟨h3_⟩
        have a8 : Aside0 (e4.heap[a7]? = some (.cells #[.slice none 0 0, .slice none 0 0] 35 (0, 0))) := ⟨h4_⟩
        have d9 : Aside0 (w.heap.size ≤ a7) := ⟨h5_⟩
        have e0 : Aside0 (w.heap.size ≤ a7) := ⟨h6_⟩
        have b4 : Aside0 (a6 ≠ a7) := ⟨h7_⟩
        have b3 : Aside0 (a7 ≠ a6) := ⟨h8_⟩
        have b9 : Aside0 (b2 ≠ a7) := ⟨h9_⟩
        have b7 : Aside0 (a7 ≠ b2) := ⟨h10_⟩
        have b8 : Aside0 (b1 ≠ a7) := ⟨h11_⟩
        have b6 : Aside0 (a7 ≠ b1) := ⟨h12_⟩
        replace HB : Aside0 (Below w.heap.size w e4) := ⟨h13_⟩
        clear h0_ h1_ h2_ h3_ h4_ h5_ h6_ h7_ h8_ h9_ h10_ h11_ h12_ h13_
        have hHeld : e4.cell? ⟨a6, 0, none⟩ = some (.slice c2 a5.length c1) ∧ e4.cell? ⟨a6, 1, none⟩ = some (.slice c3 a3.length c0) := hS_
        refine norm_ (a' := ?_) ?_ ?_
        rotate_left
        ·simp only [putAll, Act.put, List.setIfInBounds_toArray, List.set_cons_zero, List.set_cons_succ]
         rfl
        refine one_ (i := 3) (N := some 60) #[true, true, true, true, true, true, true, true, false, true, false] rfl rfl (one_of HT_.out (by kernel_rfl)) (by decide) (fun K hK => ?_)
        refine Kd.R_make_step (Kd.int .i64) _ 3 (by rfl) (N := 60) rfl 32 _ _ rfl (a5.length : Int) rfl rfl Tryz.underlying32 (.int .i64 0) 8 info3 rfl (by decide) (by omega) 0 (ok := fun _ => True) (okp := fun _ => True) rfl (fun _ hk => hk) trivial (odt) (Nat.le_trans (Nat.mul_le_mul_right _ (odt : (a5.length : Int).toNat ≤ 35184372088832)) (by omega)) (Below.refl _ _) (Nat.le_refl _) ?_
        intro g1 P9 g7 hb hg_ hnew_
        clear hg_ hnew_
        (first | rw [← h2.out] at g7 | (simp only [Int.reduceToNat] at g7; rw [← h2.out] at g7))
        replace c5 := kRb c5 hb
        have c6 := Aside0.mk (Kd.R_lower g7 (below_size (bb HB)))
        replace a0 := bkb a0 hb
        replace a1 := bkb a1 hb
        replace a2 := bkb a2 hb
        replace a8 := bkb a8 hb
        replace HB := bstep HB hb
        clear hb g7
        obtain ⟨j4, j3, eo52⟩ := Kd.R_slice c5.out
        (first | subst eo52 | (injection eo52 with f1_ f2_ f3_; have f4_ := f1_.symm; have f5_ := f3_.symm; clear f1_ f2_ f3_; subst f4_; subst f5_))
        obtain ⟨n2, m9, eo53⟩ := Kd.R_slice c6.out
        (first | subst eo53 | (injection eo53 with f1_ f2_ f3_; have f4_ := f1_.symm; have f5_ := f3_.symm; clear f1_ f2_ f3_; subst f4_; subst f5_))
        refine hK.out _ _ ⟨bc a0 0, bc a0 1⟩ (fun hHeld => ?_)
        clear hK K
        refine norm_ (a' := ?_) ?_ ?_
        rotate_left
        ·show Act.put _ (some 60) _ = _
         simp only [Act.put, List.setIfInBounds_toArray, List.set_cons_zero, List.set_cons_succ, i64_w, i32_w]
         rfl
        refine pu 8 65 (bits 11 0x3ff) HT_ (h := ?_)
        exact norm_ (by first | (simp only [putAll, Act.put, List.setIfInBounds_toArray, List.set_cons_zero, List.set_cons_succ]; done) | (simp only [putAll, Act.put, List.setIfInBounds_toArray, List.set_cons_zero, List.set_cons_succ]; rfl)) (hJ3_7_9 (.slice n2 e1.length m9, .slice j4 d5.length j3, a7) _ ⟨hHeld, (kR c6), (kR c5), (bk a0), (bk a1), (bk a2), (bk a8), d9.out, e0.out, b4.out, b3.out, b9.out, b7.out, b8.out, b6.out, (bb HB)⟩)
      ·skip
       rintro ⟨g1, a7⟩ e4 ⟨hS_, h0_, h1_, h2_, h3_, h4_, h5_, h6_, h7_, h8_, h9_, h10_, h11_, h12_, h13_⟩
       have c6 : Aside0 (Kd.R (Kd.int .i64) 3 e4 w.heap.size (fun _ => True) g1 e1) := ⟨h0_⟩
       replace a0 : Aside0 (e4.heap[a6]? = some (.cells #[.slice c2 a5.length c1, .slice c3 a3.length c0] 35 (0, 0))) := ⟨h1_⟩
       replace a1 : Aside0 (e4.heap[b2]? = some (.cells #[.slice d4 a9.length d0, .slice d3 b0.length d2] 43 (0, 0))) := ⟨h2_⟩
       replace a2 : Aside0 (e4.heap[b1]? = some (.cells #[.slice none 0 0, .slice none 0 0] 35 (0, 0))) := ⟨h3_⟩
       have a8 : Aside0 (e4.heap[a7]? = some (.cells #[.slice none 0 0, .slice none 0 0] 35 (0, 0))) := ⟨h4_⟩
       have d9 : Aside0 (w.heap.size ≤ a7) := ⟨h5_⟩
       have e0 : Aside0 (w.heap.size ≤ a7) := ⟨h6_⟩
       have b4 : Aside0 (a6 ≠ a7) := ⟨h7_⟩
       have b3 : Aside0 (a7 ≠ a6) := ⟨h8_⟩
       have b9 : Aside0 (b2 ≠ a7) := ⟨h9_⟩
       have b7 : Aside0 (a7 ≠ b2) := ⟨h10_⟩
       have b8 : Aside0 (b1 ≠ a7) := ⟨h11_⟩
       have b6 : Aside0 (a7 ≠ b1) := ⟨h12_⟩
       replace HB : Aside0 (Below w.heap.size w e4) := ⟨h13_⟩
       clear h0_ h1_ h2_ h3_ h4_ h5_ h6_ h7_ h8_ h9_ h10_ h11_ h12_ h13_
       have hHeld : e4.cell? ⟨a6, 0, none⟩ = some (.slice c2 a5.length c1) ∧ e4.cell? ⟨a6, 1, none⟩ = some (.slice c3 a3.length c0) := hS_
       refine norm_ (a' := ?_) ?_ ?_
       rotate_left
       ·simp only [putAll, Act.put, List.setIfInBounds_toArray, List.set_cons_zero, List.set_cons_succ]
        rfl
       refine one_ (i := 7) (N := some 64) #[true, true, true, true, true, true, true, true, false, true, false] rfl rfl (one_of HT_.out (by kernel_rfl)) (by decide) (fun K hK => ?_)
       refine Kd.R_make_step k56 _ 56 (by rfl) (N := 64) rfl 33 _ _ rfl (a3.length : Int) rfl rfl Tryz.underlying33 (.agg #[(.int .i64 0), (.int .i64 0), (.int .i64 0)]) 24 info56 rfl (by decide) (by omega) z56 (ok := fun _ => True) (okp := fun _ => True) (k56_mkM _ _ _ z56 ) (fun _ hk => hk) trivial (odt) (Nat.le_trans (Nat.mul_le_mul_right _ (odt : (a3.length : Int).toNat ≤ 11728124029610)) (by omega)) (Below.refl _ _) (Nat.le_refl _) ?_
       intro g0 P9 g7 hb hg_ hnew_
       clear hg_ hnew_
       (first | rw [← h1.out] at g7 | (simp only [Int.reduceToNat] at g7; rw [← h1.out] at g7))
       replace c6 := kRb c6 hb
       have c5 := Aside0.mk (Kd.R_lower g7 (below_size (bb HB)))
       replace a0 := bkb a0 hb
       replace a1 := bkb a1 hb
       replace a2 := bkb a2 hb
       replace a8 := bkb a8 hb
       replace HB := bstep HB hb
       clear hb g7
       obtain ⟨j4, j3, eo52⟩ := Kd.R_slice c5.out
       (first | subst eo52 | (injection eo52 with f1_ f2_ f3_; have f4_ := f1_.symm; have f5_ := f3_.symm; clear f1_ f2_ f3_; subst f4_; subst f5_))
       obtain ⟨n2, m9, eo53⟩ := Kd.R_slice c6.out
       (first | subst eo53 | (injection eo53 with f1_ f2_ f3_; have f4_ := f1_.symm; have f5_ := f3_.symm; clear f1_ f2_ f3_; subst f4_; subst f5_))
       refine hK.out _ _ ⟨bc a0 0, bc a0 1⟩ (fun hHeld => ?_)
       clear hK K
       refine norm_ (a' := ?_) ?_ ?_
       rotate_left
       ·show Act.put _ (some 64) _ = _
        simp only [Act.put, List.setIfInBounds_toArray, List.set_cons_zero, List.set_cons_succ, i64_w, i32_w]
        rfl
       refine pu 8 65 (bits 11 0x3ff) HT_ (h := ?_)
       exact norm_ (by first | (simp only [putAll, Act.put, List.setIfInBounds_toArray, List.set_cons_zero, List.set_cons_succ]; done) | (simp only [putAll, Act.put, List.setIfInBounds_toArray, List.set_cons_zero, List.set_cons_succ]; rfl)) (hJ3_7_9 (.slice n2 e1.length m9, .slice j4 d5.length j3, a7) _ ⟨hHeld, (kR c6), (kR c5), (bk a0), (bk a1), (bk a2), (bk a8), d9.out, e0.out, b4.out, b3.out, b9.out, b7.out, b8.out, b6.out, (bb HB)⟩)
     ·skip
      rintro ⟨g1, g0⟩ m5 ⟨hS_, h0_, h1_, h2_, h3_, h4_, h5_⟩
      have c6 : Aside0 (Kd.R (Kd.int .i64) 3 m5 w.heap.size (fun _ => True) g1 e1) := ⟨h0_⟩
      have c5 : Aside0 (Kd.R k56 56 m5 w.heap.size (fun _ => True) g0 d5) := ⟨h1_⟩
      replace a0 : Aside0 (m5.heap[a6]? = some (.cells #[.slice c2 a5.length c1, .slice c3 a3.length c0] 35 (0, 0))) := ⟨h2_⟩
      replace a1 : Aside0 (m5.heap[b2]? = some (.cells #[.slice d4 a9.length d0, .slice d3 b0.length d2] 43 (0, 0))) := ⟨h3_⟩
      replace a2 : Aside0 (m5.heap[b1]? = some (.cells #[.slice none 0 0, .slice none 0 0] 35 (0, 0))) := ⟨h4_⟩
      replace HB : Aside0 (Below w.heap.size w m5) := ⟨h5_⟩
      clear h0_ h1_ h2_ h3_ h4_ h5_
      have hHeld : m5.cell? ⟨a6, 0, none⟩ = some (.slice c2 a5.length c1) ∧ m5.cell? ⟨a6, 1, none⟩ = some (.slice c3 a3.length c0) := hS_
      obtain ⟨n2, m9, eo53⟩ := Kd.R_slice c5.out
      (first | subst eo53 | (injection eo53 with f1_ f2_ f3_; have f4_ := f1_.symm; have f5_ := f3_.symm; clear f1_ f2_ f3_; subst f4_; subst f5_))
      obtain ⟨m4, m3, eo54⟩ := Kd.R_slice c6.out
      (first | subst eo54 | (injection eo54 with f1_ f2_ f3_; have f4_ := f1_.symm; have f5_ := f3_.symm; clear f1_ f2_ f3_; subst f4_; subst f5_))
      refine norm_ (a' := ?_) ?_ ?_
      rotate_left
      ·simp only [putAll, Act.put, List.setIfInBounds_toArray, List.set_cons_zero, List.set_cons_succ]
       rfl
      refine one_ (i := 9) (N := some 9) #[true, true, true, true, true, true, true, true, true, true, false] rfl rfl (one_of HT_.out (by kernel_rfl)) (by decide) (fun K hK => ?_)
      refine box_step ?hg (N := 9) ?hd (cs := #[.slice none 0 0, .slice none 0 0]) (t := 35) ?hr ?_; (case hd => rfl); (case hg => rfl); (case hr => first | (go_simp; done) | (go_simp; rfl))
      intro a7 hg w55 hbox hb
      replace c6 := kRb c6 hb
      replace c5 := kRb c5 hb
      have a8 := Aside0.mk (hbox)
      have d9 := bsz HB hg
      have e0 := bsz HB hg
      replace HB := bstep HB hb
      have b4 := blt a0 hg
      have b3 := bgt a0 hg
      replace a0 := bkb a0 hb
      have b9 := blt a1 hg
      have b7 := bgt a1 hg
      replace a1 := bkb a1 hb
      have b8 := blt a2 hg
      have b6 := bgt a2 hg
      replace a2 := bkb a2 hb
      clear hb hbox hg
      refine hK.out _ _ ⟨bc a0 0, bc a0 1⟩ (fun hHeld => ?_)
      clear hK K
      refine norm_ (a' := ?_) ?_ ?_
      rotate_left
      ·show Act.put _ (some 9) _ = _
       simp only [Act.put, List.setIfInBounds_toArray, List.set_cons_zero, List.set_cons_succ, i64_w, i32_w]
       rfl
      exact norm_ (by first | (simp only [putAll, Act.put, List.setIfInBounds_toArray, List.set_cons_zero, List.set_cons_succ]; done) | (simp only [putAll, Act.put, List.setIfInBounds_toArray, List.set_cons_zero, List.set_cons_succ]; rfl)) (hJ3_7_9 (.slice m4 e1.length m3, .slice n2 d5.length m9, a7) _ ⟨hHeld, (kR c6), (kR c5), (bk a0), (bk a1), (bk a2), (bk a8), d9.out, e0.out, b4.out, b3.out, b9.out, b7.out, b8.out, b6.out, (bb HB)⟩)
    rintro ⟨g1, g0, a7⟩ h4 ⟨hS_, h0_, h1_, h2_, h3_, h4_, h5_, h6_, h7_, h8_, h9_, h10_, h11_, h12_, h13_, h14_⟩
    have c6 : Aside0 (Kd.R (Kd.int .i64) 3 h4 w.heap.size (fun _ => True) g1 e1) := ⟨h0_⟩
    have c5 : Aside0 (Kd.R k56 56 h4 w.heap.size (fun _ => True) g0 d5) := ⟨h1_⟩
    replace a0 : Aside0 (h4.heap[a6]? = some (.cells #[.slice c2 a5.length c1, .slice c3 a3.length c0] 35 (0, 0))) := ⟨h2_⟩
    replace a1 : Aside0 (h4.heap[b2]? = some (.cells #[.slice d4 a9.length d0, .slice d3 b0.length d2] 43 (0, 0))) := ⟨h3_⟩
    replace a2 : Aside0 (h4.heap[b1]? = some (.cells #[.slice none 0 0, .slice none 0 0] 35 (0, 0))) := ⟨h4_⟩
    have a8 : Aside0 (h4.heap[a7]? = some (.cells #[.slice none 0 0, .slice none 0 0] 35 (0, 0))) := ⟨h5_⟩
    have d9 : Aside0 (w.heap.size ≤ a7) := ⟨h6_⟩
    have e0 : Aside0 (w.heap.size ≤ a7) := ⟨h7_⟩
    have b4 : Aside0 (a6 ≠ a7) := ⟨h8_⟩
    have b3 : Aside0 (a7 ≠ a6) := ⟨h9_⟩
    have b9 : Aside0 (b2 ≠ a7) := ⟨h10_⟩
    have b7 : Aside0 (a7 ≠ b2) := ⟨h11_⟩
    have b8 : Aside0 (b1 ≠ a7) := ⟨h12_⟩
    have b6 : Aside0 (a7 ≠ b1) := ⟨h13_⟩
    replace HB : Aside0 (Below w.heap.size w h4) := ⟨h14_⟩
    clear h0_ h1_ h2_ h3_ h4_ h5_ h6_ h7_ h8_ h9_ h10_ h11_ h12_ h13_ h14_
    have hHeld : h4.cell? ⟨a6, 0, none⟩ = some (.slice c2 a5.length c1) ∧ h4.cell? ⟨a6, 1, none⟩ = some (.slice c3 a3.length c0) := hS_
    obtain ⟨m4, m3, eo54⟩ := Kd.R_slice c5.out
    (first | subst eo54 | (injection eo54 with f1_ f2_ f3_; have f4_ := f1_.symm; have f5_ := f3_.symm; clear f1_ f2_ f3_; subst f4_; subst f5_))
    obtain ⟨L4, L3, eo55⟩ := Kd.R_slice c6.out
    (first | subst eo55 | (injection eo55 with f1_ f2_ f3_; have f4_ := f1_.symm; have f5_ := f3_.symm; clear f1_ f2_ f3_; subst f4_; subst f5_))
    refine norm_ (a' := ?_) ?_ ?_
    rotate_left
    ·simp only [putAll, Act.put, List.setIfInBounds_toArray, List.set_cons_zero, List.set_cons_succ]
     rfl
    refine one_ (i := 10) (N := none) #[true, true, true, true, true, true, true, true, true, true, true] rfl rfl (one_of HT_.out (by kernel_rfl)) (by decide) (fun K hK => ?_)
    have a0i : h4.cell? ⟨a7, 0, none⟩ = some (.slice none 0 0) := bc a8 0
    have X5 := blk_frozen a8.out 0
    have M0 := b4.out
    have L9 := b9.out
    have L8 := b8.out
    have M6 := b3.out
    have M5 := b7.out
    have M4 := b6.out
    have a0h : h4.cell? ⟨a7, 1, none⟩ = some (.slice none 0 0) := bc a8 1
    have X4 := blk_frozen a8.out 1
    have L7 := b4.out
    have L6 := b9.out
    have L5 := b8.out
    have M3 := b3.out
    have M2 := b7.out
    have M1 := b6.out
    refine skip_ (w1 := ?_) (by rfl) rfl ?_ ?_
    rotate_left
    ·go_simp
     rfl
    refine hK.out _ _ ⟨(cfr hHeld.1), (cfr hHeld.2)⟩ (fun hHeld => ?_)
    clear hK K
    refine done_ (done_of HT_.out (by kernel_rfl)) ?_
    have W7 := b4.out
    have U8 := b3.out
    obtain ⟨w2, w0, v5, v4⟩ := cz2 a0
    try go_wp2
    go_loopg [69] q7 (fun kq Q2 w' => ∃ (d1 : Int) (c8 : List Int) (e5 : Value), Q2 = .int .i64 d1 ∧ Aside0 (graph_Reorder.l0 kq a5 (a5.length : Int) d1 a5 a3 a9 b0 c8 d5 = some (r1, r2, r3)) ∧ Aside0 (kq ≤ q7) ∧ Aside0 (Kd.R (Kd.int .i64) 3 w' w.heap.size (fun _ => True) e5 c8) ∧ Aside0 (Kd.R k56 56 w' w.heap.size (fun _ => True) (.slice m4 d5.length m3) d5) ∧ Aside0 (w'.heap[a6]? = some (.cells #[(.slice c2 a5.length c1), (.slice c3 a3.length c0)] 35 (0, 0))) ∧ Aside0 (w'.heap[b2]? = some (.cells #[(.slice d4 a9.length d0), (.slice d3 b0.length d2)] 43 (0, 0))) ∧ Aside0 (w'.heap[b1]? = some (.cells #[(.slice none 0 0), (.slice none 0 0)] 35 (0, 0))) ∧ Aside0 (w'.heap[a7]? = some (.cells #[e5, (.slice m4 d5.length m3)] 35 (0, 0))) ∧ Aside0 (Below w.heap.size w w'))
    case atStart => exact ⟨(0), (e1), (.slice L4 e1.length L3), eqs, H', ⟨Nat.le_refl _⟩, ⟨ktm c6 a8 (fun _ hk => trivial)⟩, ⟨ktm c5 a8 (fun _ hk => trivial)⟩, ⟨bkF a0⟩, ⟨bkF a1⟩, ⟨bkF a2⟩, ⟨bkP a8⟩, ⟨bb HB⟩⟩
    case round =>
     clear H'
     try clear w2 w0 v5 v4
     obtain ⟨d1, c8, e5, rfl, HA, t3, HO_548000, HO_548001, a0, a1, a2, a8, HB⟩ := hrel
     cases gk with
     | zero => exact absurd HA.out (by simp [graph_Reorder.l0])
     | succ k2 =>
      have H := HA.out
      clear HA
      simp only [graph_Reorder.l0] at H
      by_cases n8 : d1 < (a5.length : Int)
      ·rw [if_pos n8] at H
       have r9 := decide_eq_true n8
       clear n8
       obtain ⟨F8, H⟩ := itn H
       have Y9 := decide_eq_true F8
       clear F8
       obtain ⟨F7, H⟩ := itn H
       have Y8 := decide_eq_true F7
       clear F7
       obtain ⟨F6, H⟩ := itn H
       have Y7 := decide_eq_true F6
       clear F6
       obtain ⟨F5, H⟩ := itn H
       have Y6 := decide_eq_true F5
       clear F5
       obtain ⟨F4, H⟩ := itn H
       have Y5 := decide_eq_true F4
       clear F4
       obtain ⟨w9, j9⟩ : ∃ y_ : List Int, y_ = (c8.set ((rd a9 d1) : Int).toNat (rd a5 d1)) := ⟨_, rfl⟩
       replace H : (graph_Reorder.l0 k2 a5 (a5.length : Int) (wrap64 (d1 + 1)) a5 a3 a9 b0 w9 d5) = some (r1, r2, r3) := by first | (rw [j9]; with_reducible exact H) | (have H2_ := (Option.bind_some _ _).symm.trans H; rw [j9]; with_reducible exact H2_) | (have H2_ := (Option.bind_some _ _).symm.trans H; with_reducible exact H2_) | with_reducible exact H | (rw [j9]; exact H) | exact H
       have D5 := Aside0.mk j9
       clear j9
       have H' := Aside0.mk H
       clear H
       have q4 : 0 ≤ d1 := odt
       have p8 : d1 < (a5.length : Int) := odt
       obtain ⟨Z8, L2, n6⟩ := Kd.at_int o3.out d1 q4 p8
       cases L2
       replace n6 := hxc HB n6
       replace q4 := eq_true q4
       replace p8 := eq_true p8
       try go_wp2
       replace HO_548000 := Aside0.mk (Kd.R_drew HO_548000.out)
       replace HO_548001 := Aside0.mk (Kd.R_drew HO_548001.out)
       replace a0 := Aside0.mk (blk_drew a0.out)
       replace a1 := Aside0.mk (blk_drew a1.out)
       replace a2 := Aside0.mk (blk_drew a2.out)
       replace a8 := Aside0.mk (blk_drew a8.out)
       replace HB := Aside0.mk (below_drew1 HB.out)
       have q3 : 0 ≤ d1 := odt
       have p7 : d1 < (a9.length : Int) := odt
       obtain ⟨t2, L1, h9⟩ := Kd.at_int j1.out d1 q3 p7
       have v1 := h9
       cases L1
       replace h9 := hxc HB h9
       replace q3 := eq_true q3
       replace p7 := eq_true p7
       have x6 : 0 ≤ ((rd a9 d1) : Int) := odt
       have x3 : ((rd a9 d1) : Int) < ((c8.length : Int) : Int) := odt
       obtain ⟨go66, A4, eo66, A0, gl66, cl66, HG66⟩ := Kd.R_form HO_548000.out (by omega)
       (first | cases eo66 | (injection eo66 with ea_ en_ ec_; (first | subst ea_ | (injection ea_ with ea_; subst ea_)); subst ec_; clear en_))
       have GB66 := Aside0.mk A0
       have GG66 := Aside0.mk HG66
       clear A0 gl66 HG66
       obtain ⟨y8, hf66_0⟩ := Kd.R_celln 0 HO_548000.out ((rd a9 d1) : Int) x6 x3
       replace x6 := eq_true x6
       replace x3 := eq_true x3
       have HP68 := Kd.R_putn HO_548000.out ((rd a9 d1) : Int) (rd a5 d1)
       rw [← D5.out] at HP68
       have HQ68 := Aside0.mk HP68
       clear HP68
       refine start_ (n := 10) (S := fun w' => w'.cell? ⟨a7, 0, none⟩ = some (.slice (some ⟨go66, 0, none⟩) c8.length A4) ∧ w'.cell? ⟨a7, 1, none⟩ = some (.slice m4 d5.length m3) ∧ w'.cell? ⟨b2, 0, none⟩ = some (.slice (some t2) a9.length d0) ∧ w'.cell? ⟨b2, 1, none⟩ = some (.slice d3 b0.length d2) ∧ w'.cell? (t2.add (d1).toNat) = some (.int .i64 (rd a9 d1))) (ds := [9]) #[false, false, false, false, false, false, false, false, false, false] (by kernel_rfl) rfl rfl ⟨bc a8 0, bc a8 1, bc a1 0, bc a1 1, (hxc HB v1)⟩ (fun hHeld => ?_); refine with_tabW graph_Reorder.tab16 graph_Reorder.bits16 (fun HT_ HW_ => ?_)
       generalize wr.drew = w67 at HO_548000 HO_548001 a0 a1 a2 a8 HB GG66 HQ68 hf66_0 h9 y8 hHeld ⊢
       refine pu 0 74 (bits 10 0x1) HT_ (h := ?_)
       refine pu 2 76 (bits 10 0x5) HT_ (h := ?_)
       refine pu 4 78 (bits 10 0x15) HT_ (h := ?_)
       refine pu 7 81 (bits 10 0x95) HT_ (h := ?_)
       refine tk 1 75 (bits 10 0x97) HT_ HW_ hHeld (hy := by rintro w' ⟨s0, s1, s2, s3, s4⟩; go_simp; with_reducible rfl) (h := ?_)
       refine tk 3 77 (bits 10 0x9f) HT_ HW_ hHeld (hy := by rintro w' ⟨s0, s1, s2, s3, s4⟩; go_simp; with_reducible rfl) (h := ?_)
       refine pu 5 79 (bits 10 0xbf) HT_ (h := ?_)
       refine tk 6 80 (bits 10 0xff) HT_ HW_ hHeld (hy := by rintro w' ⟨s0, s1, s2, s3, s4⟩; go_simp; with_reducible rfl) (h := ?_)
       refine pu 8 82 (bits 10 0x1ff) HT_ (h := ?_)
       refine last_ (i := 9) (N := none) #[true, true, true, true, true, true, true, true, true, true] rfl rfl (one_of HT_.out (by kernel_rfl)) (by decide) (fun K hK => ?_)
       refine skip_ (w1 := ?_) (by rfl) rfl ?_ ?_
       rotate_left
       ·go_simp
        rfl
       refine hK.out _ _ ?_
       clear hK K
       refine done_ (done_of HT_.out (by kernel_rfl)) ?_
       try go_wp2
       go_roundg k2
       case measure => have := t4.out; have := t3.out; omega
       case rel => exact ⟨(wrap64 (d1 + 1)), (w9), (.slice (some ⟨go66, 0, none⟩) c8.length A4), eqs, H', ⟨by have := t4.out; have := t3.out; omega⟩, ⟨kR HQ68⟩, ⟨ktm HO_548001 GG66 (fun _ hk => trivial)⟩, ⟨by (with_reducible repeat (first | refine dN ?_ _ | refine dR ?_ | refine dA ?_ _)); refine blk_far ?_ (by have h_ := Kd.R_ne HO_548000.out a0.out (by decide); intro e_; exact h_ (by rw [e_]; rfl)) _; (with_reducible repeat (first | refine dN ?_ _ | refine dR ?_ | refine dA ?_ _)); exact a0.out⟩, ⟨by (with_reducible repeat (first | refine dN ?_ _ | refine dR ?_ | refine dA ?_ _)); refine blk_far ?_ (by have h_ := Kd.R_ne HO_548000.out a1.out (by decide); intro e_; exact h_ (by rw [e_]; rfl)) _; (with_reducible repeat (first | refine dN ?_ _ | refine dR ?_ | refine dA ?_ _)); exact a1.out⟩, ⟨by (with_reducible repeat (first | refine dN ?_ _ | refine dR ?_ | refine dA ?_ _)); refine blk_far ?_ (by have h_ := Kd.R_ne HO_548000.out a2.out (by decide); intro e_; exact h_ (by rw [e_]; rfl)) _; (with_reducible repeat (first | refine dN ?_ _ | refine dR ?_ | refine dA ?_ _)); exact a2.out⟩, ⟨by (with_reducible repeat (first | refine dN ?_ _ | refine dR ?_ | refine dA ?_ _)); refine blk_far ?_ (by have h_ := Kd.R_ne HO_548000.out a8.out (by decide); intro e_; exact h_ (by rw [e_]; rfl)) _; (with_reducible repeat (first | refine dN ?_ _ | refine dR ?_ | refine dA ?_ _)); exact a8.out⟩, ⟨bb HB⟩⟩
      rw [if_neg n8] at H
      have r9 := decide_eq_false n8
      clear n8
      have H' := Aside0.mk H
      clear H
      have W6 := e9.out
      have U7 := e8.out
      have W5 := d8.out
      have U6 := d7.out
      have W4 := b4.out
      have U5 := b3.out
      obtain ⟨v9, v8, v3, v2⟩ := cz2 a0
      go_wp2
      go_loopg [87] k2 (fun kq Q1 w' => ∃ (a4 : Int) (c7 : List (S56)) (h3 : Value), Q1 = .int .i64 a4 ∧ Aside0 (graph_Reorder.l1 kq a3 (a3.length : Int) a4 a9 b0 c8 c7 = some (r1, r2, r3)) ∧ Aside0 (kq ≤ k2) ∧ Aside0 (Kd.R (Kd.int .i64) 3 w' w.heap.size (fun _ => True) e5 c8) ∧ Aside0 (Kd.R k56 56 w' w.heap.size (fun _ => True) h3 c7) ∧ Aside0 (w'.heap[a6]? = some (.cells #[(.slice c2 a5.length c1), (.slice c3 a3.length c0)] 35 (0, 0))) ∧ Aside0 (w'.heap[b2]? = some (.cells #[(.slice d4 a9.length d0), (.slice d3 b0.length d2)] 43 (0, 0))) ∧ Aside0 (w'.heap[b1]? = some (.cells #[(.slice none 0 0), (.slice none 0 0)] 35 (0, 0))) ∧ Aside0 (w'.heap[a7]? = some (.cells #[e5, h3] 35 (0, 0))) ∧ Aside0 (Below w.heap.size w w'))
      case atStart => exact ⟨(0), (d5), (.slice m4 d5.length m3), eqs, H', ⟨Nat.le_refl _⟩, ⟨kR HO_548000⟩, ⟨kR HO_548001⟩, ⟨bk a0⟩, ⟨bk a1⟩, ⟨bk a2⟩, ⟨bk a8⟩, ⟨bb HB⟩⟩
      case round =>
       clear H'
       try clear r9 v9 v8 v3 v2
       obtain ⟨a4, c7, h3, rfl, HA, F9, HO_548000, HO_548001, a0, a1, a2, a8, HB⟩ := hrel
       cases gk with
       | zero => exact absurd HA.out (by simp [graph_Reorder.l1])
       | succ k3 =>
        have H := HA.out
        clear HA
        simp only [graph_Reorder.l1] at H
        by_cases n7 : a4 < (a3.length : Int)
        rotate_left
        ·rw [if_neg n7] at H
         have C5 := decide_eq_false n7
         clear n7
         simp only [Option.some.injEq, Prod.mk.injEq] at H
         obtain ⟨rfl, rfl, rfl⟩ := H
         have V9 := b3.out
         have U0 := b4.out
         have V8 := b7.out
         have R9 := b9.out
         have V7 := b6.out
         have R8 := b8.out
         obtain ⟨O3, O2, M8, M7⟩ := cz2 a8
         obtain ⟨C2, A1, eo97⟩ := Kd.R_slice HO_548000.out
         subst eo97
         have V6 := d7.out
         have R7 := d8.out
         have V5 := e6.out
         have R6 := e7.out
         obtain ⟨J6, J5, H8, H7⟩ := cz2 a2
         obtain ⟨D9, C4, eo101⟩ := Kd.R_slice HO_548001.out
         subst eo101
         go_wp2
         refine bodyPost_ret (results_ct rfl _ _ b1 35 #[.slice C2 c8.length A1, .slice D9 c7.length C4] (0, 0) _ rfl (by (with_reducible repeat (first | refine dN ?_ _ | refine dR ?_ | refine dA ?_ _)); refine blk_put (cs := #[.slice C2 c8.length A1, .slice none 0 0]) ?_ 1 _ rfl; refine blk_put (cs := #[.slice none 0 0, .slice none 0 0]) ?_ 0 _ rfl; (with_reducible repeat (first | refine dN ?_ _ | refine dR ?_ | refine dA ?_ _)); exact a2.out) Tryz.underlying35 rfl (by kernel_rfl)) rfl ?_
         exact ⟨_, _, erf, ktm HO_548000 a2 (fun _ hk => trivial), ktm HO_548001 a2 (fun _ hk => trivial), bb HB⟩
        rw [if_pos n7] at H
        have C5 := decide_eq_true n7
        clear n7
        obtain ⟨F3, H⟩ := itn H
        have Y4 := decide_eq_true F3
        clear F3
        obtain ⟨F2, H⟩ := itn H
        have Y3 := decide_eq_true F2
        clear F2
        obtain ⟨F1, H⟩ := itn H
        have Y2 := decide_eq_true F1
        clear F1
        obtain ⟨F0, H⟩ := itn H
        have Y1 := decide_eq_true F0
        clear F0
        obtain ⟨E9, H⟩ := itn H
        have Y0 := decide_eq_true E9
        clear E9
        obtain ⟨E8, H⟩ := itn H
        have X9 := decide_eq_true E8
        clear E8
        obtain ⟨E7, H⟩ := itn H
        have X8 := decide_eq_true E7
        clear E7
        obtain ⟨E6, H⟩ := itn H
        have X7 := decide_eq_true E6
        clear E6
        obtain ⟨E5, H⟩ := itn H
        have X6 := decide_eq_true E5
        clear E5
        obtain ⟨w5, j8⟩ : ∃ y_ : List (S56), y_ = (c7.set ((rd b0 a4) : Int).toNat (⟨(rd_T56 a3 a4).f0, rd a9 ((rd_T56 a3 a4).f1), rd a9 ((rd_T56 a3 a4).f2)⟩ : S56)) := ⟨_, rfl⟩
        replace H : (graph_Reorder.l1 k3 a3 (a3.length : Int) (wrap64 (a4 + 1)) a9 b0 c8 w5) = some (r1, r2, r3) := by first | (rw [j8]; with_reducible exact H) | (have H2_ := (Option.bind_some _ _).symm.trans H; rw [j8]; with_reducible exact H2_) | (have H2_ := (Option.bind_some _ _).symm.trans H; with_reducible exact H2_) | with_reducible exact H | (rw [j8]; exact H) | exact H
        have D4 := Aside0.mk j8
        clear j8
        have H' := Aside0.mk H
        clear H
        have q2 : 0 ≤ a4 := odt
        have p6 : a4 < (a3.length : Int) := odt
        obtain ⟨D3, L0, n5, n4, n3⟩ := at_T56 o2.out a4 q2 p6
        cases L0
        replace n5 := hxc HB n5
        replace n4 := hxc HB n4
        replace n3 := hxc HB n3
        replace q2 := eq_true q2
        replace p6 := eq_true p6
        try go_wp2_with (first | ((with_reducible refine gate_dst (N := 13) rfl ?_); (try (refine gate_guard (by rfl) ?_; dsimp only)); refine be 13 #[.int .i64 0, .int .i64 0, .int .i64 0] 56 ?_; intro b5 hg j7 hbox hb; replace HO_548000 := kRb HO_548000 hb; replace HO_548001 := Aside0.mk (Kd.R_below (Kd.R_elderB (kR HO_548001) b5 (Nat.le_of_eq hg.symm)) hb); have g2 := Aside0.mk (hbox); have Z9 := bsz HB hg; replace HB := bstep HB hb; have p2 := blt a0 hg; have o8 := bgt a0 hg; replace a0 := bkb a0 hb; have p1 := blt a1 hg; have o7 := bgt a1 hg; replace a1 := bkb a1 hb; have p0 := blt a2 hg; have o6 := bgt a2 hg; replace a2 := bkb a2 hb; have o9 := blt a8 hg; have o5 := bgt a8 hg; replace a8 := bkb a8 hb; clear hb hbox hg; have W3 := o8.out; have U4 := p2.out; have W2 := o7.out; have U3 := p1.out; have W1 := o6.out; have U2 := p0.out; have W0 := o5.out; have U1 := o9.out; obtain ⟨O6, O5, O4, N1, N0, M9⟩ := cz3 g2))
        have y4 : Aside0 (Kd.R (Kd.int .i64) 3 (((j7.setCell ⟨b5, 0, none⟩ (.int .i64 ((rd_T56 a3 a4).f0))).setCell ⟨b5, 1, none⟩ (.int .i64 ((rd_T56 a3 a4).f1))).setCell ⟨b5, 2, none⟩ (.int .i64 ((rd_T56 a3 a4).f2))) w.heap.size (fun _ => True) e5 c8) := ⟨ktm HO_548000 g2 (fun _ hk => trivial)⟩
        have y3 : Aside0 (Kd.R k56 56 (((j7.setCell ⟨b5, 0, none⟩ (.int .i64 ((rd_T56 a3 a4).f0))).setCell ⟨b5, 1, none⟩ (.int .i64 ((rd_T56 a3 a4).f1))).setCell ⟨b5, 2, none⟩ (.int .i64 ((rd_T56 a3 a4).f2))) w.heap.size (fun k_ => k_ ≠ b5) h3 c7) := ⟨knm (g := b5) HO_548001 (fun _ hk => hk.2) (fun _ hk => hk.1.2)⟩
        have y2 : Aside0 ((((j7.setCell ⟨b5, 0, none⟩ (.int .i64 ((rd_T56 a3 a4).f0))).setCell ⟨b5, 1, none⟩ (.int .i64 ((rd_T56 a3 a4).f1))).setCell ⟨b5, 2, none⟩ (.int .i64 ((rd_T56 a3 a4).f2))).heap[a6]? = some (.cells #[.slice c2 a5.length c1, .slice (some D3) a3.length c0] 35 (0, 0))) := ⟨bkF a0⟩
        have y1 : Aside0 ((((j7.setCell ⟨b5, 0, none⟩ (.int .i64 ((rd_T56 a3 a4).f0))).setCell ⟨b5, 1, none⟩ (.int .i64 ((rd_T56 a3 a4).f1))).setCell ⟨b5, 2, none⟩ (.int .i64 ((rd_T56 a3 a4).f2))).heap[b2]? = some (.cells #[.slice d4 a9.length d0, .slice d3 b0.length d2] 43 (0, 0))) := ⟨bkF a1⟩
        have y0 : Aside0 ((((j7.setCell ⟨b5, 0, none⟩ (.int .i64 ((rd_T56 a3 a4).f0))).setCell ⟨b5, 1, none⟩ (.int .i64 ((rd_T56 a3 a4).f1))).setCell ⟨b5, 2, none⟩ (.int .i64 ((rd_T56 a3 a4).f2))).heap[b1]? = some (.cells #[.slice none 0 0, .slice none 0 0] 35 (0, 0))) := ⟨bkF a2⟩
        have x9 : Aside0 ((((j7.setCell ⟨b5, 0, none⟩ (.int .i64 ((rd_T56 a3 a4).f0))).setCell ⟨b5, 1, none⟩ (.int .i64 ((rd_T56 a3 a4).f1))).setCell ⟨b5, 2, none⟩ (.int .i64 ((rd_T56 a3 a4).f2))).heap[a7]? = some (.cells #[e5, h3] 35 (0, 0))) := ⟨bkF a8⟩
        have x8 : Aside0 ((((j7.setCell ⟨b5, 0, none⟩ (.int .i64 ((rd_T56 a3 a4).f0))).setCell ⟨b5, 1, none⟩ (.int .i64 ((rd_T56 a3 a4).f1))).setCell ⟨b5, 2, none⟩ (.int .i64 ((rd_T56 a3 a4).f2))).heap[b5]? = some (.cells #[.int .i64 ((rd_T56 a3 a4).f0), .int .i64 ((rd_T56 a3 a4).f1), .int .i64 ((rd_T56 a3 a4).f2)] 56 (0, 0))) := ⟨bkP g2⟩
        have x7 : Aside0 (Below w.heap.size w (((j7.setCell ⟨b5, 0, none⟩ (.int .i64 ((rd_T56 a3 a4).f0))).setCell ⟨b5, 1, none⟩ (.int .i64 ((rd_T56 a3 a4).f1))).setCell ⟨b5, 2, none⟩ (.int .i64 ((rd_T56 a3 a4).f2)))) := ⟨bb HB⟩
        (try clear HO_548000)
        (try clear HO_548001)
        (try clear a0)
        (try clear a1)
        (try clear a2)
        (try clear a8)
        (try clear g2)
        (try clear HB)
        generalize (((j7.setCell ⟨b5, 0, none⟩ (.int .i64 ((rd_T56 a3 a4).f0))).setCell ⟨b5, 1, none⟩ (.int .i64 ((rd_T56 a3 a4).f1))).setCell ⟨b5, 2, none⟩ (.int .i64 ((rd_T56 a3 a4).f2))) = P8 at y4 y3 y2 y1 y0 x9 x8 x7 ⊢
        have HO_548000 := y4
        have HO_548001 := y3
        have a0 := y2
        have a1 := y1
        have a2 := y0
        have a8 := x9
        have g2 := x8
        have HB := x7
        clear y4 y3 y2 y1 y0 x9 x8 x7
        replace HO_548000 := Aside0.mk (Kd.R_drew HO_548000.out)
        replace HO_548001 := Aside0.mk (Kd.R_drew HO_548001.out)
        replace a0 := Aside0.mk (blk_drew a0.out)
        replace a1 := Aside0.mk (blk_drew a1.out)
        replace a2 := Aside0.mk (blk_drew a2.out)
        replace a8 := Aside0.mk (blk_drew a8.out)
        replace g2 := Aside0.mk (blk_drew g2.out)
        replace HB := Aside0.mk (below_drew1 HB.out)
        have q1 : 0 ≤ a4 := odt
        have p5 : a4 < (b0.length : Int) := odt
        obtain ⟨t1, J9, h8⟩ := Kd.at_int o1.out a4 q1 p5
        have v0 := h8
        cases J9
        replace h8 := hxc HB h8
        replace q1 := eq_true q1
        replace p5 := eq_true p5
        have q0 : 0 ≤ (((rd_T56 a3 a4).f1) : Int) := odt
        have p4 : ((rd_T56 a3 a4).f1) < (a9.length : Int) := odt
        obtain ⟨m7, J8, h7⟩ := Kd.at_int j1.out ((rd_T56 a3 a4).f1) q0 p4
        have t9 := h7
        cases J8
        replace h7 := hxc HB h7
        replace q0 := eq_true q0
        replace p4 := eq_true p4
        have p9 : 0 ≤ (((rd_T56 a3 a4).f2) : Int) := odt
        have p3 : ((rd_T56 a3 a4).f2) < (a9.length : Int) := odt
        obtain ⟨D2, J7, h6⟩ := Kd.at_int j1.out ((rd_T56 a3 a4).f2) p9 p3
        have t8 := h6
        obtain rfl : m7 = D2 := (by injection J7)
        replace h6 := hxc HB h6
        replace p9 := eq_true p9
        replace p3 := eq_true p3
        have x4 : 0 ≤ ((rd b0 a4) : Int) := odt
        have x2 : ((rd b0 a4) : Int) < ((c7.length : Int) : Int) := odt
        obtain ⟨go83, A2, eo83, y9, gl83, cl83, HG83⟩ := Kd.R_form HO_548001.out (by omega)
        (first | cases eo83 | (injection eo83 with ea_ en_ ec_; (first | subst ea_ | (injection ea_ with ea_; subst ea_)); subst ec_; clear en_))
        have GB83 := Aside0.mk y9
        have GG83 := Aside0.mk HG83
        clear y9 gl83 HG83
        obtain ⟨ce83, hcl83, hM83, hcc83, hfr83⟩ := Kd.R_elem HO_548001.out z56 ((rd b0 a4) : Int) x4 x2
        obtain rfl := k56_openM hM83
        have y7 : World.cell? _ ⟨go83, ((rd b0 a4) : Int).toNat * 3, none⟩ = some (.int .i64 ((rd_T56 c7 (rd b0 a4)).f0)) := hcc83 0 _ rfl
        have y6 : World.cell? _ ⟨go83, ((rd b0 a4) : Int).toNat * 3 + 1, none⟩ = some (.int .i64 ((rd_T56 c7 (rd b0 a4)).f1)) := hcc83 1 _ rfl
        have y5 : World.cell? _ ⟨go83, ((rd b0 a4) : Int).toNat * 3 + 2, none⟩ = some (.int .i64 ((rd_T56 c7 (rd b0 a4)).f2)) := hcc83 2 _ rfl
        have hf83_0 : World.frozen? _ ⟨go83, ((rd b0 a4) : Int).toNat * 3, none⟩ = false := hfr83 0
        have hf83_1 : World.frozen? _ ⟨go83, ((rd b0 a4) : Int).toNat * 3 + 1, none⟩ = false := hfr83 1
        have hf83_2 : World.frozen? _ ⟨go83, ((rd b0 a4) : Int).toNat * 3 + 2, none⟩ = false := hfr83 2
        clear hcl83 hcc83 hfr83 hM83
        replace x4 := eq_true x4
        replace x2 := eq_true x2
        obtain ⟨ce92, hcl92, hM92, hcc92, hfr92⟩ := Kd.R_elem HO_548001.out z56 ((rd b0 a4) : Int) (odt) (by have h_ : ((rd b0 a4) : Int) < ((c7.length : Int) : Int) := odt; first | exact h_ | (have e_ := (Kd.R_reads' HO_548001.out).1; omega) | simpa using h_)
        obtain rfl := k56_openM hM92
        have HP92 := (Kd.R_seg HO_548001.out ((rd b0 a4) : Int) (odt) (by have h_ : ((rd b0 a4) : Int) < ((c7.length : Int) : Int) := odt; first | exact h_ | (have e_ := (Kd.R_reads' HO_548001.out).1; omega) | simpa using h_) (seg := [.int .i64 ((rd_T56 a3 a4).f0), .int .i64 (rd a9 ((rd_T56 a3 a4).f1)), .int .i64 (rd a9 ((rd_T56 a3 a4).f2))]) (j := 0) hcl92 hcc92 (show 3 ≤ 3 from by decide) (x' := (⟨(rd_T56 a3 a4).f0, rd a9 ((rd_T56 a3 a4).f1), rd a9 ((rd_T56 a3 a4).f2)⟩ : S56)) (k56_mkM _ _ _ (⟨(rd_T56 a3 a4).f0, rd a9 ((rd_T56 a3 a4).f1), rd a9 ((rd_T56 a3 a4).f2)⟩ : S56) ) (fun _ hk => hk)).1
        rw [← D4.out] at HP92
        have HQ92 := Aside0.mk HP92
        clear hcl92 hcc92 hfr92 hM92 HP92
        refine start_ (n := 24) (S := fun w' => w'.cell? ⟨a7, 0, none⟩ = some (e5) ∧ w'.cell? ⟨a7, 1, none⟩ = some (.slice (some ⟨go83, 0, none⟩) c7.length A2) ∧ w'.cell? ⟨b2, 0, none⟩ = some (.slice (some m7) a9.length d0) ∧ w'.cell? ⟨b2, 1, none⟩ = some (.slice (some t1) b0.length d2) ∧ w'.cell? ⟨b5, 0, none⟩ = some (.int .i64 ((rd_T56 a3 a4).f0)) ∧ w'.cell? ⟨b5, 1, none⟩ = some (.int .i64 ((rd_T56 a3 a4).f1)) ∧ w'.cell? ⟨b5, 2, none⟩ = some (.int .i64 ((rd_T56 a3 a4).f2)) ∧ w'.cell? (t1.add (a4).toNat) = some (.int .i64 (rd b0 a4)) ∧ w'.cell? (m7.add (((rd_T56 a3 a4).f1)).toNat) = some (.int .i64 (rd a9 ((rd_T56 a3 a4).f1))) ∧ w'.cell? (m7.add (((rd_T56 a3 a4).f2)).toNat) = some (.int .i64 (rd a9 ((rd_T56 a3 a4).f2)))) (ds := [23]) #[false, false, false, false, false, false, false, false, false, false, false, false, false, false, false, false, false, false, false, false, false, false, false, false] (by kernel_rfl) rfl rfl ⟨bc a8 0, bc a8 1, bc a1 0, bc a1 1, bc g2 0, bc g2 1, bc g2 2, (hxc HB v0), (hxc HB t9), (hxc HB t8)⟩ (fun hHeld => ?_); refine with_tabW graph_Reorder.tab21 graph_Reorder.bits21 (fun HT_ HW_ => ?_)
        generalize P8.drew = w91 at HO_548000 HO_548001 a0 a1 a2 a8 g2 HB GG83 HQ92 hf83_0 hf83_1 hf83_2 h8 h7 h6 y7 y6 y5 hHeld ⊢
        refine pu 0 92 (bits 24 0x1) HT_ (h := ?_)
        refine pu 2 94 (bits 24 0x5) HT_ (h := ?_)
        refine pu 4 96 (bits 24 0x15) HT_ (h := ?_)
        refine pu 7 99 (bits 24 0x95) HT_ (h := ?_)
        refine pu 9 101 (bits 24 0x295) HT_ (h := ?_)
        refine pu 11 103 (bits 24 0xa95) HT_ (h := ?_)
        refine pu 15 107 (bits 24 0x8a95) HT_ (h := ?_)
        refine pu 17 109 (bits 24 0x28a95) HT_ (h := ?_)
        refine tk 1 93 (bits 24 0x28a97) HT_ HW_ hHeld (hy := by rintro w' ⟨s0, s1, s2, s3, s4, s5, s6, s7, s8, s9⟩; go_simp; with_reducible rfl) (h := ?_)
        refine tk 3 95 (bits 24 0x28a9f) HT_ HW_ hHeld (hy := by rintro w' ⟨s0, s1, s2, s3, s4, s5, s6, s7, s8, s9⟩; go_simp; with_reducible rfl) (h := ?_)
        refine pu 5 97 (bits 24 0x28abf) HT_ (h := ?_)
        refine tk 6 98 (bits 24 0x28aff) HT_ HW_ hHeld (hy := by rintro w' ⟨s0, s1, s2, s3, s4, s5, s6, s7, s8, s9⟩; go_simp; with_reducible rfl) (h := ?_)
        refine tk 8 100 (bits 24 0x28bff) HT_ HW_ hHeld (hy := by rintro w' ⟨s0, s1, s2, s3, s4, s5, s6, s7, s8, s9⟩; go_simp; with_reducible rfl) (h := ?_)
        refine tk 10 102 (bits 24 0x28fff) HT_ HW_ hHeld (hy := by rintro w' ⟨s0, s1, s2, s3, s4, s5, s6, s7, s8, s9⟩; go_simp; with_reducible rfl) (h := ?_)
        refine tk 12 104 (bits 24 0x29fff) HT_ HW_ hHeld (hy := by rintro w' ⟨s0, s1, s2, s3, s4, s5, s6, s7, s8, s9⟩; go_simp; with_reducible rfl) (h := ?_)
        refine pu 13 105 (bits 24 0x2bfff) HT_ (h := ?_)
        refine tk 14 106 (bits 24 0x2ffff) HT_ HW_ hHeld (hy := by rintro w' ⟨s0, s1, s2, s3, s4, s5, s6, s7, s8, s9⟩; go_simp; with_reducible rfl) (h := ?_)
        refine tk 16 108 (bits 24 0x3ffff) HT_ HW_ hHeld (hy := by rintro w' ⟨s0, s1, s2, s3, s4, s5, s6, s7, s8, s9⟩; go_simp; with_reducible rfl) (h := ?_)
        refine tk 18 110 (bits 24 0x7ffff) HT_ HW_ hHeld (hy := by rintro w' ⟨s0, s1, s2, s3, s4, s5, s6, s7, s8, s9⟩; go_simp; with_reducible rfl) (h := ?_)
        refine pu 19 111 (bits 24 0xfffff) HT_ (h := ?_)
        refine tk 20 112 (bits 24 0x1fffff) HT_ HW_ hHeld (hy := by rintro w' ⟨s0, s1, s2, s3, s4, s5, s6, s7, s8, s9⟩; go_simp; with_reducible rfl) (h := ?_)
        refine pu 21 113 (bits 24 0x3fffff) HT_ (h := ?_)
        refine pu 22 114 (bits 24 0x7fffff) HT_ (h := ?_)
        refine last_ (i := 23) (N := none) #[true, true, true, true, true, true, true, true, true, true, true, true, true, true, true, true, true, true, true, true, true, true, true, true] rfl rfl (one_of HT_.out (by kernel_rfl)) (by decide) (fun K hK => ?_)
        refine skip_ (w1 := ?_) (by rfl) rfl ?_ ?_
        rotate_left
        ·go_simp
         rfl
        refine hK.out _ _ ?_
        clear hK K
        refine done_ (done_of HT_.out (by kernel_rfl)) ?_
        try go_wp2
        go_roundg k3
        case measure => have := t4.out; have := t3.out; have := F9.out; omega
        case rel => exact ⟨(wrap64 (a4 + 1)), (w5), (.slice (some ⟨go83, 0, none⟩) c7.length A2), eqs, H', ⟨by have := t4.out; have := t3.out; have := F9.out; omega⟩, ⟨ktm HO_548000 GG83 (fun _ hk => trivial)⟩, ⟨kmm HQ92 (fun _ hk => trivial)⟩, ⟨by (with_reducible repeat (first | refine dN ?_ _ | refine dR ?_ | refine dA ?_ _)); refine blk_far ?_ (by have h_ := Kd.R_ne HO_548001.out a0.out (by decide); intro e_; exact h_ (by rw [e_]; rfl)) _; (with_reducible repeat (first | refine dN ?_ _ | refine dR ?_ | refine dA ?_ _)); refine blk_far ?_ (by have h_ := Kd.R_ne HO_548001.out a0.out (by decide); intro e_; exact h_ (by rw [e_]; rfl)) _; (with_reducible repeat (first | refine dN ?_ _ | refine dR ?_ | refine dA ?_ _)); refine blk_far ?_ (by have h_ := Kd.R_ne HO_548001.out a0.out (by decide); intro e_; exact h_ (by rw [e_]; rfl)) _; (with_reducible repeat (first | refine dN ?_ _ | refine dR ?_ | refine dA ?_ _)); exact a0.out⟩, ⟨by (with_reducible repeat (first | refine dN ?_ _ | refine dR ?_ | refine dA ?_ _)); refine blk_far ?_ (by have h_ := Kd.R_ne HO_548001.out a1.out (by decide); intro e_; exact h_ (by rw [e_]; rfl)) _; (with_reducible repeat (first | refine dN ?_ _ | refine dR ?_ | refine dA ?_ _)); refine blk_far ?_ (by have h_ := Kd.R_ne HO_548001.out a1.out (by decide); intro e_; exact h_ (by rw [e_]; rfl)) _; (with_reducible repeat (first | refine dN ?_ _ | refine dR ?_ | refine dA ?_ _)); refine blk_far ?_ (by have h_ := Kd.R_ne HO_548001.out a1.out (by decide); intro e_; exact h_ (by rw [e_]; rfl)) _; (with_reducible repeat (first | refine dN ?_ _ | refine dR ?_ | refine dA ?_ _)); exact a1.out⟩, ⟨by (with_reducible repeat (first | refine dN ?_ _ | refine dR ?_ | refine dA ?_ _)); refine blk_far ?_ (by have h_ := Kd.R_ne HO_548001.out a2.out (by decide); intro e_; exact h_ (by rw [e_]; rfl)) _; (with_reducible repeat (first | refine dN ?_ _ | refine dR ?_ | refine dA ?_ _)); refine blk_far ?_ (by have h_ := Kd.R_ne HO_548001.out a2.out (by decide); intro e_; exact h_ (by rw [e_]; rfl)) _; (with_reducible repeat (first | refine dN ?_ _ | refine dR ?_ | refine dA ?_ _)); refine blk_far ?_ (by have h_ := Kd.R_ne HO_548001.out a2.out (by decide); intro e_; exact h_ (by rw [e_]; rfl)) _; (with_reducible repeat (first | refine dN ?_ _ | refine dR ?_ | refine dA ?_ _)); exact a2.out⟩, ⟨by (with_reducible repeat (first | refine dN ?_ _ | refine dR ?_ | refine dA ?_ _)); refine blk_far ?_ (by have h_ := Kd.R_ne HO_548001.out a8.out (by decide); intro e_; exact h_ (by rw [e_]; rfl)) _; (with_reducible repeat (first | refine dN ?_ _ | refine dR ?_ | refine dA ?_ _)); refine blk_far ?_ (by have h_ := Kd.R_ne HO_548001.out a8.out (by decide); intro e_; exact h_ (by rw [e_]; rfl)) _; (with_reducible repeat (first | refine dN ?_ _ | refine dR ?_ | refine dA ?_ _)); refine blk_far ?_ (by have h_ := Kd.R_ne HO_548001.out a8.out (by decide); intro e_; exact h_ (by rw [e_]; rfl)) _; (with_reducible repeat (first | refine dN ?_ _ | refine dR ?_ | refine dA ?_ _)); exact a8.out⟩, ⟨bb HB⟩⟩
   ·go_wp2_with (first | ((with_reducible refine gate_callee (f := 38) rfl ?_); refine gl 42 Tryz.func38 #[.slice d4 a9.length d0, .int .i64 (a5.length : Int)] (h := ?_); (with_reducible refine (graph_permutation.calls _ _ _ _ _ _ _ (cb j1 HB) o4.out C3.out).mono ?_); rintro e a0g ⟨rfl, hb⟩; refine ⟨_, rfl, ?_⟩; replace a0 := bkb a0 hb; replace a1 := bkb a1 hb; replace a2 := bkb a2 hb; replace HB := bstep HB hb; clear hb; obtain ⟨J0, I9, H2, H1⟩ := cz2 a1; obtain ⟨I8, I7, H0, G9⟩ := cz2 a0) | ((with_reducible refine gate_callee (f := 38) rfl ?_); refine gl 52 Tryz.func38 #[.slice d3 b0.length d2, .int .i64 (a3.length : Int)] (h := ?_); (with_reducible refine (graph_permutation.calls _ _ _ _ _ _ _ (cb o1 HB) t5.out G0.out).mono ?_); rintro e a0f ⟨rfl, hb⟩; refine ⟨_, rfl, ?_⟩; replace a0 := bkb a0 hb; replace a1 := bkb a1 hb; replace a2 := bkb a2 hb; replace HB := bstep HB hb; clear hb; obtain ⟨I6, I5, G8, G7⟩ := cz2 a2))
    refine bodyPost_ret (results_ct rfl _ _ b1 35 #[.slice none 0 0, .slice none 0 0] (0, 0) _ rfl (by (with_reducible repeat (first | refine dN ?_ _ | refine dR ?_ | refine dA ?_ _)); refine blk_put (cs := #[.slice none 0 0, .slice none 0 0]) ?_ 1 _ rfl; refine blk_put (cs := #[.slice none 0 0, .slice none 0 0]) ?_ 0 _ rfl; (with_reducible repeat (first | refine dN ?_ _ | refine dR ?_ | refine dA ?_ _)); exact a2.out) Tryz.underlying35 rfl (by kernel_rfl)) rfl ?_
    exact ⟨_, _, erf, by first | exact Kd.R_nil _ _ _ _ _ | exact Kd.N_nil _ _ _ _ _ | exact Kd.V_nil _ _ _ _ _ | exact Kd.Q_nil _ _ _ _ _ | exact Kd.S_nil _ _ _ _ _, by first | exact Kd.R_nil _ _ _ _ _ | exact Kd.N_nil _ _ _ _ _ | exact Kd.V_nil _ _ _ _ _ | exact Kd.Q_nil _ _ _ _ _ | exact Kd.S_nil _ _ _ _ _, bb HB⟩
end Go.Proofs.YtfpianecohobjaaGreat.P
