/- StatisticOf: a part of its proof. No condition. -/
import Derived.Test.YtfpianecohobjaaVPx0
import Derived.Test.YtfpianecohobjaaVPx24
import Derived.Test.YtfpianecohobjaaVPx44
namespace Go.Proofs.Ytfpianecohobjaa.P
open Go.RowKit Go.Proofs.YtfpianecohobjaaW.PrintWords Go.Proofs.YtfpianecohobjaaW.PrintLast Go.Proofs.YtfpianecohobjaaW.PrintMore
set_option maxHeartbeats 8000000
set_option maxRecDepth 100000
set_option linter.unusedVariables false
set_option linter.unusedSimpArgs false
def scarfjointlaw18_made.f (k : Nat) (c2 : List (S81)) (c1 : List (S81)) (b8 : List Int) (b7 : List (S35)) : Option ((List (S68)) × (List (S71)) × List Int × (List (S39))) := (q4_Made.f k c2 c1).bind fun c5 => ((scarfjointref18_Made.f k c5.1 c5.2 b8 b7 8).bind fun c8 => (some (c5.1, c5.2, c8.1, c8.2)))
def scarfjointlaw18_made.T2 : Bool × List (List Nat × List Nat) := (true, [([], []), ([], []), ([], []), ([2], [2]), ([], []), ([4], [4]), ([1, 3, 5], [1, 3, 5]), ([0, 6, 0], [0]), ([6, 7, 0, 1, 2, 3, 4, 5, 6, 7], [6])])
def scarfjointlaw18_made.B2 : List Nat := [0, 0, 0, 4, 0, 16, 62, 127, 255]
theorem scarfjointlaw18_made.tab2 : rtab .any (opsOf Try.f34 2) = scarfjointlaw18_made.T2 := by kernel_rfl
theorem scarfjointlaw18_made.bits2 : waitsOk scarfjointlaw18_made.T2.2 scarfjointlaw18_made.B2 = true := by kernel_rfl
theorem scarfjointlaw18_made.calls (k : Nat) (e7 : Option Addr) (e2 : Nat) (c2 : List (S81)) (e6 : Option Addr) (e1 : Nat) (c1 : List (S81)) (e5 : Option Addr) (e0 : Nat) (b8 : List Int) (e4 : Option Addr) (d9 : Nat) (b7 : List (S35)) (r1 : List (S68)) (r2 : List (S71)) (r3 : List Int) (r4 : List (S39)) (w : World) (j0 : Kd.C k81 w e7 c2.length c2) (j4 : c2.length ≤ e2) (h9 : Kd.C k81 w e6 c1.length c1) (j3 : c1.length ≤ e1) (h8 : Kd.C (Kd.int .u8) w e5 b8.length b8) (j2 : b8.length ≤ e0) (h7 : Kd.C k35 w e4 b7.length b7) (j1 : b7.length ≤ d9) (h : scarfjointlaw18_made.f k c2 c1 b8 b7 = some (r1, r2, r3, r4)) :
  Calls Try.prog 34 #[.agg #[.slice e7 c2.length e2, .slice e6 c1.length e1, .slice e5 b8.length e0, .slice e4 b7.length d9]] w fun e w' => ∃ o0 j9 j8 j7 : Value, e = .returned (.tuple #[.agg #[o0, j9], .agg #[j8, j7]]) ∧ Kd.N k68 68 w' w.heap.size (fun k_ => (w.heap.size ≤ k_) ∧ some k_ ≠ (j9 : Value).ownBlock ∧ some k_ ≠ (j8 : Value).ownBlock ∧ some k_ ≠ (j7 : Value).ownBlock) o0 r1 ∧ Kd.R k71 71 w' w.heap.size (fun k_ => (w.heap.size ≤ k_)) j9 r2 ∧ Kd.R (Kd.int .i64) 3 w' w.heap.size (fun k_ => (w.heap.size ≤ k_)) j8 r3 ∧ Kd.R k39 39 w' w.heap.size (fun k_ => (w.heap.size ≤ k_)) j7 r4 ∧ Below w.heap.size w w' := by
 have hu56 := Try.underlying56
 have hu25 := Try.underlying25
 have hu59 := Try.underlying59
 have n4 := Aside0.mk j0
 have n8 := Aside0.mk j4
 clear j0 j4
 have n3 := Aside0.mk h9
 have n7 := Aside0.mk j3
 clear h9 j3
 have n2 := Aside0.mk h8
 have n6 := Aside0.mk j2
 clear h8 j2
 have n1 := Aside0.mk h7
 have n5 := Aside0.mk j1
 clear h7 j1
 have HB := Aside0.mk (Below.refl w.heap.size w)
 have H : ((q4_Made.f k c2 c1).bind fun c5 => ((scarfjointref18_Made.f k c5.1 c5.2 b8 b7 8).bind fun c8 => (some (c5.1, c5.2, c8.1, c8.2)))) = some (r1, r2, r3, r4) := h
 clear h
 obtain ⟨⟨a6, a7⟩, A2, H⟩ := obA H
 replace H : ((scarfjointref18_Made.f k a6 a7 b8 b7 8).bind fun c8 => (some (a6, a7, c8.1, c8.2))) = some (r1, r2, r3, r4) := H
 obtain ⟨⟨c9, d8⟩, A3, H⟩ := obA H
 replace H : (some (a6, a7, c9, d8)) = some (r1, r2, r3, r4) := H
 simp only [Option.some.injEq, Prod.mk.injEq] at H
 obtain ⟨rfl, rfl, rfl, rfl⟩ := H
 go_enter Try.func34, Try.ntmps34
 try go_wp2_with (first | ((with_reducible refine gate_dst (N := 1) rfl ?_); refine be 1 #[.slice e7 c2.length e2, .slice e6 c1.length e1, .slice e5 b8.length e0, .slice e4 b7.length d9] 56 ?_; intro c7 hg w4 hbox hb; have a2 := Aside0.mk (hbox); have w3 := bsz HB hg; replace HB := bstep HB hb; clear hb hbox hg) | ((with_reducible refine gate_dst (N := 2) rfl ?_); refine be 2 #[.slice none 0 0, .slice none 0 0] 25 ?_; intro a9 hg w5 hbox hb; have a3 := Aside0.mk (hbox); have w2 := bsz HB hg; replace HB := bstep HB hb; have d7 := blt a2 hg; have d5 := bgt a2 hg; replace a2 := bkb a2 hb; clear hb hbox hg) | ((with_reducible refine gate_dst (N := 3) rfl ?_); refine be 3 #[.slice none 0 0, .slice none 0 0] 59 ?_; intro a8 hg w6 hbox hb; have a4 := Aside0.mk (hbox); have w0 := bsz HB hg; replace HB := bstep HB hb; have d6 := blt a2 hg; have d3 := bgt a2 hg; replace a2 := bkb a2 hb; have c0 := blt a3 hg; have b9 := bgt a3 hg; replace a3 := bkb a3 hb; clear hb hbox hg; have x8 := d7.out; have x6 := d5.out; have x7 := d6.out; have x5 := d3.out; obtain ⟨t6, t5, t4, t3, t2, t1, t0, s9⟩ := cz4 a2) | ((with_reducible refine gate_callee (f := 22) rfl ?_); refine gl 9 Try.func22 #[.slice e7 c2.length e2, .slice e6 c1.length e1] (h := ?_); (with_reducible refine (q4_Made.calls k _ _ c2 _ _ c1 a6 a7 _ ?h3 ?h2 ?h1 ?h0 A2.out).mono ?_); (case h3 => exact cb n4 HB); (case h2 => exact n8.out); (case h1 => exact cb n3 HB); (case h0 => exact n7.out); rintro e s8 ⟨w9, o1, rfl, g8, g7, hb⟩; refine ⟨_, rfl, ?_⟩; have b5 := Aside0.mk (Kd.N_lower (Kd.N_mono (ok' := fun k_ => (w.heap.size ≤ k_) ∧ some k_ ≠ (o1 : Value).ownBlock ∧ k_ ≠ c7 ∧ k_ ≠ a9 ∧ k_ ≠ a8) g8 (fun k_ hk_ => ⟨(Nat.le_trans (below_size (bb HB)) hk_.1), hk_.2, (Kd.freshB (g := c7) (o := .cells #[.slice e7 c2.length e2, .slice e6 c1.length e1, .slice e5 b8.length e0, .slice e4 b7.length d9] 56 (0, 0)) (bk a2) k_ hk_.1), (Kd.freshB (g := a9) (o := .cells #[.slice none 0 0, .slice none 0 0] 25 (0, 0)) (bk a3) k_ hk_.1), (Kd.freshB (g := a8) (o := .cells #[.slice none 0 0, .slice none 0 0] 59 (0, 0)) (bk a4) k_ hk_.1)⟩)) (below_size (bb HB))); have b4 := Aside0.mk (Kd.R_lower (Kd.R_newM (M := fun k_ => (w.heap.size ≤ k_)) (Kd.R_mono (ok' := fun k_ => True) g7 (fun _ hk_ => trivial)) (below_size (bb HB)) (fun k_ h_ => h_)) (below_size (bb HB))); replace a2 := bkb a2 hb; replace a3 := bkb a3 hb; replace a4 := bkb a4 hb; replace HB := bstep HB hb; (try clear hb); (try clear hb2); (try clear hk); (try clear hi); (try clear g8); (try clear g7)) | ((with_reducible refine gate_dst (N := 4) rfl ?_); refine be 4 #[.slice none 0 0, .slice none 0 0] 25 ?_; intro a5 hg g2 hbox hb; replace b5 := Aside0.mk (Kd.N_below (Kd.N_elderB (kN b5) a5 (Nat.le_of_eq hg.symm)) hb); replace b4 := kRb b4 hb; have b6 := Aside0.mk (hbox); have v9 := bsz HB hg; replace HB := bstep HB hb; have h5 := blt a2 hg; have h4 := bgt a2 hg; replace a2 := bkb a2 hb; have d4 := blt a3 hg; have d1 := bgt a3 hg; replace a3 := bkb a3 hb; have d2 := blt a4 hg; have d0 := bgt a4 hg; replace a4 := bkb a4 hb; clear hb hbox hg; obtain ⟨b1, b0, eo12⟩ := Kd.N_slice b5.out; subst eo12; have v2 := h4.out; have t9 := h5.out; have v1 := d1.out; have t8 := d4.out; have v0 := d0.out; have t7 := d2.out; obtain ⟨r7, r6, q8, q7⟩ := cz2 b6; obtain ⟨b3, b2, eo17⟩ := Kd.R_slice b4.out; subst eo17))
 have m6 : Aside0 (Kd.N k68 68 ((g2.setCell ⟨a5, 0, none⟩ (.slice b1 a6.length b0)).setCell ⟨a5, 1, none⟩ (.slice b3 a7.length b2)) w.heap.size (fun k_ => (w.heap.size ≤ k_) ∧ some k_ ≠ (.slice b3 a7.length b2 : Value).ownBlock ∧ k_ ≠ c7 ∧ k_ ≠ a9 ∧ k_ ≠ a8 ∧ k_ ≠ a5) (.slice b1 a6.length b0) a6) := ⟨kNm (g := a5) b5 (fun _ hk => hk.2) (fun _ hk => ⟨hk.1.1.1, ⟨hk.1.1.2.1, ⟨hk.1.1.2.2.1, ⟨hk.1.1.2.2.2.1, ⟨hk.1.1.2.2.2.2, hk.1.2⟩⟩⟩⟩⟩)⟩
 have m5 : Aside0 (Kd.R k71 71 ((g2.setCell ⟨a5, 0, none⟩ (.slice b1 a6.length b0)).setCell ⟨a5, 1, none⟩ (.slice b3 a7.length b2)) w.heap.size (fun k_ => (w.heap.size ≤ k_)) (.slice b3 a7.length b2) a7) := ⟨ktm b4 b6 (fun _ hk => hk.1.1)⟩
 have m4 : Aside0 (((g2.setCell ⟨a5, 0, none⟩ (.slice b1 a6.length b0)).setCell ⟨a5, 1, none⟩ (.slice b3 a7.length b2)).heap[c7]? = some (.cells #[.slice e7 c2.length e2, .slice e6 c1.length e1, .slice e5 b8.length e0, .slice e4 b7.length d9] 56 (0, 0))) := ⟨bkF a2⟩
 have m3 : Aside0 (((g2.setCell ⟨a5, 0, none⟩ (.slice b1 a6.length b0)).setCell ⟨a5, 1, none⟩ (.slice b3 a7.length b2)).heap[a9]? = some (.cells #[.slice none 0 0, .slice none 0 0] 25 (0, 0))) := ⟨bkF a3⟩
 have m2 : Aside0 (((g2.setCell ⟨a5, 0, none⟩ (.slice b1 a6.length b0)).setCell ⟨a5, 1, none⟩ (.slice b3 a7.length b2)).heap[a8]? = some (.cells #[.slice none 0 0, .slice none 0 0] 59 (0, 0))) := ⟨bkF a4⟩
 have m1 : Aside0 (((g2.setCell ⟨a5, 0, none⟩ (.slice b1 a6.length b0)).setCell ⟨a5, 1, none⟩ (.slice b3 a7.length b2)).heap[a5]? = some (.cells #[.slice b1 a6.length b0, .slice b3 a7.length b2] 25 (0, 0))) := ⟨by (with_reducible repeat (first | refine dN ?_ _ | refine dR ?_ | refine dA ?_ _)); refine blk_put (cs := #[.slice b1 a6.length b0, .slice none 0 0]) ?_ 1 _ rfl; refine blk_put (cs := #[.slice none 0 0, .slice none 0 0]) ?_ 0 _ rfl; (with_reducible repeat (first | refine dN ?_ _ | refine dR ?_ | refine dA ?_ _)); exact b6.out⟩
 have m0 : Aside0 (Below w.heap.size w ((g2.setCell ⟨a5, 0, none⟩ (.slice b1 a6.length b0)).setCell ⟨a5, 1, none⟩ (.slice b3 a7.length b2))) := ⟨bb HB⟩
 (try clear b5)
 (try clear b4)
 (try clear a2)
 (try clear a3)
 (try clear a4)
 (try clear b6)
 (try clear HB)
 generalize ((g2.setCell ⟨a5, 0, none⟩ (.slice b1 a6.length b0)).setCell ⟨a5, 1, none⟩ (.slice b3 a7.length b2)) = s7 at m6 m5 m4 m3 m2 m1 m0 ⊢
 have b5 := m6
 have b4 := m5
 have a2 := m4
 have a3 := m3
 have a4 := m2
 have b6 := m1
 have HB := m0
 clear m6 m5 m4 m3 m2 m1 m0
 replace b5 := Aside0.mk (Kd.N_drew b5.out)
 replace b4 := Aside0.mk (Kd.R_drew b4.out)
 replace a2 := Aside0.mk (blk_drew a2.out)
 replace a3 := Aside0.mk (blk_drew a3.out)
 replace a4 := Aside0.mk (blk_drew a4.out)
 replace b6 := Aside0.mk (blk_drew b6.out)
 replace HB := Aside0.mk (below_drew1 HB.out)
 refine start_ (n := 9) (S := fun w' => w'.cell? ⟨a5, 0, none⟩ = some (.slice b1 a6.length b0) ∧ w'.cell? ⟨a5, 1, none⟩ = some (.slice b3 a7.length b2) ∧ w'.cell? ⟨c7, 0, none⟩ = some (.slice e7 c2.length e2) ∧ w'.cell? ⟨c7, 1, none⟩ = some (.slice e6 c1.length e1) ∧ w'.cell? ⟨c7, 2, none⟩ = some (.slice e5 b8.length e0) ∧ w'.cell? ⟨c7, 3, none⟩ = some (.slice e4 b7.length d9)) (ds := []) #[false, false, false, false, false, false, false, false, false] (by kernel_rfl) rfl rfl ⟨bc b6 0, bc b6 1, bc a2 0, bc a2 1, bc a2 2, bc a2 3⟩ (fun hHeld => ?_); refine with_tabW scarfjointlaw18_made.tab2 scarfjointlaw18_made.bits2 (fun HT_ HW_ => ?_)
 generalize s7.drew = x9 at b5 b4 a2 a3 a4 b6 HB hHeld ⊢
 refine pu 2 12 (bits 9 0x4) HT_ (h := ?_)
 refine pu 4 14 (bits 9 0x14) HT_ (h := ?_)
 refine tk 0 10 (bits 9 0x15) HT_ HW_ hHeld (hy := by rintro w' ⟨s0, s1, s2, s3, s4, s5⟩; go_simp; with_reducible rfl) (h := ?_)
 refine tk 1 11 (bits 9 0x17) HT_ HW_ hHeld (hy := by rintro w' ⟨s0, s1, s2, s3, s4, s5⟩; go_simp; with_reducible rfl) (h := ?_)
 refine tk 3 13 (bits 9 0x1f) HT_ HW_ hHeld (hy := by rintro w' ⟨s0, s1, s2, s3, s4, s5⟩; go_simp; with_reducible rfl) (h := ?_)
 refine tk 5 15 (bits 9 0x3f) HT_ HW_ hHeld (hy := by rintro w' ⟨s0, s1, s2, s3, s4, s5⟩; go_simp; with_reducible rfl) (h := ?_)
 refine one_ (i := 6) (N := some 16) #[true, true, true, true, true, true, true, false, false] rfl rfl (one_of HT_.out (by kernel_rfl)) (by decide) (fun K hK => ?_)
 refine goes_ Try.func54 (by kernel_rfl) rfl #[.agg #[.slice b1 a6.length b0, .slice b3 a7.length b2], .slice e5 b8.length e0, .slice e4 b7.length d9, .int .i64 8] (by rfl) rfl rfl (by (try simp only [List.map_toArray, List.map_cons, List.map_nil]); first | done | rfl | (simp only [List.length_drop, List.length_take]; rfl)) ?_
 with_reducible refine (scarfjointref18_Made.calls k _ _ a6 _ _ a7 _ _ b8 _ _ b7 8 c9 d8 _ ?h3 ?h2 ?h1 ?h0 ?n0 ?m9 ?m8 ?m7 A3.out).mono ?_
 (case h3 => repeat (first | exact (Kd.N_reads' b5.out).2.2 | (with_reducible refine Kd.C_alloc ?_ _) | (with_reducible refine Kd.C_drewN ?_ _) | (with_reducible refine Kd.C_drew ?_)))
 (case h2 => exact (Kd.N_reads' b5.out).2.1)
 (case h1 => repeat (first | exact (Kd.R_reads' b4.out).2.2 | (with_reducible refine Kd.C_alloc ?_ _) | (with_reducible refine Kd.C_drewN ?_ _) | (with_reducible refine Kd.C_drew ?_)))
 (case h0 => exact (Kd.R_reads' b4.out).2.1)
 (case n0 => exact cb n2 HB)
 (case m9 => exact n6.out)
 (case m8 => exact cb n1 HB)
 (case m7 => exact n5.out)
 rintro e h6 ⟨w8, w7, rfl, g8, g7, hb⟩
 refine ⟨_, rfl, ?_⟩
 replace b5 := Aside0.mk (Kd.N_mono (Kd.N_told (Kd.N_told (Kd.N_old (kN b5) hb) (Kd.R_base g8)) (Kd.R_base g7)) (fun _ h_ => h_.1))
 replace b4 := kRb b4 hb
 have j6 := Aside0.mk (Kd.R_lower (Kd.R_newM (M := fun k_ => (w.heap.size ≤ k_)) g8 (below_size (bb HB)) (fun k_ h_ => h_)) (below_size (bb HB)))
 have j5 := Aside0.mk (Kd.R_lower (Kd.R_newM (M := fun k_ => (w.heap.size ≤ k_)) g7 (below_size (bb HB)) (fun k_ h_ => h_)) (below_size (bb HB)))
 replace a2 := bkb a2 hb
 replace a3 := bkb a3 hb
 replace a4 := bkb a4 hb
 replace b6 := bkb b6 hb
 replace HB := bstep HB hb
 (try clear hb)
 (try clear hb2)
 (try clear hk)
 (try clear hi)
 (try clear g8)
 (try clear g7)
 obtain ⟨g1, e8, eo23⟩ := Kd.R_slice j6.out
 (first | subst eo23 | (injection eo23 with f1_ f2_ f3_; have f4_ := f1_.symm; have f5_ := f3_.symm; clear f1_ f2_ f3_; subst f4_; subst f5_))
 obtain ⟨g6, g5, eo25⟩ := Kd.R_slice j5.out
 (first | subst eo25 | (injection eo25 with f1_ f2_ f3_; have f4_ := f1_.symm; have f5_ := f3_.symm; clear f1_ f2_ f3_; subst f4_; subst f5_))
 refine hK.out _ _ ⟨bc b6 0, bc b6 1, bc a2 0, bc a2 1, bc a2 2, bc a2 3⟩ (fun hHeld => ?_)
 clear hK K
 refine norm_ (a' := ?_) ?_ ?_
 rotate_left
 ·show Act.put _ (some 16) _ = _
  simp only [Act.put, List.setIfInBounds_toArray, List.set_cons_zero, List.set_cons_succ, i64_w, i32_w]
  rfl
 refine one_ (i := 7) (N := none) #[true, true, true, true, true, true, true, true, false] rfl rfl (one_of HT_.out (by kernel_rfl)) (by decide) (fun K hK => ?_)
 have x3 : h6.cell? ⟨a9, 0, none⟩ = some (.slice none 0 0) := bc a3 0
 have v6 := blk_frozen a3.out 0
 have p4 := d7.out
 have p3 := b9.out
 have p2 := d1.out
 have q6 := d5.out
 have q5 := c0.out
 have q4 := d4.out
 have x2 : h6.cell? ⟨a9, 1, none⟩ = some (.slice none 0 0) := bc a3 1
 have v5 := blk_frozen a3.out 1
 have p1 := d7.out
 have p0 := b9.out
 have o9 := d1.out
 have q3 := d5.out
 have q2 := c0.out
 have q1 := d4.out
 refine skip_ (w1 := ?_) (by rfl) rfl ?_ ?_
 rotate_left
 ·go_simp
  rfl
 refine hK.out _ _ ⟨(cfr hHeld.1), (cfr hHeld.2.1), (cfr hHeld.2.2.1), (cfr hHeld.2.2.2.1), (cfr hHeld.2.2.2.2.1), (cfr hHeld.2.2.2.2.2)⟩ (fun hHeld => ?_)
 clear hK K
 refine one_ (i := 8) (N := none) #[true, true, true, true, true, true, true, true, true] rfl rfl (one_of HT_.out (by kernel_rfl)) (by decide) (fun K hK => ?_)
 have x1 : h6.cell? ⟨a8, 0, none⟩ = some (.slice none 0 0) := bc a4 0
 have v4 := blk_frozen a4.out 0
 have o8 := d6.out
 have o7 := c0.out
 have o6 := d0.out
 have q0 := d3.out
 have p9 := b9.out
 have p8 := d2.out
 have x0 : h6.cell? ⟨a8, 1, none⟩ = some (.slice none 0 0) := bc a4 1
 have v3 := blk_frozen a4.out 1
 have o5 := d6.out
 have o4 := c0.out
 have o3 := d0.out
 have p7 := d3.out
 have p6 := b9.out
 have p5 := d2.out
 refine skip_ (w1 := ?_) (by rfl) rfl ?_ ?_
 rotate_left
 ·go_simp
  rfl
 refine hK.out _ _ ⟨(cfr hHeld.1), (cfr hHeld.2.1), (cfr hHeld.2.2.1), (cfr hHeld.2.2.2.1), (cfr hHeld.2.2.2.2.1), (cfr hHeld.2.2.2.2.2)⟩ (fun hHeld => ?_)
 clear hK K
 refine done_ (done_of HT_.out (by kernel_rfl)) ?_
 try go_wp2
 refine bodyPost_ret (results_cc rfl _ _ a9 a8 25 59 #[.slice b1 a6.length b0, .slice b3 a7.length b2] #[.slice g1 c9.length e8, .slice g6 d8.length g5] (0, 0) (0, 0) _ _ rfl (by (with_reducible repeat (first | refine dN ?_ _ | refine dR ?_ | refine dA ?_ _)); refine blk_far ?_ c0.out _; (with_reducible repeat (first | refine dN ?_ _ | refine dR ?_ | refine dA ?_ _)); refine blk_far ?_ c0.out _; (with_reducible repeat (first | refine dN ?_ _ | refine dR ?_ | refine dA ?_ _)); refine blk_put (cs := #[.slice b1 a6.length b0, .slice none 0 0]) ?_ 1 _ rfl; refine blk_put (cs := #[.slice none 0 0, .slice none 0 0]) ?_ 0 _ rfl; (with_reducible repeat (first | refine dN ?_ _ | refine dR ?_ | refine dA ?_ _)); exact a3.out) Try.underlying25 rfl (by kernel_rfl) rfl (by (with_reducible repeat (first | refine dN ?_ _ | refine dR ?_ | refine dA ?_ _)); refine blk_put (cs := #[.slice g1 c9.length e8, .slice none 0 0]) ?_ 1 _ rfl; refine blk_put (cs := #[.slice none 0 0, .slice none 0 0]) ?_ 0 _ rfl; (with_reducible repeat (first | refine dN ?_ _ | refine dR ?_ | refine dA ?_ _)); refine blk_far ?_ b9.out _; (with_reducible repeat (first | refine dN ?_ _ | refine dR ?_ | refine dA ?_ _)); refine blk_far ?_ b9.out _; (with_reducible repeat (first | refine dN ?_ _ | refine dR ?_ | refine dA ?_ _)); exact a4.out) Try.underlying59 rfl (by kernel_rfl)) rfl ?_
 exact ⟨_, _, _, _, erf, by (with_reducible repeat (first | apply Kd.N_alloc | apply Kd.N_drewN | apply Kd.N_drew)); exact Kd.N_mono (Kd.N_far (p := ⟨a8, 1, none⟩) (Kd.N_far (p := ⟨a8, 0, none⟩) (Kd.N_far (p := ⟨a9, 1, none⟩) (Kd.N_far (p := ⟨a9, 0, none⟩) (Kd.N_mono (Kd.N_mono b5.out (fun k_ hk => (⟨hk, hk.1.1.2.2.2.1⟩ : _ ∧ k_ ≠ a9))) (fun k_ hk => (⟨hk, hk.1.1.1.2.2.2.2.1⟩ : _ ∧ k_ ≠ a8))) (fun _ hk => hk.1.2) (.slice b1 a6.length b0)) (fun _ hk => hk.1.2) (.slice b3 a7.length b2)) (fun _ hk => hk.2) (.slice g1 c9.length e8)) (fun _ hk => hk.2) (.slice g6 d8.length g5)) (fun _ hk => ⟨hk.1.1.1.1.1, ⟨hk.1.1.1.1.2.1, ⟨hk.1.1.1.2, hk.1.1.2⟩⟩⟩), by (with_reducible repeat (first | apply Kd.R_alloc | apply Kd.R_drewN | apply Kd.R_drew)); exact Kd.R_mono (Kd.R_far (p := ⟨a8, 1, none⟩) (Kd.R_far (p := ⟨a8, 0, none⟩) (Kd.R_far (p := ⟨a9, 1, none⟩) (Kd.R_far (p := ⟨a9, 0, none⟩) (Kd.R_types (Kd.R_types b4.out a3.out (by decide)) a4.out (by decide)) (fun _ hk => hk.1.2) (.slice b1 a6.length b0)) (fun _ hk => hk.1.2) (.slice b3 a7.length b2)) (fun _ hk => hk.2) (.slice g1 c9.length e8)) (fun _ hk => hk.2) (.slice g6 d8.length g5)) (fun _ hk => hk.1.1), by (with_reducible repeat (first | apply Kd.R_alloc | apply Kd.R_drewN | apply Kd.R_drew)); exact Kd.R_mono (Kd.R_far (p := ⟨a8, 1, none⟩) (Kd.R_far (p := ⟨a8, 0, none⟩) (Kd.R_far (p := ⟨a9, 1, none⟩) (Kd.R_far (p := ⟨a9, 0, none⟩) (Kd.R_types (Kd.R_types j6.out a3.out (by decide)) a4.out (by decide)) (fun _ hk => hk.1.2) (.slice b1 a6.length b0)) (fun _ hk => hk.1.2) (.slice b3 a7.length b2)) (fun _ hk => hk.2) (.slice g1 c9.length e8)) (fun _ hk => hk.2) (.slice g6 d8.length g5)) (fun _ hk => hk.1.1.1), by (with_reducible repeat (first | apply Kd.R_alloc | apply Kd.R_drewN | apply Kd.R_drew)); exact Kd.R_mono (Kd.R_far (p := ⟨a8, 1, none⟩) (Kd.R_far (p := ⟨a8, 0, none⟩) (Kd.R_far (p := ⟨a9, 1, none⟩) (Kd.R_far (p := ⟨a9, 0, none⟩) (Kd.R_types (Kd.R_types j5.out a3.out (by decide)) a4.out (by decide)) (fun _ hk => hk.1.2) (.slice b1 a6.length b0)) (fun _ hk => hk.1.2) (.slice b3 a7.length b2)) (fun _ hk => hk.2) (.slice g1 c9.length e8)) (fun _ hk => hk.2) (.slice g6 d8.length g5)) (fun _ hk => hk.1.1.1), bb HB⟩
def graph_within.f (a0 : Int) (a1 : Int) : Option (Bool) := if a0 ≥ 0 then (some (decide (a0 ≤ a1))) else (some false)
theorem graph_within.calls (a0 : Int) (a1 : Int) (r : Bool) (w : World) (h : graph_within.f a0 a1 = some r) :
  Calls Try.prog 94 #[.int .i64 a0, .int .i64 a1] w fun e w' => e = .returned (.bool r) ∧ Drawn0 w w' := by
 have H : (if a0 ≥ 0 then (some (decide (a0 ≤ a1))) else (some false)) = some r := h
 clear h
 by_cases c3 : a0 ≥ 0
 ·rw [if_pos c3] at H
  have o2 : decide (0 ≤ a0) = true := decide_eq_true c3
  clear c3
  obtain rfl := Option.some.inj H
  go_enter Try.func94, Try.ntmps94
  go_wp2
  go_ret
  exact ⟨by first | rfl | (simp; done) | (simp [*]; done), drw⟩
 rw [if_neg c3] at H
 have o2 : decide (0 ≤ a0) = false := decide_eq_false c3
 clear c3
 obtain rfl := Option.some.inj H
 go_enter Try.func94, Try.ntmps94
 go_wp2
 go_ret
 exact ⟨by first | rfl | (simp; done) | (simp [*]; done), drw⟩
def graph_fits.f (e3 : Int) (g0 : Int) (e9 : Int) (a1 : Int) : Option (Bool) := (graph_within.f e3 99).bind fun g4 => (if g4 = true then ((graph_within.f g0 (wrap64 (a1 - 1))).bind fun g3 => (if g3 = true then ((graph_within.f e9 (wrap64 (a1 - 1))).bind fun g9 => (some g9)) else (some false))) else (some false))
theorem graph_fits.calls (e3 : Int) (g0 : Int) (e9 : Int) (a1 : Int) (r : Bool) (w : World) (h : graph_fits.f e3 g0 e9 a1 = some r) :
  Calls Try.prog 97 #[.agg #[.int .i64 e3, .int .i64 g0, .int .i64 e9], .int .i64 a1] w fun e w' => e = .returned (.bool r) ∧ Below w.heap.size w w' := by
 have hu39 := Try.underlying39
 have HB := Aside0.mk (Below.refl w.heap.size w)
 have H : ((graph_within.f e3 99).bind fun g4 => (if g4 = true then ((graph_within.f g0 (wrap64 (a1 - 1))).bind fun g3 => (if g3 = true then ((graph_within.f e9 (wrap64 (a1 - 1))).bind fun g9 => (some g9)) else (some false))) else (some false))) = some r := h
 clear h
 obtain ⟨g4, A3, H⟩ := obA H
 by_cases c4 : g4 = true
 subst c4
 replace H := ift H
 obtain ⟨g3, A5, H⟩ := obA H
 by_cases c6 : g3 = true
 subst c6
 replace H := ift H
 obtain ⟨g9, A7, H⟩ := obA H
 obtain rfl := Option.some.inj H
 rotate_left
 replace c6 := Bool.eq_false_iff.mpr c6
 subst c6
 replace H := iff_ H
 obtain rfl := Option.some.inj H
 rotate_left
 replace c4 := Bool.eq_false_iff.mpr c4
 subst c4
 replace H := iff_ H
 obtain rfl := Option.some.inj H
 all_goals
  go_enter Try.func97, Try.ntmps97
  go_wp2_with (first | ((with_reducible refine gate_dst (N := 2) rfl ?_); refine be 2 #[.int .i64 e3, .int .i64 g0, .int .i64 e9] 39 ?_; intro v7 hg s8 hbox hb; have n9 := Aside0.mk (hbox); have v8 := bsz HB hg; replace HB := bstep HB hb; clear hb hbox hg; obtain ⟨s6, r9, r8, r5, r0, q9⟩ := cz3 n9) | ((with_reducible refine gate_callee (f := 94) rfl ?_); refine gl 7 Try.func94 #[.int .i64 e3, .int .i64 99] (h := ?_); (with_reducible refine (graph_within.calls _ _ _ _ A3.out).mono ?_); rintro e w' ⟨rfl, ⟨nd, rfl⟩⟩; refine ⟨_, rfl, ?_⟩) | (go_at_call 94; (with_reducible refine (graph_within.calls _ _ _ _ A5.out).mono ?_); rintro e w' ⟨rfl, ⟨nd, rfl⟩⟩) | (go_at_call 94; (with_reducible refine (graph_within.calls _ _ _ _ A7.out).mono ?_); rintro e w' ⟨rfl, ⟨nd, rfl⟩⟩))
  go_ret
  exact ⟨by first | rfl | (simp <;> rfl) | (simp [*] <;> rfl), bb HB⟩
end Go.Proofs.Ytfpianecohobjaa.P
