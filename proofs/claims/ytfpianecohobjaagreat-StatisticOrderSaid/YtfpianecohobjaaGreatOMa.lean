/- StatisticOf: a part of its proof. No condition. -/
import Derived.Test.YtfpianecohobjaaGreatOPx0
namespace Go.Proofs.YtfpianecohobjaaGreat.P
open Go.RowKit Go.Proofs.YtfpianecohobjaaGreatW.PrintWords Go.Proofs.YtfpianecohobjaaGreatW.PrintLast Go.Proofs.YtfpianecohobjaaGreatW.PrintMore
set_option maxHeartbeats 8000000
set_option maxRecDepth 100000
set_option linter.unusedVariables false
set_option linter.unusedSimpArgs false
theorem eqA75 (d : Nat) (w : World) (x0 y0 : Int) (x1 y1 : Int) (x2 y2 : Int) (x3 y3 : Int) :
  (Op.equalIn (d + 2) 75 (.agg #[.int .i64 x0, .int .i64 x1, .int .i64 x2, .int .i64 x3]) (.agg #[.int .i64 y0, .int .i64 y1, .int .i64 y2, .int .i64 y3])).run Tryz.prog w = .ok (x0 == y0 && (x1 == y1 && (x2 == y2 && (x3 == y3)))) w := by
 refine eqA_of Tryz.underlying75 (by kernel_rfl) ?_
 refine eqf_cons (by rfl) (by go_simp; rfl) (by go_simp; rfl) (by go_simp) ?_
 refine eqf_cons (by rfl) (by go_simp; rfl) (by go_simp; rfl) (by go_simp) ?_
 refine eqf_cons (by rfl) (by go_simp; rfl) (by go_simp; rfl) (by go_simp) ?_
 exact eqf_last (by rfl) (by go_simp; rfl) (by go_simp; rfl) (by go_simp)
def q5_Numbers.l0 : Nat → Int → Int → List Int → Int → Option (List Int)
 | 0, _, _, _, _ => none
 | k + 1, x0, x1, x5, x6 => if x6 < x1 then (if x5.length < 17592186044416 then (q5_Numbers.l0 k x0 x1 (x5 ++ [wrap64 (x0 + x6)]) (wrap64 (x6 + 1))) else (none)) else (some x5)
def q5_Numbers.f (k : Nat) (a0 : Int) (a1 : Int) : Option (List Int) := q5_Numbers.l0 k a0 a1 ([] : List Int) 0
theorem q5_Numbers.calls (k : Nat) (a0 : Int) (a1 : Int) (r : List Int) (w : World) (h : q5_Numbers.f k a0 a1 = some r) :
  Calls Tryz.prog 39 #[.int .i64 a0, .int .i64 a1] w fun e w' => ∃ b2 : Value, e = .returned (b2) ∧ Kd.R (Kd.int .i64) 3 w' w.heap.size (fun _ => True) b2 r ∧ Below w.heap.size w w' := by
 have HB := Aside0.mk (Below.refl w.heap.size w)
 have H : (q5_Numbers.l0 k a0 a1 ([] : List Int) 0) = some r := h
 clear h
 have H' := Aside0.mk H
 clear H
 go_enter Tryz.func39, Tryz.ntmps39
 go_wp2
 go_loopg [5, 6] k (fun kq v5 v6 w' => ∃ (a3 : List Int) (a2 : Int), v6 = .int .i64 a2 ∧ Aside0 (q5_Numbers.l0 kq a0 a1 a3 a2 = some r) ∧ Aside0 (kq ≤ k) ∧ Aside0 (Kd.R (Kd.int .i64) 3 w' w.heap.size (fun _ => True) v5 a3) ∧ Aside0 (Below w.heap.size w w'))
 case atStart => exact ⟨(([] : List Int)), (0), eqs, H', ⟨Nat.le_refl _⟩, ⟨by first | exact Kd.R_nil _ _ _ _ _ | exact Kd.N_nil _ _ _ _ _ | exact Kd.V_nil _ _ _ _ _ | exact Kd.Q_nil _ _ _ _ _ | exact Kd.S_nil _ _ _ _ _⟩, ⟨bb HB⟩⟩
 case round =>
  clear H'
  obtain ⟨a3, a2, rfl, HA, b3, HO_5, HB⟩ := hrel
  cases gk with
  | zero => exact absurd HA.out (by simp [q5_Numbers.l0])
  | succ k1 =>
   have H := HA.out
   clear HA
   simp only [q5_Numbers.l0] at H
   by_cases c3 : a2 < a1
   rotate_left
   ·rw [if_neg c3] at H
    have c2 := decide_eq_false c3
    clear c3
    obtain rfl := Option.some.inj H
    go_wp2
    go_ret
    exact ⟨_, erf, kR HO_5, bb HB⟩
   rw [if_pos c3] at H
   have c2 := decide_eq_true c3
   clear c3
   obtain ⟨c4, H⟩ := itn H
   have g8 := Aside0.mk c4
   clear c4
   obtain ⟨d1, a7⟩ : ∃ y_ : List Int, y_ = (a3 ++ [wrap64 (a0 + a2)]) := ⟨_, rfl⟩
   replace H : (q5_Numbers.l0 k1 a0 a1 d1 (wrap64 (a2 + 1))) = some r := by first | (rw [a7]; with_reducible exact H) | (have H2_ := (Option.bind_some _ _).symm.trans H; rw [a7]; with_reducible exact H2_) | (have H2_ := (Option.bind_some _ _).symm.trans H; with_reducible exact H2_) | with_reducible exact H | (rw [a7]; exact H) | exact H
   have e3 := Aside0.mk a7
   clear a7
   have H' := Aside0.mk H
   clear H
   go_wp2_with (first | ((with_reducible refine gate_builtin (b := .append) (xs := #[.tmp 12, .tmp 16]) rfl ?_); at_builtin; refine Kd.R_append (Kd.int .i64) (w0 := w) w.heap.size rfl (.tmp 12) (.tmp 16) 32 3 (.int .i64 0) 8 rfl Tryz.underlying32 info3 rfl (by decide) (by omega) u5 a3 (wrap64 (a0 + a2)) [.int .i64 (wrap64 (a0 + a2))] (fun _ => True) (fun _ => False) rfl rfl ?aP (fun _ hk => hk.elim) ?aF ?aO ?aB ?aS ?aL ?_; (case aP => exact rfl); (case aB => exact (bb HB)); (case aF => exact (fun _ _ => trivial)); (case aO => exact (kR HO_5)); (case aS => exact (below_size (bb HB))); (case aL => have := g8.out; omega); intro h4 w5 ho hb hg hat; rw [← e3.out] at ho; replace HB := Aside0.mk (hb); have e5 := Aside0.mk (ho); clear HO_5 ho hb hg hat))
   go_roundg k1
   case measure => have := b3.out; omega
   case rel => exact ⟨(d1), (wrap64 (a2 + 1)), eqs, H', ⟨by have := b3.out; omega⟩, ⟨kR e5⟩, ⟨bb HB⟩⟩
def q5_Shuffle.l0 : Nat → Int → List Int → List Int → Int → Option (List Int)
 | 0, _, _, _, _ => none
 | k + 1, x0, x1, x5, x6 => if x6 < x0 then (if x6 < (x1.length : Int) then (if 0 ≤ x6 then (if (wrap64 (x0 - x6)) = 0 then (none) else (if 0 ≤ (wrap64 (x6 + (Int.tmod (wrap64 (rd x1 x6)) (wrap64 (x0 - x6))))) then (if (wrap64 (x6 + (Int.tmod (wrap64 (rd x1 x6)) (wrap64 (x0 - x6))))) < (x5.length : Int) then (if x6 < (x5.length : Int) then (q5_Shuffle.l0 k x0 x1 ((x5.set (x6 : Int).toNat (rd x5 (wrap64 (x6 + (Int.tmod (wrap64 (rd x1 x6)) (wrap64 (x0 - x6))))))).set ((wrap64 (x6 + (Int.tmod (wrap64 (rd x1 x6)) (wrap64 (x0 - x6))))) : Int).toNat (rd x5 x6)) (wrap64 (x6 + 1))) else (none)) else (none)) else (none))) else (none)) else (some x5)) else (some x5)
def q5_Shuffle.f (k : Nat) (a0 : Int) (l1 : List Int) : Option (List Int) := (q5_Numbers.f k 0 a0).bind fun a8 => (q5_Shuffle.l0 k a0 l1 a8 0)
def q5_Shuffle.T6 : Bool × List (List Nat × List Nat) := (true, [([], []), ([], []), ([], []), ([], []), ([], []), ([], []), ([4, 5], [4, 5]), ([6], [6]), ([], []), ([], []), ([8, 9], [8, 9]), ([10], [10]), ([0, 1, 0, 1, 4, 5, 6, 7, 11], [0, 1]), ([12, 7, 0, 1, 4, 5, 6, 7, 11], [7, 12]), ([2, 3, 0, 1, 2, 3, 4, 5, 6, 7, 8, 9, 10, 11, 12, 13], [2, 3]), ([14, 11, 13, 0, 1, 2, 3, 4, 5, 6, 7, 8, 9, 10, 11, 12, 13], [11, 14])])
def q5_Shuffle.B6 : List Nat := [0, 0, 0, 0, 0, 0, 48, 112, 0, 0, 768, 1792, 4083, 8179, 16383, 32767]
theorem q5_Shuffle.tab6 : rtab .any (opsOf Tryz.f13 6) = q5_Shuffle.T6 := by kernel_rfl
theorem q5_Shuffle.bits6 : waitsOk q5_Shuffle.T6.2 q5_Shuffle.B6 = true := by kernel_rfl
theorem q5_Shuffle.calls (k : Nat) (a0 : Int) (A1 : Option Addr) (c1 : Nat) (l1 : List Int) (r : List Int) (w : World) (e6 : Kd.C (Kd.int .u8) w A1 l1.length l1) (e8 : l1.length ≤ c1) (h : q5_Shuffle.f k a0 l1 = some r) :
  Calls Tryz.prog 13 #[.int .i64 a0, .slice A1 l1.length c1] w fun e w' => ∃ b2 : Value, e = .returned (b2) ∧ Kd.R (Kd.int .i64) 3 w' w.heap.size (fun _ => True) b2 r ∧ Below w.heap.size w w' := by
 have g9 := Aside0.mk e6
 have j2 := Aside0.mk e8
 clear e6 e8
 have HB := Aside0.mk (Below.refl w.heap.size w)
 have H : ((q5_Numbers.f k 0 a0).bind fun a8 => (q5_Shuffle.l0 k a0 l1 a8 0)) = some r := h
 clear h
 obtain ⟨a8, A3, H⟩ := obA H
 have H' := Aside0.mk H
 clear H
 go_enter Tryz.func13, Tryz.ntmps13
 go_wp2_with (first | ((with_reducible refine gate_callee (f := 39) rfl ?_); refine gl 9 Tryz.func39 #[.int .i64 0, .int .i64 a0] (h := ?_); (with_reducible refine (q5_Numbers.calls k 0 a0 a8 _ A3.out).mono ?_); rintro e w4 ⟨g2, rfl, e7, hb⟩; refine ⟨_, rfl, ?_⟩; have e4 := Aside0.mk (Kd.R_lower e7 (below_size (bb HB))); replace HB := bstep HB hb; (try clear hb); (try clear hb2); (try clear hk); (try clear hi); (try clear e7)))
 go_loopg [6] k (fun kq v6 w' => ∃ (a3 : List Int) (a2 : Int), v6 = .int .i64 a2 ∧ Aside0 (q5_Shuffle.l0 kq a0 l1 a3 a2 = some r) ∧ Aside0 (kq ≤ k) ∧ Aside0 (Kd.R (Kd.int .i64) 3 w' w.heap.size (fun _ => True) g2 a3) ∧ Aside0 (Below w.heap.size w w'))
 case atStart => exact ⟨(a8), (0), eqs, H', ⟨Nat.le_refl _⟩, ⟨kR e4⟩, ⟨bb HB⟩⟩
 case round =>
  clear H'
  try clear c1
  try clear p2
  try clear c3
  obtain ⟨a3, a2, rfl, HA, b3, HO_5, HB⟩ := hrel
  cases gk with
  | zero => exact absurd HA.out (by simp [q5_Shuffle.l0])
  | succ k1 =>
   have H := HA.out
   clear HA
   simp only [q5_Shuffle.l0] at H
   by_cases c5 : a2 < a0
   rotate_left
   ·rw [if_neg c5] at H
    have g7 := decide_eq_false c5
    clear c5
    obtain rfl := Option.some.inj H
    go_wp2
    go_ret
    exact ⟨_, erf, kR HO_5, bb HB⟩
   rw [if_pos c5] at H
   have g7 := decide_eq_true c5
   clear c5
   by_cases c6 : a2 < (l1.length : Int)
   rotate_left
   ·rw [if_neg c6] at H
    have g6 := decide_eq_false c6
    clear c6
    obtain rfl := Option.some.inj H
    go_wp2
    go_ret
    exact ⟨_, erf, kR HO_5, bb HB⟩
   rw [if_pos c6] at H
   have g6 := decide_eq_true c6
   clear c6
   obtain ⟨c7, H⟩ := itn H
   have h9 := decide_eq_true c7
   clear c7
   by_cases c8 : (wrap64 (a0 - a2)) = 0
   ·rw [if_pos c8] at H
    exact absurd H (by simp)
   rw [if_neg c8] at H
   have h8 := beq_eq_false_iff_ne.mpr c8
   have h7 := bne_iff_ne.mpr c8
   obtain ⟨a4, c0⟩ : ∃ j_ : Int, (wrap64 (a2 + (Int.tmod (wrap64 (rd l1 a2)) (wrap64 (a0 - a2))))) = j_ := ⟨_, rfl⟩
   replace H : (if 0 ≤ (a4) then (if (a4) < (a3.length : Int) then (if a2 < (a3.length : Int) then (q5_Shuffle.l0 k1 a0 l1 ((a3.set (a2 : Int).toNat (rd a3 (a4))).set ((a4) : Int).toNat (rd a3 a2)) (wrap64 (a2 + 1))) else (none)) else (none)) else (none)) = some r := by first | (rw [c0] at H; exact H) | (simp only [c0] at H ⊢; exact H)
   have hji9w : (IntKind.i64.wrap (a2 + (Int.tmod (wrap64 (rd l1 a2)) (wrap64 (a0 - a2))))) = a4 := (i64_w _).trans c0
   obtain ⟨g1, H⟩ := itn H
   have h2 := decide_eq_true g1
   clear g1
   obtain ⟨g0, H⟩ := itn H
   have h1 := decide_eq_true g0
   clear g0
   obtain ⟨e9, H⟩ := itn H
   have h0 := decide_eq_true e9
   clear e9
   obtain ⟨d0, a6⟩ : ∃ y_ : List Int, y_ = (a3.set (a2 : Int).toNat (rd a3 (a4))) := ⟨_, rfl⟩
   replace H : (q5_Shuffle.l0 k1 a0 l1 (d0.set ((a4) : Int).toNat (rd a3 a2)) (wrap64 (a2 + 1))) = some r := by first | (rw [a6]; with_reducible exact H) | (have H2_ := (Option.bind_some _ _).symm.trans H; rw [a6]; with_reducible exact H2_) | (have H2_ := (Option.bind_some _ _).symm.trans H; with_reducible exact H2_) | with_reducible exact H | (rw [a6]; exact H) | exact H
   have e2 := Aside0.mk a6
   clear a6
   obtain ⟨c9, a5⟩ : ∃ y_ : List Int, y_ = (d0.set ((a4) : Int).toNat (rd a3 a2)) := ⟨_, rfl⟩
   replace H : (q5_Shuffle.l0 k1 a0 l1 c9 (wrap64 (a2 + 1))) = some r := by first | (rw [a5]; with_reducible exact H) | (have H2_ := (Option.bind_some _ _).symm.trans H; rw [a5]; with_reducible exact H2_) | (have H2_ := (Option.bind_some _ _).symm.trans H; with_reducible exact H2_) | with_reducible exact H | (rw [a5]; exact H) | exact H
   have e1 := Aside0.mk a5
   clear a5
   have H' := Aside0.mk H
   clear H
   have b9 : 0 ≤ a2 := odt
   have b6 : a2 < (l1.length : Int) := odt
   obtain ⟨h3, g5, b1⟩ := Kd.at_int g9.out a2 b9 b6
   cases g5
   replace b1 := hxc HB b1
   replace b9 := eq_true b9
   replace b6 := eq_true b6
   try go_wp2
   replace HO_5 := Aside0.mk (Kd.R_drew HO_5.out)
   replace HB := Aside0.mk (below_drew1 HB.out)
   obtain ⟨j0, h5, eo16⟩ := Kd.R_slice HO_5.out
   (first | subst eo16 | (injection eo16 with f1_ f2_ f3_; have f4_ := f1_.symm; have f5_ := f3_.symm; clear f1_ f2_ f3_; subst f4_; subst f5_))
   have b8 : 0 ≤ ((a4) : Int) := odt
   have b5 : (a4) < (a3.length : Int) := odt
   obtain ⟨e0, g4, b0⟩ := Kd.at_int (Kd.R_reads' HO_5.out).2.2 (a4) b8 b5
   cases g4
   replace b8 := eq_true b8
   replace b5 := eq_true b5
   have b7 : 0 ≤ a2 := odt
   have b4 : a2 < (a3.length : Int) := odt
   obtain ⟨d9, g3, a9⟩ := Kd.at_int (Kd.R_reads' HO_5.out).2.2 a2 b7 b4
   obtain rfl : e0 = d9 := (by injection g3)
   replace b7 := eq_true b7
   replace b4 := eq_true b4
   have d5 : 0 ≤ a2 := odt
   have d3 : (a2 : Int) < ((a3.length : Int) : Int) := odt
   obtain ⟨go13, h6, eo13, d8, gl13, cl13, HG13⟩ := Kd.R_form HO_5.out (by omega)
   (first | cases eo13 | (injection eo13 with ea_ en_ ec_; (first | subst ea_ | (injection ea_ with ea_; subst ea_)); subst ec_; clear en_))
   have GB13 := Aside0.mk d8
   have GG13 := Aside0.mk HG13
   clear d8 gl13 HG13
   (first | simp only [add_plain] at b0 | skip)
   (first | simp only [add_plain] at a9 | skip)
   obtain ⟨d7, hf13_0⟩ := Kd.R_celln 0 HO_5.out (a2 : Int) d5 d3
   replace d5 := eq_true d5
   replace d3 := eq_true d3
   have HP17 := Kd.R_putn HO_5.out (a2 : Int) (rd a3 (a4))
   rw [← e2.out] at HP17
   have HQ17 := Aside0.mk HP17
   clear HP17
   have d4 : 0 ≤ ((a4) : Int) := odt
   have d2 : ((a4) : Int) < ((a3.length : Int) : Int) := odt
   obtain ⟨d6, hf14_0⟩ := Kd.R_celln 0 HQ17.out ((a4) : Int) d4 d2
   replace d4 := eq_true d4
   replace d2 := eq_true d2
   have HP18 := Kd.R_putn HQ17.out ((a4) : Int) (rd a3 a2)
   rw [← e1.out] at HP18
   have HQ18 := Aside0.mk HP18
   clear HP18
   refine start_ (n := 16) (S := fun w' => w'.cell? ⟨go13, ((a4)).toNat, none⟩ = some (.int .i64 (rd a3 (a4))) ∧ w'.cell? ⟨go13, (a2).toNat, none⟩ = some (.int .i64 (rd a3 a2))) (ds := [13, 15]) #[false, false, false, false, false, false, false, false, false, false, false, false, false, false, false, false] (by kernel_rfl) rfl rfl ⟨b0, a9⟩ (fun hHeld => ?_); refine with_tabW q5_Shuffle.tab6 q5_Shuffle.bits6 (fun HT_ HW_ => ?_)
   generalize wr.drew = j1 at HO_5 HB GG13 HQ17 HQ18 hf13_0 hf14_0 d7 d6 b0 a9 hHeld ⊢
   refine pu 0 32 (bits 16 0x1) HT_ (h := ?_)
   refine pu 1 33 (bits 16 0x3) HT_ (h := ?_)
   refine pu 2 34 (bits 16 0x7) HT_ (h := ?_)
   refine pu 3 35 (bits 16 0xf) HT_ (h := ?_)
   refine pu 4 36 (bits 16 0x1f) HT_ (h := ?_)
   refine pu 5 37 (bits 16 0x3f) HT_ (h := ?_)
   refine pu 6 38 (bits 16 0x7f) HT_ (h := ?_)
   refine pu 8 40 (bits 16 0x17f) HT_ (h := ?_)
   refine pu 9 41 (bits 16 0x37f) HT_ (h := ?_)
   refine pu 10 42 (bits 16 0x77f) HT_ (h := ?_)
   refine tk 7 39 (bits 16 0x7ff) HT_ HW_ hHeld (hy := by rintro w' ⟨s0, s1⟩; go_simp; with_reducible rfl) (h := ?_)
   refine tk 11 43 (bits 16 0xfff) HT_ HW_ hHeld (hy := by rintro w' ⟨s0, s1⟩; go_simp; with_reducible rfl) (h := ?_)
   refine pu 12 44 (bits 16 0x1fff) HT_ (h := ?_)
   refine last_ (i := 13) (N := none) #[true, true, true, true, true, true, true, true, true, true, true, true, true, true, false, false] rfl rfl (one_of HT_.out (by kernel_rfl)) (by decide) (fun K hK => ?_)
   refine skip_ (w1 := ?_) (by rfl) rfl ?_ ?_
   rotate_left
   ·go_simp
    rfl
   refine hK.out _ _ ?_
   clear hK K
   refine pu 14 45 (bits 16 0x7fff) HT_ (h := ?_)
   refine last_ (i := 15) (N := none) #[true, true, true, true, true, true, true, true, true, true, true, true, true, true, true, true] rfl rfl (one_of HT_.out (by kernel_rfl)) (by decide) (fun K hK => ?_)
   refine skip_ (w1 := ?_) (by rfl) rfl ?_ ?_
   rotate_left
   ·go_simp
    rfl
   refine hK.out _ _ ?_
   clear hK K
   refine done_ (done_of HT_.out (by kernel_rfl)) ?_
   try go_wp2
   go_roundg k1
   case measure => have := b3.out; omega
   case rel => exact ⟨(c9), (wrap64 (a2 + 1)), eqs, H', ⟨by have := b3.out; omega⟩, ⟨kR HQ18⟩, ⟨bb HB⟩⟩
def graph_within.f (a0 : Int) (a1 : Int) : Option (Bool) := if a0 ≥ 0 then (some (decide (a0 ≤ a1))) else (some false)
theorem graph_within.calls (a0 : Int) (a1 : Int) (r : Bool) (w : World) (h : graph_within.f a0 a1 = some r) :
  Calls Tryz.prog 43 #[.int .i64 a0, .int .i64 a1] w fun e w' => e = .returned (.bool r) ∧ Drawn0 w w' := by
 have H : (if a0 ≥ 0 then (some (decide (a0 ≤ a1))) else (some false)) = some r := h
 clear h
 by_cases c3 : a0 ≥ 0
 ·rw [if_pos c3] at H
  have c2 : decide (0 ≤ a0) = true := decide_eq_true c3
  clear c3
  obtain rfl := Option.some.inj H
  go_enter Tryz.func43, Tryz.ntmps43
  go_wp2
  go_ret
  exact ⟨by first | rfl | (simp; done) | (simp [*]; done), drw⟩
 rw [if_neg c3] at H
 have c2 : decide (0 ≤ a0) = false := decide_eq_false c3
 clear c3
 obtain rfl := Option.some.inj H
 go_enter Tryz.func43, Tryz.ntmps43
 go_wp2
 go_ret
 exact ⟨by first | rfl | (simp; done) | (simp [*]; done), drw⟩
def graph_fits.f (a0 : Int) (a3 : Int) (a2 : Int) (a1 : Int) : Option (Bool) := (graph_within.f a0 99).bind fun a5 => (if a5 = true then ((graph_within.f a3 (wrap64 (a1 - 1))).bind fun a4 => (if a4 = true then ((graph_within.f a2 (wrap64 (a1 - 1))).bind fun a6 => (some a6)) else (some false))) else (some false))
theorem graph_fits.calls (a0 : Int) (a3 : Int) (a2 : Int) (a1 : Int) (r : Bool) (w : World) (h : graph_fits.f a0 a3 a2 a1 = some r) :
  Calls Tryz.prog 52 #[.agg #[.int .i64 a0, .int .i64 a3, .int .i64 a2], .int .i64 a1] w fun e w' => e = .returned (.bool r) ∧ Below w.heap.size w w' := by
 have hu56 := Tryz.underlying56
 have HB := Aside0.mk (Below.refl w.heap.size w)
 have H : ((graph_within.f a0 99).bind fun a5 => (if a5 = true then ((graph_within.f a3 (wrap64 (a1 - 1))).bind fun a4 => (if a4 = true then ((graph_within.f a2 (wrap64 (a1 - 1))).bind fun a6 => (some a6)) else (some false))) else (some false))) = some r := h
 clear h
 obtain ⟨a5, A3, H⟩ := obA H
 by_cases c4 : a5 = true
 subst c4
 replace H := ift H
 obtain ⟨a4, A5, H⟩ := obA H
 by_cases c6 : a4 = true
 subst c6
 replace H := ift H
 obtain ⟨a6, A7, H⟩ := obA H
 obtain rfl := Option.some.inj H
 rotate_left
 replace c6 := Bool.eq_false_iff.mpr c6
 subst c6
 replace H := iff_ H
 obtain rfl := Option.some.inj H
 rotate_left
 replace c4 := Bool.eq_false_iff.mpr c4
 subst c4
 replace H := iff_ H
 obtain rfl := Option.some.inj H
 all_goals
  go_enter Tryz.func52, Tryz.ntmps52
  go_wp2_with (first | ((with_reducible refine gate_dst (N := 2) rfl ?_); refine be 2 #[.int .i64 a0, .int .i64 a3, .int .i64 a2] 56 ?_; intro b4 hg b6 hbox hb; have a7 := Aside0.mk (hbox); have b5 := bsz HB hg; replace HB := bstep HB hb; clear hb hbox hg; obtain ⟨b3, b2, b1, b0, a9, a8⟩ := cz3 a7) | ((with_reducible refine gate_callee (f := 43) rfl ?_); refine gl 7 Tryz.func43 #[.int .i64 a0, .int .i64 99] (h := ?_); (with_reducible refine (graph_within.calls _ _ _ _ A3.out).mono ?_); rintro e w' ⟨rfl, ⟨nd, rfl⟩⟩; refine ⟨_, rfl, ?_⟩) | (go_at_call 43; (with_reducible refine (graph_within.calls _ _ _ _ A5.out).mono ?_); rintro e w' ⟨rfl, ⟨nd, rfl⟩⟩) | (go_at_call 43; (with_reducible refine (graph_within.calls _ _ _ _ A7.out).mono ?_); rintro e w' ⟨rfl, ⟨nd, rfl⟩⟩))
  go_ret
  exact ⟨erf, bb HB⟩
def slices_Index_int_int.l0 : Nat → List Int → Int → Int → Int → Option (Int)
 | 0, _, _, _, _ => none
 | k + 1, x0, x1, x7, x8 => if x8 < x7 then (if 0 ≤ x8 then (if x8 < (x0.length : Int) then (if x1 = (rd x0 x8) then (some x8) else (slices_Index_int_int.l0 k x0 x1 x7 (wrap64 (x8 + 1)))) else (none)) else (none)) else (some (-1))
def slices_Index_int_int.f (k : Nat) (l0 : List Int) (a1 : Int) : Option (Int) := slices_Index_int_int.l0 k l0 a1 (l0.length : Int) 0
theorem slices_Index_int_int.mono_l : ∀ k, (∀ y0 y1 y2 y3, LeO (slices_Index_int_int.l0 k y0 y1 y2 y3) (slices_Index_int_int.l0 (k + 1) y0 y1 y2 y3))
 | 0 => by (intros; intro r h; simp [slices_Index_int_int.l0] at h)
 | k + 1 => by
  have ih0 := slices_Index_int_int.mono_l k
  (intros; first | unfold slices_Index_int_int.l0)
  all_goals with_reducible repeat' first | exact ih0 .. | exact LeO.refl _ | exact LeO.none _ | refine LeO.ite ?_ ?_ | refine LeO.bind ?_ fun _ => ?_
theorem slices_Index_int_int.mono : ∀ a0 a1 k, LeO (slices_Index_int_int.f k a0 a1) (slices_Index_int_int.f (k + 1) a0 a1) := by
 intro a0 a1 k
 have ih0 := slices_Index_int_int.mono_l k
 unfold slices_Index_int_int.f
 with_reducible repeat' first | exact ih0 .. | exact LeO.refl _ | exact LeO.none _ | refine LeO.ite ?_ ?_ | refine LeO.bind ?_ fun _ => ?_
theorem slices_Index_int_int.calls (k : Nat) (A0 : Option Addr) (c0 : Nat) (l0 : List Int) (a1 : Int) (r : Int) (w : World) (d8 : Kd.C (Kd.int .i64) w A0 l0.length l0) (d9 : l0.length ≤ c0) (h : slices_Index_int_int.f k l0 a1 = some r) :
  Calls Tryz.prog 93 #[.slice A0 l0.length c0, .int .i64 a1] w fun e w' => e = .returned (.int .i64 r) ∧ Drawn0 w w' := by
 have h3 := Aside0.mk d8
 have j9 := Aside0.mk d9
 clear d8 d9
 have H : (slices_Index_int_int.l0 k l0 a1 (l0.length : Int) 0) = some r := h
 clear h
 have H' := Aside0.mk H
 clear H
 go_enter Tryz.func93, Tryz.ntmps93
 go_wp2
 go_loopg [8] k (fun kq v8 w' => ∃ (b0 : Int), v8 = .int .i64 b0 ∧ Aside0 (slices_Index_int_int.l0 kq l0 a1 (l0.length : Int) b0 = some r) ∧ Aside0 (kq ≤ k) ∧ Drawn0 w w')
 case atStart => exact ⟨(0), eqs, H', ⟨Nat.le_refl _⟩, drw⟩
 case round =>
  clear H'
  obtain ⟨b0, rfl, HA, c1, ⟨m1, rfl⟩⟩ := hrel
  cases gk with
  | zero => exact absurd HA.out (by simp [slices_Index_int_int.l0])
  | succ k1 =>
   have H := HA.out
   clear HA
   simp only [slices_Index_int_int.l0] at H
   by_cases c3 : b0 < (l0.length : Int)
   rotate_left
   ·rw [if_neg c3] at H
    have g1 := decide_eq_false c3
    clear c3
    obtain rfl := Option.some.inj H
    go_wp2
    go_ret
    exact ⟨by first | rfl | (simp; done) | (simp [*]; done), drw⟩
   rw [if_pos c3] at H
   have g1 := decide_eq_true c3
   clear c3
   obtain ⟨c4, H⟩ := itn H
   have g0 := decide_eq_true c4
   clear c4
   obtain ⟨c5, H⟩ := itn H
   have m7 := decide_eq_true c5
   clear c5
   by_cases c6 : a1 = (rd l0 b0)
   rw [if_pos c6] at H
   have e9 := beq_iff_eq.mpr c6
   have m6 := bne_eq_false_iff_eq.mpr c6
   clear c6
   obtain rfl := Option.some.inj H
   rotate_left
   rw [if_neg c6] at H
   have e9 := beq_eq_false_iff_ne.mpr c6
   have m6 := bne_iff_ne.mpr c6
   have H' := Aside0.mk H
   clear H
   all_goals
    have e7 : 0 ≤ b0 := odt
    have e3 : b0 < (l0.length : Int) := odt
    obtain ⟨o3, m4, m9⟩ := Kd.at_int h3.out b0 e7 e3
    cases m4
    replace e7 := eq_true e7
    replace e3 := eq_true e3
    go_wp2
   ·go_roundg k1
    case measure => have := c1.out; omega
    case rel => exact ⟨(wrap64 (b0 + 1)), eqs, H', ⟨by have := c1.out; omega⟩, drw⟩
   ·go_ret
    exact ⟨by first | rfl | (simp; done) | (simp [*]; done), drw⟩
def slices_Contains_int_int.f (k : Nat) (l0 : List Int) (a1 : Int) : Option (Bool) := (slices_Index_int_int.f k l0 a1).bind fun d7 => (some (decide (d7 ≥ 0)))
theorem slices_Contains_int_int.mono : ∀ a0 a1 k, LeO (slices_Contains_int_int.f k a0 a1) (slices_Contains_int_int.f (k + 1) a0 a1) := by
 intro a0 a1 k
 unfold slices_Contains_int_int.f
 with_reducible repeat' first | exact slices_Index_int_int.mono .. | exact LeO.refl _ | exact LeO.none _ | refine LeO.ite ?_ ?_ | refine LeO.bind ?_ fun _ => ?_
theorem slices_Contains_int_int.calls (k : Nat) (A0 : Option Addr) (c0 : Nat) (l0 : List Int) (a1 : Int) (r : Bool) (w : World) (d8 : Kd.C (Kd.int .i64) w A0 l0.length l0) (d9 : l0.length ≤ c0) (h : slices_Contains_int_int.f k l0 a1 = some r) :
  Calls Tryz.prog 73 #[.slice A0 l0.length c0, .int .i64 a1] w fun e w' => e = .returned (.bool r) ∧ Drawn0 w w' := by
 have h3 := Aside0.mk d8
 have j9 := Aside0.mk d9
 clear d8 d9
 have H : ((slices_Index_int_int.f k l0 a1).bind fun d7 => (some (decide (d7 ≥ 0)))) = some r := h
 clear h
 obtain ⟨d7, A3, H⟩ := obA H
 obtain rfl := Option.some.inj H
 go_enter Tryz.func73, Tryz.ntmps73
 go_wp2_with (first | ((with_reducible refine gate_callee (f := 93) rfl ?_); refine gl 7 Tryz.func93 #[.slice A0 l0.length c0, .int .i64 a1] (h := ?_); (with_reducible refine (slices_Index_int_int.calls _ _ _ _ _ _ _ ?h5 ?h4 A3.out).mono ?_); (case h5 => repeat (first | exact h3.out | (with_reducible refine Kd.C_alloc ?_ _) | (with_reducible refine Kd.C_drewN ?_ _) | (with_reducible refine Kd.C_drew ?_))); (case h4 => exact j9.out); rintro e w' ⟨rfl, ⟨nd, rfl⟩⟩; refine ⟨_, rfl, ?_⟩))
 go_ret
 exact ⟨by first | rfl | (simp; done) | (simp [*]; done), drw⟩
def slices_Reverse_int_int.l0 : Nat → List Int → Int → Int → Option (List Int)
 | 0, _, _, _ => none
 | k + 1, x0, x2, x3 => if x2 < x3 then (if 0 ≤ x3 then (if x3 < (x0.length : Int) then (if 0 ≤ x2 then (if x2 < (x0.length : Int) then (slices_Reverse_int_int.l0 k ((x0.set (x2 : Int).toNat (rd x0 x3)).set (x3 : Int).toNat (rd x0 x2)) (wrap64 (x2 + 1)) (wrap64 (x3 - 1))) else (none)) else (none)) else (none)) else (none)) else (some x0)
def slices_Reverse_int_int.f (k : Nat) (l0 : List Int) : Option (List Int) := slices_Reverse_int_int.l0 k l0 0 (wrap64 ((l0.length : Int) - 1))
theorem slices_Reverse_int_int.mono_l : ∀ k, (∀ y0 y1 y2, LeO (slices_Reverse_int_int.l0 k y0 y1 y2) (slices_Reverse_int_int.l0 (k + 1) y0 y1 y2))
 | 0 => by (intros; intro r h; simp [slices_Reverse_int_int.l0] at h)
 | k + 1 => by
  have ih0 := slices_Reverse_int_int.mono_l k
  (intros; first | unfold slices_Reverse_int_int.l0)
  all_goals with_reducible repeat' first | exact ih0 .. | exact LeO.refl _ | exact LeO.none _ | refine LeO.ite ?_ ?_ | refine LeO.bind ?_ fun _ => ?_
theorem slices_Reverse_int_int.mono : ∀ a0 k, LeO (slices_Reverse_int_int.f k a0) (slices_Reverse_int_int.f (k + 1) a0) := by
 intro a0 k
 have ih0 := slices_Reverse_int_int.mono_l k
 unfold slices_Reverse_int_int.f
 with_reducible repeat' first | exact ih0 .. | exact LeO.refl _ | exact LeO.none _ | refine LeO.ite ?_ ?_ | refine LeO.bind ?_ fun _ => ?_
def slices_Reverse_int_int.T3 : Bool × List (List Nat × List Nat) := (true, [([], []), ([], []), ([], []), ([], []), ([], []), ([], []), ([4, 5], [4, 5]), ([6], [6]), ([], []), ([], []), ([8, 9], [8, 9]), ([10], [10]), ([0, 1, 0, 1, 4, 5, 6, 7, 11], [0, 1]), ([12, 7, 0, 1, 4, 5, 6, 7, 11], [7, 12]), ([2, 3, 0, 1, 2, 3, 4, 5, 6, 7, 8, 9, 10, 11, 12, 13], [2, 3]), ([14, 11, 13, 0, 1, 2, 3, 4, 5, 6, 7, 8, 9, 10, 11, 12, 13], [11, 14])])
def slices_Reverse_int_int.B3 : List Nat := [0, 0, 0, 0, 0, 0, 48, 112, 0, 0, 768, 1792, 4083, 8179, 16383, 32767]
theorem slices_Reverse_int_int.tab3 : rtab .any (opsOf Tryz.f114 3) = slices_Reverse_int_int.T3 := by kernel_rfl
theorem slices_Reverse_int_int.bits3 : waitsOk slices_Reverse_int_int.T3.2 slices_Reverse_int_int.B3 = true := by kernel_rfl
theorem slices_Reverse_int_int.calls (k : Nat) (P0_ : Nat → Prop) (b2 : Value) (l0 : List Int) (r : List Int) (w0 w : World) (hB : Below w0.heap.size w0 w) (n2 : Kd.R (Kd.int .i64) 3 w w0.heap.size P0_ b2 l0) (h : slices_Reverse_int_int.f k l0 = some r) :
  Calls Tryz.prog 114 #[b2] w fun e w' => e = .returned (.tuple #[]) ∧ Kd.R (Kd.int .i64) 3 w' w0.heap.size (fun k_ => (P0_ k_ ∨ w.heap.size ≤ k_)) b2 r ∧ Below w0.heap.size w0 w' ∧ Kept w w' (fun k_ => P0_ k_) := by
 have j8 := Aside0.mk (show Kd.R (Kd.int .i64) 3 w w0.heap.size (fun k_ => (P0_ k_ ∨ w.heap.size ≤ k_)) b2 l0 from Kd.R_mono n2 (fun k_ hk => (.inl hk)))
 have HK := Aside0.mk (Kept.refl w (fun k_ => P0_ k_))
 have HW0 := Aside0.mk hB.size
 have HB := Aside0.mk hB
 clear hB
 have H : (slices_Reverse_int_int.l0 k l0 0 (wrap64 ((l0.length : Int) - 1))) = some r := h
 clear h
 have H' := Aside0.mk H
 clear H
 obtain ⟨n9, n7, eo2⟩ := Kd.R_slice j8.out
 subst eo2
 go_enter Tryz.func114, Tryz.ntmps114
 go_wp2
 go_loopg [2, 3] k (fun kq v2 v3 w' => ∃ (a7 : List Int) (a4 : Int) (a3 : Int), v2 = .int .i64 a4 ∧ v3 = .int .i64 a3 ∧ Aside0 (slices_Reverse_int_int.l0 kq a7 a4 a3 = some r) ∧ Aside0 (kq ≤ k) ∧ Aside0 (Kd.R (Kd.int .i64) 3 w' w0.heap.size (fun k_ => (P0_ k_ ∨ w.heap.size ≤ k_)) (.slice n9 l0.length n7) a7) ∧ Aside0 (Kept w w' (fun k_ => P0_ k_)) ∧ Aside0 (Below w0.heap.size w0 w'))
 case atStart => exact ⟨(l0), (0), (wrap64 ((l0.length : Int) - 1)), eqs, eqs, H', ⟨Nat.le_refl _⟩, ⟨kR j8⟩, ⟨by repeat (first | (with_reducible first | exact HK.out | apply Kept.alloc | apply Kept.drewN | apply Kept.drew) | exact HK.out)⟩, ⟨bb HB⟩⟩
 case round =>
  clear H'
  obtain ⟨a7, a4, a3, rfl, rfl, HA, c1, HO_0, HK, HB⟩ := hrel
  have b6 := (Kd.R_reads' HO_0.out).1
  rw [b6] at HO_0
  (try simp only [b6])
  cases gk with
  | zero => exact absurd HA.out (by simp [slices_Reverse_int_int.l0])
  | succ k1 =>
   have H := HA.out
   clear HA
   simp only [slices_Reverse_int_int.l0] at H
   by_cases c3 : a4 < a3
   rotate_left
   ·rw [if_neg c3] at H
    have g1 := decide_eq_false c3
    clear c3
    obtain rfl := Option.some.inj H
    go_wp2
    first | go_end0 | ((try simp only [Exit.inBlock, Exit.then]); refine bodyPost_ret (results_none rfl _ _ _) rfl ?_)
    exact ⟨erf, (by first | exact (kR HO_0) | (simp only [b6]; exact (kR HO_0))), bb HB, by repeat (first | (with_reducible first | exact HK.out | apply Kept.alloc | apply Kept.drewN | apply Kept.drew) | exact HK.out)⟩
   rw [if_pos c3] at H
   have g1 := decide_eq_true c3
   clear c3
   obtain ⟨c4, H⟩ := itn H
   have g0 := decide_eq_true c4
   clear c4
   obtain ⟨c5, H⟩ := itn H
   have m7 := decide_eq_true c5
   clear c5
   obtain ⟨c6, H⟩ := itn H
   have e9 := decide_eq_true c6
   clear c6
   obtain ⟨c7, H⟩ := itn H
   have m5 := decide_eq_true c7
   clear c7
   obtain ⟨h1, b5⟩ : ∃ y_ : List Int, y_ = (a7.set (a4 : Int).toNat (rd a7 a3)) := ⟨_, rfl⟩
   replace H : (slices_Reverse_int_int.l0 k1 (h1.set (a3 : Int).toNat (rd a7 a4)) (wrap64 (a4 + 1)) (wrap64 (a3 - 1))) = some r := by first | (rw [b5]; with_reducible exact H) | (have H2_ := (Option.bind_some _ _).symm.trans H; rw [b5]; with_reducible exact H2_) | (have H2_ := (Option.bind_some _ _).symm.trans H; with_reducible exact H2_) | with_reducible exact H | (rw [b5]; exact H) | exact H
   have j2 := Aside0.mk b5
   clear b5
   obtain ⟨h0, b4⟩ : ∃ y_ : List Int, y_ = (h1.set (a3 : Int).toNat (rd a7 a4)) := ⟨_, rfl⟩
   replace H : (slices_Reverse_int_int.l0 k1 h0 (wrap64 (a4 + 1)) (wrap64 (a3 - 1))) = some r := by first | (rw [b4]; with_reducible exact H) | (have H2_ := (Option.bind_some _ _).symm.trans H; rw [b4]; with_reducible exact H2_) | (have H2_ := (Option.bind_some _ _).symm.trans H; with_reducible exact H2_) | with_reducible exact H | (rw [b4]; exact H) | exact H
   have j1 := Aside0.mk b4
   clear b4
   have H' := Aside0.mk H
   clear H
   try go_wp2
   replace HO_0 := Aside0.mk (Kd.R_drew HO_0.out)
   replace HK := Aside0.mk (Kept.drew HK.out)
   replace HB := Aside0.mk (below_drew1 HB.out)
   have e6 : 0 ≤ a3 := odt
   have e2 : a3 < (a7.length : Int) := odt
   obtain ⟨h9, m3, b9⟩ := Kd.at_int (Kd.R_reads' HO_0.out).2.2 a3 e6 e2
   cases m3
   replace e6 := eq_true e6
   replace e2 := eq_true e2
   have e5 : 0 ≤ a4 := odt
   have e1 : a4 < (a7.length : Int) := odt
   obtain ⟨h8, m2, b8⟩ := Kd.at_int (Kd.R_reads' HO_0.out).2.2 a4 e5 e1
   obtain rfl : h9 = h8 := (by injection m2)
   replace e5 := eq_true e5
   replace e1 := eq_true e1
   have p8 : 0 ≤ a4 := odt
   have q8 : (a4 : Int) < ((a7.length : Int) : Int) := odt
   obtain ⟨go8, p1, eo8, j7, gl8, cl8, HG8⟩ := Kd.R_form HO_0.out (by omega)
   (first | cases eo8 | (injection eo8 with ea_ en_ ec_; (first | subst ea_ | (injection ea_ with ea_; subst ea_)); subst ec_; clear en_))
   have GB8 := Aside0.mk j7
   have GG8 := Aside0.mk HG8
   clear j7 gl8 HG8
   have HMgo8 := Aside0.mk (show (P0_ go8 ∨ w.heap.size ≤ go8) from (HO_0.out.1 _ rfl))
   (first | simp only [add_plain] at b9 | skip)
   (first | simp only [add_plain] at b8 | skip)
   obtain ⟨h7, hf8_0⟩ := Kd.R_celln 0 HO_0.out (a4 : Int) p8 q8
   replace p8 := eq_true p8
   replace q8 := eq_true q8
   have HP11 := Kd.R_putn HO_0.out (a4 : Int) (rd a7 a3)
   rw [← j2.out] at HP11
   have HQ11 := Aside0.mk HP11
   clear HP11
   have p9 : 0 ≤ a3 := odt
   have q9 : (a3 : Int) < ((a7.length : Int) : Int) := odt
   obtain ⟨h6, hf9_0⟩ := Kd.R_celln 0 HQ11.out (a3 : Int) p9 q9
   replace p9 := eq_true p9
   replace q9 := eq_true q9
   have HP12 := Kd.R_putn HQ11.out (a3 : Int) (rd a7 a4)
   rw [← j1.out] at HP12
   have HQ12 := Aside0.mk HP12
   clear HP12
   refine start_ (n := 16) (S := fun w' => w'.cell? ⟨go8, (a3).toNat, none⟩ = some (.int .i64 (rd a7 a3)) ∧ w'.cell? ⟨go8, (a4).toNat, none⟩ = some (.int .i64 (rd a7 a4))) (ds := [13, 15]) #[false, false, false, false, false, false, false, false, false, false, false, false, false, false, false, false] (by kernel_rfl) rfl rfl ⟨b9, b8⟩ (fun hHeld => ?_); refine with_tabW slices_Reverse_int_int.tab3 slices_Reverse_int_int.bits3 (fun HT_ HW_ => ?_)
   generalize wr.drew = p0 at HO_0 HK HB GG8 HQ11 HQ12 hf8_0 hf9_0 b9 b8 h7 h6 hHeld ⊢
   refine pu 0 14 (bits 16 0x1) HT_ (h := ?_)
   refine pu 1 15 (bits 16 0x3) HT_ (h := ?_)
   refine pu 2 16 (bits 16 0x7) HT_ (h := ?_)
   refine pu 3 17 (bits 16 0xf) HT_ (h := ?_)
   refine pu 4 18 (bits 16 0x1f) HT_ (h := ?_)
   refine pu 5 19 (bits 16 0x3f) HT_ (h := ?_)
   refine pu 6 20 (bits 16 0x7f) HT_ (h := ?_)
   refine pu 8 22 (bits 16 0x17f) HT_ (h := ?_)
   refine pu 9 23 (bits 16 0x37f) HT_ (h := ?_)
   refine pu 10 24 (bits 16 0x77f) HT_ (h := ?_)
   refine tk 7 21 (bits 16 0x7ff) HT_ HW_ hHeld (hy := by rintro w' ⟨s0, s1⟩; go_simp; with_reducible rfl) (h := ?_)
   refine tk 11 25 (bits 16 0xfff) HT_ HW_ hHeld (hy := by rintro w' ⟨s0, s1⟩; go_simp; with_reducible rfl) (h := ?_)
   refine pu 12 26 (bits 16 0x1fff) HT_ (h := ?_)
   refine last_ (i := 13) (N := none) #[true, true, true, true, true, true, true, true, true, true, true, true, true, true, false, false] rfl rfl (one_of HT_.out (by kernel_rfl)) (by decide) (fun K hK => ?_)
   refine skip_ (w1 := ?_) (by rfl) rfl ?_ ?_
   rotate_left
   ·go_simp
    rfl
   refine hK.out _ _ ?_
   clear hK K
   refine pu 14 27 (bits 16 0x7fff) HT_ (h := ?_)
   refine last_ (i := 15) (N := none) #[true, true, true, true, true, true, true, true, true, true, true, true, true, true, true, true] rfl rfl (one_of HT_.out (by kernel_rfl)) (by decide) (fun K hK => ?_)
   refine skip_ (w1 := ?_) (by rfl) rfl ?_ ?_
   rotate_left
   ·go_simp
    rfl
   refine hK.out _ _ ?_
   clear hK K
   refine done_ (done_of HT_.out (by kernel_rfl)) ?_
   try go_wp2
   (try simp only [← b6])
   go_roundg k1
   case measure => have := c1.out; omega
   case rel => exact ⟨(h0), (wrap64 (a4 + 1)), (wrap64 (a3 - 1)), eqs, eqs, H', ⟨by have := c1.out; omega⟩, ⟨by (try simp only [b6]); (with_reducible repeat (first | apply Kd.R_alloc | apply Kd.R_drewN | apply Kd.R_drew)); exact HQ12.out⟩, ⟨by repeat (first | (with_reducible first | exact HK.out | apply Kept.alloc | apply Kept.drewN | apply Kept.drew | refine Kept.setCell ?_ HMgo8.out _ | refine Kept.setCell ?_ HMgo8.out _) | exact HK.out)⟩, ⟨bb HB⟩⟩
def types_line.l0 : Nat → Int → List Int → List (S96) → List (S101) → Option (List Int)
 | 0, _, _, _, _ => none
 | k + 1, x1, x5, b7, g8 => if x1 ≥ 0 then (if x5.length < 17592186044416 then (if 0 ≤ x1 then (if x1 < (b7.length : Int) then (types_line.l0 k ((rd_T96 b7 x1).f1) (x5 ++ [x1]) b7 g8) else (none)) else (none)) else (none)) else ((slices_Reverse_int_int.f k x5).bind fun h2 => (some h2))
def types_line.f (k : Nat) (a5 : List (S96)) (a8 : List (S101)) (a1 : Int) : Option (List Int) := types_line.l0 k a1 ([] : List Int) a5 a8
theorem types_line.mono_l : ∀ k, (∀ y0 y1 y2 y3, LeO (types_line.l0 k y0 y1 y2 y3) (types_line.l0 (k + 1) y0 y1 y2 y3))
 | 0 => by (intros; intro r h; simp [types_line.l0] at h)
 | k + 1 => by
  have ih0 := types_line.mono_l k
  (intros; first | unfold types_line.l0)
  all_goals with_reducible repeat' first | exact ih0 .. | exact slices_Reverse_int_int.mono .. | exact LeO.refl _ | exact LeO.none _ | refine LeO.ite ?_ ?_ | refine LeO.bind ?_ fun _ => ?_
theorem types_line.mono : ∀ a0 a1 a2 k, LeO (types_line.f k a0 a1 a2) (types_line.f (k + 1) a0 a1 a2) := by
 intro a0 a1 a2 k
 have ih0 := types_line.mono_l k
 unfold types_line.f
 with_reducible repeat' first | exact ih0 .. | exact slices_Reverse_int_int.mono .. | exact LeO.refl _ | exact LeO.none _ | refine LeO.ite ?_ ?_ | refine LeO.bind ?_ fun _ => ?_
theorem types_line.calls (k : Nat) (d0 : Option Addr) (c8 : Nat) (a5 : List (S96)) (c9 : Option Addr) (c2 : Nat) (a8 : List (S101)) (a1 : Int) (r : List Int) (w : World) (g4 : Kd.C k96 w d0 a5.length a5) (g6 : a5.length ≤ c8) (g3 : Kd.C k101 w c9 a8.length a8) (g5 : a8.length ≤ c2) (h : types_line.f k a5 a8 a1 = some r) :
  Calls Tryz.prog 97 #[.agg #[.slice d0 a5.length c8, .slice c9 a8.length c2], .int .i64 a1] w fun e w' => ∃ j5 : Value, e = .returned (j5) ∧ Kd.R (Kd.int .i64) 3 w' w.heap.size (fun _ => True) j5 r ∧ Below w.heap.size w w' := by
 have hu31 := Tryz.underlying31
 have j3 := Aside0.mk g4
 have o6 := Aside0.mk g6
 clear g4 g6
 have o4 := Aside0.mk g3
 have o5 := Aside0.mk g5
 clear g3 g5
 have HB := Aside0.mk (Below.refl w.heap.size w)
 have H : (types_line.l0 k a1 ([] : List Int) a5 a8) = some r := h
 clear h
 have H' := Aside0.mk H
 clear H
 go_enter Tryz.func97, Tryz.ntmps97
 go_wp2_with (first | ((with_reducible refine gate_dst (N := 2) rfl ?_); refine be 2 #[.slice d0 a5.length c8, .slice c9 a8.length c2] 31 ?_; intro g7 hg w3 hbox hb; have a9 := Aside0.mk (hbox); have o7 := bsz HB hg; replace HB := bstep HB hb; clear hb hbox hg))
 go_loopg [1, 5] k (fun kq v1 v5 w' => ∃ (a6 : Int) (b1 : List Int), v1 = .int .i64 a6 ∧ Aside0 (types_line.l0 kq a6 b1 a5 a8 = some r) ∧ Aside0 (kq ≤ k) ∧ Aside0 (Kd.R (Kd.int .i64) 3 w' w.heap.size (fun _ => True) v5 b1) ∧ Aside0 (w'.heap[g7]? = some (.cells #[(.slice d0 a5.length c8), (.slice c9 a8.length c2)] 31 (0, 0))) ∧ Aside0 (Below w.heap.size w w'))
 case atStart => exact ⟨(a1), (([] : List Int)), eqs, H', ⟨Nat.le_refl _⟩, ⟨by first | exact Kd.R_nil _ _ _ _ _ | exact Kd.N_nil _ _ _ _ _ | exact Kd.V_nil _ _ _ _ _ | exact Kd.Q_nil _ _ _ _ _ | exact Kd.S_nil _ _ _ _ _⟩, ⟨bk a9⟩, ⟨bb HB⟩⟩
 case round =>
  clear H'
  obtain ⟨a6, b1, rfl, HA, c1, HO_5, a9, HB⟩ := hrel
  cases gk with
  | zero => exact absurd HA.out (by simp [types_line.l0])
  | succ k1 =>
   have H := HA.out
   clear HA
   simp only [types_line.l0] at H
   by_cases c4 : a6 ≥ 0
   rotate_left
   ·rw [if_neg c4] at H
    have g0 : decide (0 ≤ a6) = false := decide_eq_false c4
    clear c4
    obtain ⟨h2, o1, H⟩ := obA H
    obtain rfl := Option.some.inj H
    obtain ⟨g2, e8, eo11⟩ := Kd.R_slice HO_5.out
    subst eo11
    go_wp2_with (first | ((with_reducible refine gate_callee (f := 114) rfl ?_); refine gl 19 Tryz.func114 #[.slice g2 b1.length e8] (h := ?_); (with_reducible refine (slices_Reverse_int_int.calls _ (fun k_ => some k_ = (.slice g2 b1.length e8 : Value).ownBlock) (.slice g2 b1.length e8) _ _ w _ (bb HB) (Kd.R_tight rfl HO_5.out) o1.out).mono ?_); rintro e o9 ⟨rfl, j6, hb, hkp⟩; refine ⟨_, rfl, ?_⟩; replace a9 := Aside0.mk (blk_kept (bk a9) hkp (fun hs_ => (fun e_ => (Kd.R_ne HO_5.out a9.out (by decide)) e_) hs_)); replace HO_5 := Aside0.mk (Kd.R_reok rfl j6 (fun k_ e_ => HO_5.out.1 k_ e_)); replace HB := Aside0.mk (hb); clear hb hkp j6))
    go_ret
    exact ⟨_, erf, kR HO_5, bb HB⟩
   rw [if_pos c4] at H
   have g0 : decide (0 ≤ a6) = true := decide_eq_true c4
   clear c4
   obtain ⟨c5, H⟩ := itn H
   have m8 := Aside0.mk c5
   clear c5
   obtain ⟨g9, b3⟩ : ∃ y_ : List Int, y_ = (b1 ++ [a6]) := ⟨_, rfl⟩
   replace H : (if 0 ≤ a6 then (if a6 < (a5.length : Int) then (types_line.l0 k1 ((rd_T96 a5 a6).f1) g9 a5 a8) else (none)) else (none)) = some r := by first | (rw [b3]; with_reducible exact H) | (have H2_ := (Option.bind_some _ _).symm.trans H; rw [b3]; with_reducible exact H2_) | (have H2_ := (Option.bind_some _ _).symm.trans H; with_reducible exact H2_) | with_reducible exact H | (rw [b3]; exact H) | exact H
   have j0 := Aside0.mk b3
   clear b3
   obtain ⟨c6, H⟩ := itn H
   have e9 := decide_eq_true c6
   clear c6
   obtain ⟨c7, H⟩ := itn H
   have m5 := decide_eq_true c7
   clear c7
   have H' := Aside0.mk H
   clear H
   go_wp2_with (first | ((with_reducible refine gate_builtin (b := .append) (xs := #[.tmp 14, .tmp 16]) rfl ?_); at_builtin; refine Kd.R_append (Kd.int .i64) (w0 := w) w.heap.size rfl (.tmp 14) (.tmp 16) 32 3 (.int .i64 0) 8 rfl Tryz.underlying32 info3 rfl (by decide) (by omega) u5 b1 a6 [.int .i64 a6] (fun _ => True) (fun _ => False) rfl rfl ?aP (fun _ hk => hk.elim) ?aF ?aO ?aB ?aS ?aL ?_; (case aP => exact rfl); (case aB => exact (bb HB)); (case aF => exact (fun _ _ => trivial)); (case aO => exact (kR HO_5)); (case aS => exact (below_size (bb HB))); (case aL => have := m8.out; omega); intro o8 w8 ho hb hg hat; rw [← j0.out] at ho; replace a9 := Aside0.mk (blk_grown (g := g7) (o := .cells #[.slice d0 a5.length c8, .slice c9 a8.length c2] 31 (0, 0)) (bk a9) hg (Kd.R_ne HO_5.out a9.out (by decide))); replace HB := Aside0.mk (hb); have j4 := Aside0.mk (ho); clear HO_5 ho hb hg hat; obtain ⟨n6, n5, n4, n3⟩ := cz2 a9; have e4 : 0 ≤ a6 := odt; have e0 : a6 < (a5.length : Int) := odt; obtain ⟨o2, o0, n8, m0, d4, d3, d2, d1, d5, d6⟩ := at_T96 j3.out a6 e4 e0; cases m0; replace d4 := hxc HB d4; replace d3 := hxc HB d3; replace d2 := hxc HB d2; replace d1 := hxc HB d1; have n0 := Aside0.mk d6; have n1 := Aside0.mk d5; clear d6 d5; replace e4 := eq_true e4; replace e0 := eq_true e0))
   go_roundg k1
   case measure => have := c1.out; omega
   case rel => exact ⟨((rd_T96 a5 a6).f1), (g9), eqs, H', ⟨by have := c1.out; omega⟩, ⟨kR j4⟩, ⟨bk a9⟩, ⟨bb HB⟩⟩
def types_is.f (k : Nat) (a5 : List (S96)) (a4 : List (S101)) (a1 : Int) (a2 : Int) : Option (Bool) := (types_line.f k a5 a4 a1).bind fun a6 => ((slices_Contains_int_int.f k a6 a2).bind fun a7 => (some a7))
theorem types_is.mono : ∀ a0 a1 a2 a3 k, LeO (types_is.f k a0 a1 a2 a3) (types_is.f (k + 1) a0 a1 a2 a3) := by
 intro a0 a1 a2 a3 k
 unfold types_is.f
 with_reducible repeat' first | exact slices_Contains_int_int.mono .. | exact types_line.mono .. | exact LeO.refl _ | exact LeO.none _ | refine LeO.ite ?_ ?_ | refine LeO.bind ?_ fun _ => ?_
theorem types_is.calls (k : Nat) (b3 : Option Addr) (a9 : Nat) (a5 : List (S96)) (b2 : Option Addr) (a8 : Nat) (a4 : List (S101)) (a1 : Int) (a2 : Int) (r : Bool) (w : World) (b5 : Kd.C k96 w b3 a5.length a5) (b7 : a5.length ≤ a9) (b4 : Kd.C k101 w b2 a4.length a4) (b6 : a4.length ≤ a8) (h : types_is.f k a5 a4 a1 a2 = some r) :
  Calls Tryz.prog 80 #[.agg #[.slice b3 a5.length a9, .slice b2 a4.length a8], .int .i64 a1, .int .i64 a2] w fun e w' => e = .returned (.bool r) ∧ Below w.heap.size w w' := by
 have hu31 := Tryz.underlying31
 have c1 := Aside0.mk b5
 have c3 := Aside0.mk b7
 clear b5 b7
 have c0 := Aside0.mk b4
 have c2 := Aside0.mk b6
 clear b4 b6
 have HB := Aside0.mk (Below.refl w.heap.size w)
 have H : ((types_line.f k a5 a4 a1).bind fun a6 => ((slices_Contains_int_int.f k a6 a2).bind fun a7 => (some a7))) = some r := h
 clear h
 obtain ⟨a6, A4, H⟩ := obA H
 obtain ⟨a7, A5, H⟩ := obA H
 obtain rfl := Option.some.inj H
 go_enter Tryz.func80, Tryz.ntmps80
 go_wp2_with (first | ((with_reducible refine gate_dst (N := 3) rfl ?_); refine be 3 #[.slice b3 a5.length a9, .slice b2 a4.length a8] 31 ?_; intro d1 hg w6 hbox hb; have b1 := Aside0.mk (hbox); have d2 := bsz HB hg; replace HB := bstep HB hb; clear hb hbox hg; obtain ⟨c8, c7, c6, c5⟩ := cz2 b1) | ((with_reducible refine gate_callee (f := 97) rfl ?_); refine gl 9 Tryz.func97 #[.agg #[.slice b3 a5.length a9, .slice b2 a4.length a8], .int .i64 a1] (h := ?_); (with_reducible refine (types_line.calls _ _ _ _ _ _ _ _ _ _ (cb c1 HB) c3.out (cb c0 HB) c2.out A4.out).mono ?_); rintro e w8 ⟨d3, rfl, c4, hb⟩; refine ⟨_, rfl, ?_⟩; have b0 := Aside0.mk (Kd.R_lower c4 (below_size (bb HB))); replace b1 := bkb b1 hb; replace HB := bstep HB hb; clear hb c4; obtain ⟨d0, c9, eo9⟩ := Kd.R_slice b0.out; subst eo9) | ((with_reducible refine gate_callee (f := 73) rfl ?_); refine gl 11 Tryz.func73 #[.slice d0 a6.length c9, .int .i64 a2] (h := ?_); (with_reducible refine (slices_Contains_int_int.calls _ _ _ _ _ _ _ ?b9 ?b8 A5.out).mono ?_); (case b9 => repeat (first | exact (Kd.R_reads' b0.out).2.2 | (with_reducible refine Kd.C_alloc ?_ _) | (with_reducible refine Kd.C_drewN ?_ _) | (with_reducible refine Kd.C_drew ?_))); (case b8 => exact (Kd.R_reads' b0.out).2.1); rintro e w' ⟨rfl, ⟨nd, rfl⟩⟩; refine ⟨_, rfl, ?_⟩))
 go_ret
 exact ⟨erf, bb HB⟩
def cmp_Or_int.l0 : Nat → Int → List Int → Int → Int → Option (Int)
 | 0, _, _, _, _ => none
 | k + 1, x3, x6, x7, x8 => if x8 < x7 then (if 0 ≤ x8 then (if x8 < (x6.length : Int) then (if (rd x6 x8) = x3 then (cmp_Or_int.l0 k x3 x6 x7 (wrap64 (x8 + 1))) else (some (rd x6 x8))) else (none)) else (none)) else (some x3)
def cmp_Or_int.f (k : Nat) (l0 : List Int) : Option (Int) := cmp_Or_int.l0 k 0 l0 (l0.length : Int) 0
theorem cmp_Or_int.mono_l : ∀ k, (∀ y0 y1 y2 y3, LeO (cmp_Or_int.l0 k y0 y1 y2 y3) (cmp_Or_int.l0 (k + 1) y0 y1 y2 y3))
 | 0 => by (intros; intro r h; simp [cmp_Or_int.l0] at h)
 | k + 1 => by
  have ih0 := cmp_Or_int.mono_l k
  (intros; first | unfold cmp_Or_int.l0)
  all_goals with_reducible repeat' first | exact ih0 .. | exact LeO.refl _ | exact LeO.none _ | refine LeO.ite ?_ ?_ | refine LeO.bind ?_ fun _ => ?_
theorem cmp_Or_int.mono : ∀ a0 k, LeO (cmp_Or_int.f k a0) (cmp_Or_int.f (k + 1) a0) := by
 intro a0 k
 have ih0 := cmp_Or_int.mono_l k
 unfold cmp_Or_int.f
 with_reducible repeat' first | exact ih0 .. | exact LeO.refl _ | exact LeO.none _ | refine LeO.ite ?_ ?_ | refine LeO.bind ?_ fun _ => ?_
theorem cmp_Or_int.calls (k : Nat) (A0 : Option Addr) (c0 : Nat) (l0 : List Int) (r : Int) (w : World) (d6 : Kd.C (Kd.int .i64) w A0 l0.length l0) (d7 : l0.length ≤ c0) (h : cmp_Or_int.f k l0 = some r) :
  Calls Tryz.prog 85 #[.slice A0 l0.length c0] w fun e w' => e = .returned (.int .i64 r) ∧ Drawn0 w w' := by
 have h2 := Aside0.mk d6
 have j3 := Aside0.mk d7
 clear d6 d7
 have H : (cmp_Or_int.l0 k 0 l0 (l0.length : Int) 0) = some r := h
 clear h
 have H' := Aside0.mk H
 clear H
 go_enter Tryz.func85, Tryz.ntmps85
 go_wp2
 go_loopg [8] k (fun kq v8 w' => ∃ (b4 : Int), v8 = .int .i64 b4 ∧ Aside0 (cmp_Or_int.l0 kq 0 l0 (l0.length : Int) b4 = some r) ∧ Aside0 (kq ≤ k) ∧ Drawn0 w w')
 case atStart => exact ⟨(0), eqs, H', ⟨Nat.le_refl _⟩, drw⟩
 case round =>
  clear H'
  obtain ⟨b4, rfl, HA, d8, ⟨m1, rfl⟩⟩ := hrel
  cases gk with
  | zero => exact absurd HA.out (by simp [cmp_Or_int.l0])
  | succ k1 =>
   have H := HA.out
   clear HA
   simp only [cmp_Or_int.l0] at H
   by_cases c2 : b4 < (l0.length : Int)
   rotate_left
   ·rw [if_neg c2] at H
    have e3 := decide_eq_false c2
    clear c2
    obtain rfl := Option.some.inj H
    go_wp2
    go_ret
    exact ⟨by first | rfl | (simp; done) | (simp [*]; done), drw⟩
   rw [if_pos c2] at H
   have e3 := decide_eq_true c2
   clear c2
   obtain ⟨c3, H⟩ := itn H
   have j2 := decide_eq_true c3
   clear c3
   obtain ⟨c4, H⟩ := itn H
   have j1 := decide_eq_true c4
   clear c4
   by_cases c5 : (rd l0 b4) = 0
   rw [if_pos c5] at H
   have e2 := beq_iff_eq.mpr c5
   have e1 := bne_eq_false_iff_eq.mpr c5
   clear c5
   have H' := Aside0.mk H
   clear H
   rotate_left
   rw [if_neg c5] at H
   have e2 := beq_eq_false_iff_ne.mpr c5
   have e1 := bne_iff_ne.mpr c5
   obtain rfl := Option.some.inj H
   all_goals
    have d2 : 0 ≤ b4 := odt
    have d1 : b4 < (l0.length : Int) := odt
    obtain ⟨h5, d9, e5⟩ := Kd.at_int h2.out b4 d2 d1
    cases d9
    replace d2 := eq_true d2
    replace d1 := eq_true d1
    go_wp2
   ·go_ret
    exact ⟨by first | rfl | (simp; done) | (simp [*]; done), drw⟩
   ·go_roundg k1
    case measure => have := d8.out; omega
    case rel => exact ⟨(wrap64 (b4 + 1)), eqs, H', ⟨by have := d8.out; omega⟩, drw⟩
def statistic_compare.f (k : Nat) (b3 : Int) (b2 : Int) (b1 : Int) (c1 : Int) (b0 : Int) (a9 : Int) (a8 : Int) (b9 : Int) : Option (Int) := (cmp_Or_int.f k (([wrap64 (b3 - b0), wrap64 (b2 - a9), wrap64 (b1 - a8)] : List Int))).bind fun b6 => (some b6)
theorem statistic_compare.mono : ∀ a0 a1 a2 a3 a4 a5 a6 a7 k, LeO (statistic_compare.f k a0 a1 a2 a3 a4 a5 a6 a7) (statistic_compare.f (k + 1) a0 a1 a2 a3 a4 a5 a6 a7) := by
 intro a0 a1 a2 a3 a4 a5 a6 a7 k
 unfold statistic_compare.f
 with_reducible repeat' first | exact cmp_Or_int.mono .. | exact LeO.refl _ | exact LeO.none _ | refine LeO.ite ?_ ?_ | refine LeO.bind ?_ fun _ => ?_
theorem statistic_compare.calls (k : Nat) (b3 : Int) (b2 : Int) (b1 : Int) (c1 : Int) (b0 : Int) (a9 : Int) (a8 : Int) (b9 : Int) (r : Int) (w : World) (h : statistic_compare.f k b3 b2 b1 c1 b0 a9 a8 b9 = some r) :
  Calls Tryz.prog 58 #[.agg #[.int .i64 b3, .int .i64 b2, .int .i64 b1, .int .i64 c1], .agg #[.int .i64 b0, .int .i64 a9, .int .i64 a8, .int .i64 b9]] w fun e w' => e = .returned (.int .i64 r) ∧ Below w.heap.size w w' := by
 have hu75 := Tryz.underlying75
 have HB := Aside0.mk (Below.refl w.heap.size w)
 have H : ((cmp_Or_int.f k (([wrap64 (b3 - b0), wrap64 (b2 - a9), wrap64 (b1 - a8)] : List Int))).bind fun b6 => (some b6)) = some r := h
 clear h
 obtain ⟨d0, b7⟩ : ∃ y_ : List Int, y_ = (([wrap64 (b3 - b0), wrap64 (b2 - a9), wrap64 (b1 - a8)] : List Int)) := ⟨_, rfl⟩
 replace H : ((cmp_Or_int.f k d0).bind fun b6 => (some b6)) = some r := by first | (rw [b7]; with_reducible exact H) | (have H2_ := (Option.bind_some _ _).symm.trans H; rw [b7]; with_reducible exact H2_) | (have H2_ := (Option.bind_some _ _).symm.trans H; with_reducible exact H2_) | with_reducible exact H | (rw [b7]; exact H) | exact H
 have d3 := Aside0.mk b7
 clear b7
 obtain ⟨b6, A3, H⟩ := obA H
 obtain rfl := Option.some.inj H
 go_enter Tryz.func58, Tryz.ntmps58
 go_wp2_with (first | ((with_reducible refine gate_dst (N := 2) rfl ?_); refine be 2 #[.int .i64 b3, .int .i64 b2, .int .i64 b1, .int .i64 c1] 75 ?_; intro h4 hg w4 hbox hb; have b5 := Aside0.mk (hbox); have h7 := bsz HB hg; replace HB := bstep HB hb; clear hb hbox hg) | ((with_reducible refine gate_dst (N := 3) rfl ?_); refine be 3 #[.int .i64 b0, .int .i64 a9, .int .i64 a8, .int .i64 b9] 75 ?_; intro h3 hg w5 hbox hb; have c7 := Aside0.mk (hbox); have h6 := bsz HB hg; replace HB := bstep HB hb; have c9 := blt b5 hg; have c8 := bgt b5 hg; replace b5 := bkb b5 hb; clear hb hbox hg; have j0 := c9.out; have h9 := c8.out; obtain ⟨h1, h0, g9, g8, g3, g2, g1, g0⟩ := cz4 b5; obtain ⟨g7, g6, g5, g4, e9, e8, e7, e6⟩ := cz4 c7) | ((with_reducible refine gate_dst (N := 20) rfl ?_); refine Kd.R_lit (Kd.int .i64) _ 3 ?hg (N := 20) ?hd (xs := ([wrap64 (b3 - b0), wrap64 (b2 - a9), wrap64 (b1 - a8)] : List Int)) (inner := [.int .i64 (wrap64 (b3 - b0)), .int .i64 (wrap64 (b2 - a9)), .int .i64 (wrap64 (b1 - a8))]) (ok := fun _ => True) (okp := fun _ => True) ?hr ?hp (fun _ hk => hk) trivial (Below.refl _ _) (Nat.le_refl _) (by simp) ?_; (case hd => rfl); (case hg => rfl); (case hr => first | (go_simp; done) | (go_simp; rfl)); (case hp => exact (Reps.one (show Kd.M (Kd.int .i64) _ _ _ (wrap64 (b3 - b0)) [.int .i64 (wrap64 (b3 - b0))] from rfl) (Reps.one (show Kd.M (Kd.int .i64) _ _ _ (wrap64 (b2 - a9)) [.int .i64 (wrap64 (b2 - a9))] from rfl) (Reps.one (show Kd.M (Kd.int .i64) _ _ _ (wrap64 (b1 - a8)) [.int .i64 (wrap64 (b1 - a8))] from rfl) (Reps.none _ _))))); intro h8 w9 b8 hb hg_ hnew_; clear hg_ hnew_; (first | rw [← d3.out] at b8 | (simp only [Int.reduceToNat] at b8; rw [← d3.out] at b8)); have c6 := Aside0.mk (Kd.R_lower b8 (below_size (bb HB))); replace b5 := bkb b5 hb; replace c7 := bkb c7 hb; replace HB := bstep HB hb; clear hb b8; obtain ⟨e4, e0, eo11⟩ := Kd.R_slice c6.out; subst eo11) | ((with_reducible refine gate_callee (f := 85) rfl ?_); refine gl 21 Tryz.func85 #[.slice e4 d0.length e0] (h := ?_); (with_reducible refine (cmp_Or_int.calls k _ _ d0 b6 _ ?d5 ?d4 A3.out).mono ?_); (case d5 => repeat (first | exact (Kd.R_reads' c6.out).2.2 | (with_reducible refine Kd.C_alloc ?_ _) | (with_reducible refine Kd.C_drewN ?_ _) | (with_reducible refine Kd.C_drew ?_))); (case d4 => exact (Kd.R_reads' c6.out).2.1); rintro e w' ⟨rfl, ⟨nd, rfl⟩⟩; refine ⟨_, rfl, ?_⟩))
 go_ret
 exact ⟨erf, bb HB⟩

end Go.Proofs.YtfpianecohobjaaGreat.P
