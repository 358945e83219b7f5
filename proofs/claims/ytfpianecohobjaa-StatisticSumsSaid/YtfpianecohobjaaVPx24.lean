/- StatisticOf: a part of its proof. No condition. -/
import Derived.Test.YtfpianecohobjaaVPx0
namespace Go.Proofs.Ytfpianecohobjaa.P
open Go.RowKit Go.Proofs.YtfpianecohobjaaW.PrintWords Go.Proofs.YtfpianecohobjaaW.PrintLast Go.Proofs.YtfpianecohobjaaW.PrintMore
set_option maxHeartbeats 8000000
set_option maxRecDepth 100000
set_option linter.unusedVariables false
set_option linter.unusedSimpArgs false
theorem u8t (y m : Int) : (IntKind.u8.wrap y).tmod m = (y % 256) % m := by
 have h : IntKind.u8.wrap y = y % 256 := by simp [IntKind.wrap, IntKind.bits, IntKind.signed]
 rw [h, Int.tmod_eq_emod_of_nonneg (Int.emod_nonneg _ (by decide))]
attribute [local go_sem] u8t
mutual
def q4_Made.l0 : Nat → List (S81) → List (S81) → Int → List (S68) → Option ((List (S68)) × (List (S71)))
 | 0, _, _, _, _ => none
 | k + 1, x0, x1, x6, c2 => if x6 = 0 then (q4_Made.j1 k x0 x1 x6 true c2) else (if x6 < (x0.length : Int) then (q4_Made.j1 k x0 x1 x6 (decide (x6 < 6)) c2) else (q4_Made.j1 k x0 x1 x6 false c2))
def q4_Made.j1 : Nat → List (S81) → List (S81) → Int → Bool → List (S68) → Option ((List (S68)) × (List (S71)))
 | 0, _, _, _, _, _ => none
 | k + 1, x0, x1, x6, U2, c2 => if U2 = true then (if x6 < (x0.length : Int) then (if 0 ≤ x6 then (q4_Made.j2 k x0 x1 x6 c2 ((rd_T81 x0 x6).f0) ((rd_T81 x0 x6).f1)) else (none)) else (q4_Made.j2 k x0 x1 x6 c2 0 0)) else (q4_Made.l1 k x1 0 c2 ([] : List (S71)))
def q4_Made.j2 : Nat → List (S81) → List (S81) → Int → List (S68) → Int → Int → Option ((List (S68)) × (List (S71)))
 | 0, _, _, _, _, _, _ => none
 | k + 1, x0, x1, x6, c2, d7, h7 => if 0 ≤ x6 then (if x6 ≤ (wrap64 (x6 + 1)) then (if (wrap64 (x6 + 1)) ≤ 6 then (if (wrap64 (x6 + 1)) = 0 then (none) else (if (Int.tmod h7 4) = 1 then (if c2.length < 2513169434916 then (q4_Made.l0 k x0 x1 (wrap64 (x6 + 1)) (c2 ++ [(⟨(⟨#[65, 66, 67, 68, 69, 70]⟩ : ByteArray).extract (x6 : Int).toNat ((wrap64 (x6 + 1)) : Int).toNat, wrap64 ((Int.tmod (wrap64 (d7)) (wrap64 (x6 + 1))) - 1), (((Int.tdiv d7 16) % 4) == 3), (([(⟨(⟨#[117, 118, 119, 120, 121, 122]⟩ : ByteArray).extract (x6 : Int).toNat ((wrap64 (x6 + 1)) : Int).toNat, (-3), 3 + (((Int.tdiv h7 4) % 256) % 9), ([] : List ByteArray)⟩ : S77)] : List (S77)))⟩ : S68)])) else (none)) else (if (Int.tmod h7 4) = 2 then (if c2.length < 2513169434916 then (q4_Made.l0 k x0 x1 (wrap64 (x6 + 1)) (c2 ++ [(⟨(⟨#[65, 66, 67, 68, 69, 70]⟩ : ByteArray).extract (x6 : Int).toNat ((wrap64 (x6 + 1)) : Int).toNat, wrap64 ((Int.tmod (wrap64 (d7)) (wrap64 (x6 + 1))) - 1), (((Int.tdiv d7 16) % 4) == 3), (([(⟨(⟨#[117, 118, 119, 120, 121, 122]⟩ : ByteArray).extract (x6 : Int).toNat ((wrap64 (x6 + 1)) : Int).toNat, 0, 1, (([(⟨#[111, 102, 102]⟩ : ByteArray), (⟨#[111, 110]⟩ : ByteArray)] : List ByteArray))⟩ : S77)] : List (S77)))⟩ : S68)])) else (none)) else (if c2.length < 2513169434916 then (q4_Made.l0 k x0 x1 (wrap64 (x6 + 1)) (c2 ++ [(⟨(⟨#[65, 66, 67, 68, 69, 70]⟩ : ByteArray).extract (x6 : Int).toNat ((wrap64 (x6 + 1)) : Int).toNat, wrap64 ((Int.tmod (wrap64 (d7)) (wrap64 (x6 + 1))) - 1), (((Int.tdiv d7 16) % 4) == 3), ([] : List (S77))⟩ : S68)])) else (none))))) else (none)) else (none)) else (none)
def q4_Made.l1 : Nat → List (S81) → Int → List (S68) → List (S71) → Option ((List (S68)) × (List (S71)))
 | 0, _, _, _, _ => none
 | k + 1, x1, e1, c2, e3 => if e1 < (x1.length : Int) then (if e1 < 5 then (if 0 ≤ e1 then (if e1 ≤ (wrap64 (e1 + 1)) then (if (wrap64 (e1 + 1)) ≤ 5 then (if (c2.length : Int) = 0 then (none) else (if e3.length < 2199023255552 then (q4_Made.l1 k x1 (wrap64 (e1 + 1)) c2 (e3 ++ [(⟨(⟨#[101, 102, 103, 104, 105]⟩ : ByteArray).extract (e1 : Int).toNat ((wrap64 (e1 + 1)) : Int).toNat, Int.tmod (wrap64 ((rd_T81 x1 e1).f0)) (c2.length : Int), Int.tmod (wrap64 ((rd_T81 x1 e1).f1)) (c2.length : Int), 0, (-1), 0, (-1)⟩ : S71)])) else (none))) else (none)) else (none)) else (none)) else (some (c2, e3))) else (some (c2, e3))
end
def q4_Made.f (k : Nat) (l0 : List (S81)) (l1 : List (S81)) : Option ((List (S68)) × (List (S71))) := q4_Made.l0 k l0 l1 0 ([] : List (S68))
def q4_Made.T8 : Bool × List (List Nat × List Nat) := (true, [([], []), ([], []), ([1], [1]), ([0, 2], [0, 2]), ([], []), ([4], [4]), ([5], [5]), ([], []), ([7], [7]), ([6, 8], [6, 8]), ([9], [9]), ([], []), ([11], [11]), ([12], [12]), ([13], [13]), ([14], [14]), ([3, 10, 15], [3, 10, 15]), ([], []), ([17, 16, 0, 1, 2, 3, 4, 5, 6, 7, 8, 9, 10, 11, 12, 13, 14, 15, 16, 17], [16, 17])])
def q4_Made.B8 : List Nat := [0, 0, 2, 7, 0, 16, 48, 0, 128, 496, 1008, 0, 2048, 6144, 14336, 30720, 65535, 0, 262143]
theorem q4_Made.tab8 : rtab .any (opsOf Try.f22 8) = q4_Made.T8 := by kernel_rfl
theorem q4_Made.bits8 : waitsOk q4_Made.T8.2 q4_Made.B8 = true := by kernel_rfl
def q4_Made.T20 : Bool × List (List Nat × List Nat) := (true, [([], []), ([0], [0]), ([], []), ([], []), ([3], [3]), ([2, 4], [2, 4]), ([], []), ([], []), ([6, 7], [6, 7]), ([8], [8]), ([9], [9]), ([10], [10]), ([], []), ([11, 12], [11, 12]), ([], []), ([], []), ([14, 15], [14, 15]), ([16], [16]), ([17], [17]), ([18], [18]), ([], []), ([19, 20], [19, 20]), ([5, 13, 21], [5, 13, 21]), ([22], [22]), ([1, 23], [1, 23]), ([0, 1, 2, 3, 4, 5, 6, 7, 8, 9, 10, 11, 12, 13, 14, 15, 16, 17, 18, 19, 20, 21, 22, 23, 24], []), ([25, 24, 24, 0, 1, 2, 3, 4, 5, 6, 7, 8, 9, 10, 11, 12, 13, 14, 15, 16, 17, 18, 19, 20, 21, 22, 23, 24], [24, 25])])
def q4_Made.B20 : List Nat := [0, 1, 0, 0, 8, 28, 0, 0, 192, 448, 960, 1984, 0, 8128, 0, 0, 49152, 114688, 245760, 507904, 0, 2080768, 4194300, 8388604, 16777215, 33554431, 67108863]
theorem q4_Made.tab20 : rtab .any (opsOf Try.f22 20) = q4_Made.T20 := by kernel_rfl
theorem q4_Made.bits20 : waitsOk q4_Made.T20.2 q4_Made.B20 = true := by kernel_rfl
theorem q4_Made.calls (k : Nat) (A0 : Option Addr) (c0 : Nat) (l0 : List (S81)) (A1 : Option Addr) (c1 : Nat) (l1 : List (S81)) (r1 : List (S68)) (r2 : List (S71)) (w : World) (v0 : Kd.C k81 w A0 l0.length l0) (v2 : l0.length ≤ c0) (t9 : Kd.C k81 w A1 l1.length l1) (v1 : l1.length ≤ c1) (h : q4_Made.f k l0 l1 = some (r1, r2)) :
  Calls Try.prog 22 #[.slice A0 l0.length c0, .slice A1 l1.length c1] w fun e w' => ∃ t8 q1 : Value, e = .returned (.agg #[t8, q1]) ∧ Kd.N k68 68 w' w.heap.size (fun k_ => (w.heap.size ≤ k_) ∧ some k_ ≠ (q1 : Value).ownBlock) t8 r1 ∧ Kd.R k71 71 w' w.heap.size (fun k_ => (w.heap.size ≤ k_)) q1 r2 ∧ Below w.heap.size w w' := by
 have hu25 := Try.underlying25
 have hu81 := Try.underlying81
 have hu68 := Try.underlying68
 have hu77 := Try.underlying77
 have hu71 := Try.underlying71
 have W1 := Aside0.mk v0
 have HC0 := Aside0.mk v2
 clear v0 v2
 have w2 := Aside0.mk t9
 have HC1 := Aside0.mk v1
 clear t9 v1
 have HB := Aside0.mk (Below.refl w.heap.size w)
 have H : (q4_Made.l0 k l0 l1 0 ([] : List (S68))) = some (r1, r2) := h
 clear h
 have H' := Aside0.mk H
 clear H
 go_enter Try.func22, Try.ntmps22
 go_wp2_with (first | ((with_reducible refine gate_dst (N := 4) rfl ?_); (try (refine gate_guard (by rfl) ?_; dsimp only)); refine be 4 #[.slice none 0 0, .slice none 0 0] 25 ?_; intro b1 hg w3 hbox hb; have a3 := Aside0.mk (hbox); have a3c := bsz HB hg; replace HB := bstep HB hb; clear hb hbox hg) | ((with_reducible refine gate_dst (N := 5) rfl ?_); (try (refine gate_guard (by rfl) ?_; dsimp only)); refine be 5 #[.slice none 0 0, .slice none 0 0] 25 ?_; intro a9 hg w4 hbox hb; have a2 := Aside0.mk (hbox); have a3b := bsz HB hg; replace HB := bstep HB hb; have d1 := blt a3 hg; have d0 := bgt a3 hg; replace a3 := bkb a3 hb; clear hb hbox hg))
 go_loopg [6] k (fun kq v6 w' => ∃ (a1 : Int) (a4 : List (S68)) (a6 : Value), v6 = .int .i64 a1 ∧ Aside0 (q4_Made.l0 kq l0 l1 a1 a4 = some (r1, r2)) ∧ Aside0 (kq ≤ k) ∧ Aside0 (Kd.N k68 68 w' w.heap.size (fun k_ => (w.heap.size ≤ k_) ∧ k_ ≠ b1 ∧ k_ ≠ a9) a6 a4) ∧ Aside0 (w'.heap[b1]? = some (.cells #[(.slice none 0 0), (.slice none 0 0)] 25 (0, 0))) ∧ Aside0 (w'.heap[a9]? = some (.cells #[a6, (.slice none 0 0)] 25 (0, 0))) ∧ Aside0 (Below w.heap.size w w'))
 case atStart => exact ⟨(0), (([] : List (S68))), (.slice none 0 0), eqs, H', ⟨Nat.le_refl _⟩, ⟨by first | exact Kd.R_nil _ _ _ _ _ | exact Kd.N_nil _ _ _ _ _ | exact Kd.V_nil _ _ _ _ _ | exact Kd.Q_nil _ _ _ _ _ | exact Kd.S_nil _ _ _ _ _⟩, ⟨bk a3⟩, ⟨bk a2⟩, ⟨bb HB⟩⟩
 case round =>
  clear H'
  obtain ⟨a1, a4, a6, rfl, HA, e2, HO_415000, a3, a2, HB⟩ := hrel
  cases gk with
  | zero => exact absurd HA.out (by simp [q4_Made.l0])
  | succ k1 =>
   have H := HA.out
   clear HA
   simp only [q4_Made.l0] at H
   have r0 := Aside0.mk H
   clear H
   go_upto_region 3 with (fail)
   go_cut [23] (fun U5 wc => ∃ (kq : Nat) (j5 : Bool), U5 = .bool j5 ∧ Aside0 (q4_Made.j1 kq l0 l1 a1 j5 a4 = some (r1, r2)) ∧ Aside0 (kq ≤ k1) ∧ Aside0 (Kd.N k68 68 wc w.heap.size (fun k_ => (w.heap.size ≤ k_) ∧ k_ ≠ b1 ∧ k_ ≠ a9) a6 a4) ∧ Aside0 (wc.heap[b1]? = some (.cells #[(.slice none 0 0), (.slice none 0 0)] 25 (0, 0))) ∧ Aside0 (wc.heap[a9]? = some (.cells #[a6, (.slice none 0 0)] 25 (0, 0))) ∧ Aside0 (Below w.heap.size w wc))
   case first =>
    have H := r0.out
    clear r0
    by_cases c6 : a1 = 0
    rw [if_pos c6] at H
    have j9 := beq_iff_eq.mpr c6
    have A6 := bne_eq_false_iff_eq.mpr c6
    clear c6
    (first | rw [j9] | (simp only [i64_w, i32_w]; rw [j9]) | skip)
    have H' := Aside0.mk H
    clear H
    rotate_left
    rw [if_neg c6] at H
    have j9 := beq_eq_false_iff_ne.mpr c6
    have A6 := bne_iff_ne.mpr c6
    (first | rw [j9] | (simp only [i64_w, i32_w]; rw [j9]) | skip)
    by_cases c7 : a1 < (l0.length : Int)
    rw [if_pos c7] at H
    have A5 := decide_eq_true c7
    clear c7
    have H' := Aside0.mk H
    clear H
    rotate_left
    rw [if_neg c7] at H
    have A5 := decide_eq_false c7
    clear c7
    have H' := Aside0.mk H
    clear H
    all_goals
     go_wp2
     go_meet
     case rel => exact ⟨_, _, eqs, H', ⟨by have := e2.out; first | omega | exact Nat.le_refl _⟩, ⟨kN HO_415000⟩, ⟨bk a3⟩, ⟨bk a2⟩, ⟨bb HB⟩⟩
   case rest =>
    clear r0
    obtain ⟨kq, j5, rfl, HA, g4, HO_415000, a3, a2, HB⟩ := hcut
    cases kq with
    | zero => exact absurd HA.out (by simp [q4_Made.j1])
    | succ q2 =>
     have H := HA.out
     clear HA
     simp only [q4_Made.j1] at H
     by_cases c8 : j5 = true
     rotate_left
     ·replace c8 := Bool.eq_false_iff.mpr c8
      subst c8
      replace H := iff_ H
      have H' := Aside0.mk H
      clear H
      go_wp2
      go_loopg [10] q2 (fun kq U6 w' => ∃ (b3 : Int) (c3 : List (S71)) (c5 : Value), U6 = .int .i64 b3 ∧ Aside0 (q4_Made.l1 kq l1 b3 a4 c3 = some (r1, r2)) ∧ Aside0 (kq ≤ q2) ∧ Aside0 (Kd.N k68 68 w' w.heap.size (fun k_ => (w.heap.size ≤ k_) ∧ some k_ ≠ (c5 : Value).ownBlock ∧ k_ ≠ b1 ∧ k_ ≠ a9) a6 a4) ∧ Aside0 (Kd.R k71 71 w' w.heap.size (fun k_ => (w.heap.size ≤ k_)) c5 c3) ∧ Aside0 (w'.heap[b1]? = some (.cells #[(.slice none 0 0), (.slice none 0 0)] 25 (0, 0))) ∧ Aside0 (w'.heap[a9]? = some (.cells #[a6, c5] 25 (0, 0))) ∧ Aside0 (Below w.heap.size w w'))
      case atStart => exact ⟨(0), (([] : List (S71))), (.slice none 0 0), eqs, H', ⟨Nat.le_refl _⟩, ⟨kNmm HO_415000 (fun _ hk => ⟨hk.1, ⟨(by simp [Value.ownBlock]), ⟨hk.2.1, hk.2.2⟩⟩⟩)⟩, ⟨by first | exact Kd.R_nil _ _ _ _ _ | exact Kd.N_nil _ _ _ _ _ | exact Kd.V_nil _ _ _ _ _ | exact Kd.Q_nil _ _ _ _ _ | exact Kd.S_nil _ _ _ _ _⟩, ⟨bk a3⟩, ⟨bk a2⟩, ⟨bb HB⟩⟩
      case round =>
       clear H'
       try clear c8
       obtain ⟨b3, c3, c5, rfl, HA, w5, HO_415000, HO_415001, a3, a2, HB⟩ := hrel
       cases gk with
       | zero => exact absurd HA.out (by simp [q4_Made.l1])
       | succ k3 =>
        have H := HA.out
        clear HA
        simp only [q4_Made.l1] at H
        by_cases m4 : b3 < (l1.length : Int)
        rw [if_pos m4] at H
        have r7 := decide_eq_true m4
        clear m4
        by_cases m3 : b3 < 5
        ·rw [if_pos m3] at H
         have r6 := decide_eq_true m3
         clear m3
         obtain ⟨n7, H⟩ := itn H
         have W0 := eq_true n7
         have V9 := decide_eq_true n7
         clear n7
         obtain ⟨q7, H⟩ := itn H
         have V8 := eq_true q7
         have V7 := decide_eq_true q7
         obtain ⟨q6, H⟩ := itn H
         have V6 := eq_true q6
         have V5 := decide_eq_true q6
         by_cases m2 : (a4.length : Int) = 0
         ·rw [if_pos m2] at H
          exact absurd H (by simp)
         rw [if_neg m2] at H
         have V4 := beq_eq_false_iff_ne.mpr m2
         have V3 := bne_iff_ne.mpr m2
         have V2 : ¬ (a4 = []) := fun h_ => m2 (by rw [h_]; rfl)
         obtain ⟨q5, H⟩ := itn H
         have q8 := Aside0.mk q5
         clear q5
         obtain ⟨m7, g9⟩ : ∃ y_ : List (S71), y_ = (c3 ++ [(⟨(⟨#[101, 102, 103, 104, 105]⟩ : ByteArray).extract (b3 : Int).toNat ((wrap64 (b3 + 1)) : Int).toNat, Int.tmod (wrap64 ((rd_T81 l1 b3).f0)) (a4.length : Int), Int.tmod (wrap64 ((rd_T81 l1 b3).f1)) (a4.length : Int), 0, (-1), 0, (-1)⟩ : S71)]) := ⟨_, rfl⟩
         replace H : (q4_Made.l1 k3 l1 (wrap64 (b3 + 1)) a4 m7) = some (r1, r2) := by first | (rw [g9]; with_reducible exact H) | (have H2_ := (Option.bind_some _ _).symm.trans H; rw [g9]; with_reducible exact H2_) | (have H2_ := (Option.bind_some _ _).symm.trans H; with_reducible exact H2_) | with_reducible exact H | (rw [g9]; exact H) | exact H
         have s9 := Aside0.mk g9
         clear g9
         have H' := Aside0.mk H
         clear H
         have V0 := d0.out
         have U8 := d1.out
         obtain ⟨y6, y5, y0, x9⟩ := cz2 a2
         obtain ⟨p6, o2, eo107⟩ := Kd.N_slice HO_415000.out
         subst eo107
         try go_wp2
         replace HO_415000 := Aside0.mk (Kd.N_drew HO_415000.out)
         replace HO_415001 := Aside0.mk (Kd.R_drew HO_415001.out)
         replace a3 := Aside0.mk (blk_drew a3.out)
         replace a2 := Aside0.mk (blk_drew a2.out)
         replace HB := Aside0.mk (below_drew1 HB.out)
         have n5 : 0 ≤ b3 := odt
         have n2 : b3 < (l1.length : Int) := odt
         obtain ⟨e0, y8, e7, e6⟩ := at_T81 w2.out b3 n5 n2
         have g0 := e6
         have g1 := e7
         cases y8
         replace e7 := hxc HB e7
         replace e6 := hxc HB e6
         replace n5 := eq_true n5
         replace n2 := eq_true n2
         have n4 : 0 ≤ b3 := odt
         have n1 : b3 < (l1.length : Int) := odt
         obtain ⟨s8, y7, e5, e4⟩ := at_T81 w2.out b3 n4 n1
         have e8 := e4
         have e9 := e5
         obtain rfl : e0 = s8 := (by injection y7)
         replace e5 := hxc HB e5
         replace e4 := hxc HB e4
         replace n4 := eq_true n4
         replace n1 := eq_true n1
         refine start_ (n := 27) (S := fun w' => w'.cell? ⟨a9, 0, none⟩ = some (.slice p6 a4.length o2) ∧ w'.cell? ⟨a9, 1, none⟩ = some (c5) ∧ w'.cell? (e0.add ((b3).toNat * 2)) = some (.int .u8 ((rd_T81 l1 b3).f0)) ∧ w'.cell? ⟨(e0.add ((b3).toNat * 2)).block, (e0.add ((b3).toNat * 2)).off + 1, none⟩ = some (.int .u8 ((rd_T81 l1 b3).f1)) ∧ w'.cell? (e0.add ((b3).toNat * 2)) = some (.int .u8 ((rd_T81 l1 b3).f0)) ∧ w'.cell? ⟨(e0.add ((b3).toNat * 2)).block, (e0.add ((b3).toNat * 2)).off + 1, none⟩ = some (.int .u8 ((rd_T81 l1 b3).f1))) (ds := [26]) #[false, false, false, false, false, false, false, false, false, false, false, false, false, false, false, false, false, false, false, false, false, false, false, false, false, false, false] (by kernel_rfl) rfl rfl ⟨bc a2 0, bc a2 1, (hxc HB g1), (hxc HB g0), (hxc HB e9), (hxc HB e8)⟩ (fun hHeld => ?_); refine with_tabW q4_Made.tab20 q4_Made.bits20 (fun HT_ HW_ => ?_)
         generalize wr.drew = a3d at HO_415000 HO_415001 a3 a2 HB e7 e6 e5 e4 hHeld ⊢
         refine pu 0 97 (bits 27 0x1) HT_ (h := ?_)
         refine pu 2 99 (bits 27 0x5) HT_ (h := ?_)
         refine pu 3 100 (bits 27 0xd) HT_ (h := ?_)
         refine pu 4 101 (bits 27 0x1d) HT_ (h := ?_)
         refine pu 5 102 (bits 27 0x3d) HT_ (h := ?_)
         refine pu 6 103 (bits 27 0x7d) HT_ (h := ?_)
         refine pu 7 104 (bits 27 0xfd) HT_ (h := ?_)
         refine pu 8 105 (bits 27 0x1fd) HT_ (h := ?_)
         refine pu 9 106 (bits 27 0x3fd) HT_ (h := ?_)
         refine pu 12 109 (bits 27 0x13fd) HT_ (h := ?_)
         refine pu 14 111 (bits 27 0x53fd) HT_ (h := ?_)
         refine pu 15 112 (bits 27 0xd3fd) HT_ (h := ?_)
         refine pu 16 113 (bits 27 0x1d3fd) HT_ (h := ?_)
         refine pu 17 114 (bits 27 0x3d3fd) HT_ (h := ?_)
         refine pu 20 117 (bits 27 0x13d3fd) HT_ (h := ?_)
         refine tk 1 98 (bits 27 0x13d3ff) HT_ HW_ hHeld (hy := by rintro w' ⟨s0, s1, s2, s3, s4, s5⟩; go_simp; with_reducible rfl) (h := ?_)
         refine tk 10 107 (bits 27 0x13d7ff) HT_ HW_ hHeld (hy := by rintro w' ⟨s0, s1, s2, s3, s4, s5⟩; go_simp; with_reducible rfl) (h := ?_)
         refine pu 11 108 (bits 27 0x13dfff) HT_ (h := ?_)
         refine pu 13 110 (bits 27 0x13ffff) HT_ (h := ?_)
         refine tk 18 115 (bits 27 0x17ffff) HT_ HW_ hHeld (hy := by rintro w' ⟨s0, s1, s2, s3, s4, s5⟩; go_simp; with_reducible rfl) (h := ?_)
         refine pu 19 116 (bits 27 0x1fffff) HT_ (h := ?_)
         refine pu 21 118 (bits 27 0x3fffff) HT_ (h := ?_)
         refine pu 22 119 (bits 27 0x7fffff) HT_ (h := ?_)
         refine one_ (i := 23) (N := some 120) #[true, true, true, true, true, true, true, true, true, true, true, true, true, true, true, true, true, true, true, true, true, true, true, true, false, false, false] rfl rfl (one_of HT_.out (by kernel_rfl)) (by decide) (fun K hK => ?_)
         refine value_ (w1 := ?_) (v := ?_) (by rfl) rfl ?_ ?_
         rotate_left 2
         ·go_simp
          constructor
          ·rfl
          ·rfl
         refine hK.out _ _ ⟨(blk_cell (blk_alloc a2.out _) 0).trans rfl, (blk_cell (blk_alloc a2.out _) 1).trans rfl, (World.cell?_alloc_lt _ _ _ (World.block_lt_of_cell? _ _ ((hxc HB g1)))).trans ((hxc HB g1)), (World.cell?_alloc_lt _ _ _ (World.block_lt_of_cell? _ _ ((hxc HB g0)))).trans ((hxc HB g0)), (World.cell?_alloc_lt _ _ _ (World.block_lt_of_cell? _ _ ((hxc HB e9)))).trans ((hxc HB e9)), (World.cell?_alloc_lt _ _ _ (World.block_lt_of_cell? _ _ ((hxc HB e8)))).trans ((hxc HB e8))⟩ (fun hHeld => ?_)
         clear hK K
         refine norm_ (a' := ?_) ?_ ?_
         rotate_left
         ·show Act.put _ (some 120) _ = _
          simp only [Act.put, List.setIfInBounds_toArray, List.set_cons_zero, List.set_cons_succ, i64_w, i32_w]
          rfl
         refine one_ (i := 24) (N := some 121) #[true, true, true, true, true, true, true, true, true, true, true, true, true, true, true, true, true, true, true, true, true, true, true, true, true, false, false] rfl rfl (one_of HT_.out (by kernel_rfl)) (by decide) (fun K hK => ?_)
         refine Kd.R_append_step k71 (w0 := w) w.heap.size (by rfl) (.tmp 98) (.tmp 120) 23 71 (.agg #[(.string ⟨#[]⟩), (.int .i64 0), (.int .i64 0), (.int .i64 0), (.int .i64 0), (.int .i64 0), (.int .i64 0)]) 64 rfl Try.underlying23 info71 rfl (by decide) (by omega) c5 c3 (⟨(⟨#[101, 102, 103, 104, 105]⟩ : ByteArray).extract (b3 : Int).toNat ((wrap64 (b3 + 1)) : Int).toNat, Int.tmod (wrap64 ((rd_T81 l1 b3).f0)) (a4.length : Int), Int.tmod (wrap64 ((rd_T81 l1 b3).f1)) (a4.length : Int), 0, (-1), 0, (-1)⟩ : S71) [.string ((⟨#[101, 102, 103, 104, 105]⟩ : ByteArray).extract (b3 : Int).toNat ((wrap64 (b3 + 1)) : Int).toNat), .int .i64 (Int.tmod (wrap64 ((rd_T81 l1 b3).f0)) (a4.length : Int)), .int .i64 (Int.tmod (wrap64 ((rd_T81 l1 b3).f1)) (a4.length : Int)), .int .i64 0, .int .i64 (-1), .int .i64 0, .int .i64 (-1)] (fun k_ => (w.heap.size ≤ k_)) (fun _ => False) rfl rfl ?aP (fun _ hk => hk.elim) ?aF ?aO ?aB ?aS ?aL ?_
         (case aP => exact k71_mkM _ _ _ (⟨(⟨#[101, 102, 103, 104, 105]⟩ : ByteArray).extract (b3 : Int).toNat ((wrap64 (b3 + 1)) : Int).toNat, Int.tmod (wrap64 ((rd_T81 l1 b3).f0)) (a4.length : Int), Int.tmod (wrap64 ((rd_T81 l1 b3).f1)) (a4.length : Int), 0, (-1), 0, (-1)⟩ : S71))
         (case aB => exact (bb HB))
         (case aF => exact (fun k_ hk => (Nat.le_trans (below_size (bb HB)) hk)))
         (case aO => exact (kR HO_415001))
         (case aS => exact (below_size (bb HB)))
         (case aL => have := q8.out; omega)
         intro a3e w6 ho hb hg hat
         rw [← s9.out] at ho
         replace HO_415000 := Aside0.mk (Kd.N_afterv (ok := (fun k_ => (w.heap.size ≤ k_) ∧ k_ ≠ b1 ∧ k_ ≠ a9)) (kNmm HO_415000 (fun _ hk => ⟨⟨hk.1, ⟨hk.2.2.1, hk.2.2.2⟩⟩, hk.2.1⟩)) hg hat)
         replace a3 := Aside0.mk (blk_grown (g := b1) (o := .cells #[.slice none 0 0, .slice none 0 0] 25 (0, 0)) (bk a3) hg (Kd.R_ne HO_415001.out a3.out (by decide)))
         replace a2 := Aside0.mk (blk_grown (g := a9) (o := .cells #[.slice p6 a4.length o2, c5] 25 (0, 0)) (bk a2) hg (Kd.R_ne HO_415001.out a2.out (by decide)))
         replace HB := Aside0.mk (hb)
         have o8 := Aside0.mk (ho)
         clear HO_415001 ho hb hg hat
         obtain ⟨t7, r5, eo110⟩ := Kd.R_slice o8.out
         (first | subst eo110 | (injection eo110 with f1_ f2_ f3_; have f4_ := f1_.symm; have f5_ := f3_.symm; clear f1_ f2_ f3_; subst f4_; subst f5_))
         refine hK.out _ _ ⟨bc a2 0, bc a2 1, (hxc HB g1), (hxc HB g0), (hxc HB e9), (hxc HB e8)⟩ (fun hHeld => ?_)
         clear hK K
         refine norm_ (a' := ?_) ?_ ?_
         rotate_left
         ·show Act.put _ (some 121) _ = _
          simp only [Act.put, List.setIfInBounds_toArray, List.set_cons_zero, List.set_cons_succ, i64_w, i32_w]
          rfl
         refine pu 25 122 (bits 27 0x3ffffff) HT_ (h := ?_)
         refine last_ (i := 26) (N := none) #[true, true, true, true, true, true, true, true, true, true, true, true, true, true, true, true, true, true, true, true, true, true, true, true, true, true, true] rfl rfl (one_of HT_.out (by kernel_rfl)) (by decide) (fun K hK => ?_)
         have W2 : w6.cell? ⟨a9, 1, none⟩ = some (c5) := bc a2 1
         have V1 := blk_frozen a2.out 1
         have w7 := d1.out
         have w8 := d0.out
         refine skip_ (w1 := ?_) (by rfl) rfl ?_ ?_
         rotate_left
         ·go_simp
          rfl
         refine hK.out _ _ ?_
         clear hK K
         refine done_ (done_of HT_.out (by kernel_rfl)) ?_
         try go_wp2
         go_roundg k3
         case measure => have := e2.out; have := g4.out; have := w5.out; omega
         case rel => exact ⟨(wrap64 (b3 + 1)), (m7), (.slice t7 m7.length r5), eqs, H', ⟨by have := e2.out; have := g4.out; have := w5.out; omega⟩, ⟨kNm (g := a9) HO_415000 (fun _ hk => hk.1.2.2) (fun _ hk => ⟨hk.1.1.1, ⟨hk.1.2, ⟨hk.1.1.2.1, hk.1.1.2.2⟩⟩⟩)⟩, ⟨ktm o8 a2 (fun _ hk => hk.1)⟩, ⟨bkF a3⟩, ⟨bkP a2⟩, ⟨bb HB⟩⟩
        rw [if_neg m3] at H
        have r6 := decide_eq_false m3
        clear m3
        simp only [Option.some.injEq, Prod.mk.injEq] at H
        obtain ⟨rfl, rfl⟩ := H
        rotate_left
        rw [if_neg m4] at H
        have r7 := decide_eq_false m4
        clear m4
        simp only [Option.some.injEq, Prod.mk.injEq] at H
        obtain ⟨rfl, rfl⟩ := H
        all_goals
         have U9 := d0.out
         have U7 := d1.out
         obtain ⟨y4, y3, x8, x4⟩ := cz2 a2
         obtain ⟨p5, o1, eo114⟩ := Kd.N_slice HO_415000.out
         subst eo114
         obtain ⟨y2, y1, x2, w9⟩ := cz2 a3
         obtain ⟨t6, r4, eo116⟩ := Kd.R_slice HO_415001.out
         subst eo116
         go_wp2
         refine bodyPost_ret (results_cell_row rfl _ _ b1 25 #[.slice p5 a4.length o1, .slice t6 c3.length r4] (0, 0) _ rfl (by (with_reducible repeat (first | refine dN ?_ _ | refine dR ?_ | refine dA ?_ _)); refine blk_put (cs := #[.slice p5 a4.length o1, .slice none 0 0]) ?_ 1 _ rfl; refine blk_put (cs := #[.slice none 0 0, .slice none 0 0]) ?_ 0 _ rfl; (with_reducible repeat (first | refine dN ?_ _ | refine dR ?_ | refine dA ?_ _)); exact a3.out) Try.underlying25 rfl (by kernel_rfl)) rfl ?_
         exact ⟨_, _, erf, kNm (g := b1) HO_415000 (fun _ hk => hk.2.2.1) (fun _ hk => ⟨hk.1.1, hk.1.2.1⟩), ktm HO_415001 a3 (fun _ hk => hk.1), bb HB⟩
     subst c8
     replace H := ift H
     have q9 := Aside0.mk H
     clear H
     go_upto_if 30 with (first | ((with_reducible refine gate_dst (N := 7) rfl ?_); (try (refine gate_guard (by rfl) ?_; dsimp only)); refine be 7 #[.int .u8 0, .int .u8 0] 81 ?_; intro b0 hg w10 hbox hb; replace HO_415000 := Aside0.mk (Kd.N_below (Kd.N_elderB (kN HO_415000) b0 (Nat.le_of_eq hg.symm)) hb); have a5 := Aside0.mk (hbox); have p3 := bsz HB hg; replace HB := bstep HB hb; have d5 := blt a3 hg; have d3 := bgt a3 hg; replace a3 := bkb a3 hb; have d4 := blt a2 hg; have d2 := bgt a2 hg; replace a2 := bkb a2 hb; clear hb hbox hg; have a0g := d3.out; have Y4 := d5.out; have a0f := d2.out; have Y3 := d4.out; obtain ⟨q0, p9, p8, p7⟩ := cz2 a5))
     (try simp only [Act.put, List.setIfInBounds_toArray, List.set_cons_zero, List.set_cons_succ])
     go_cut [] (fun wc => ∃ (kq : Nat) (a0 : Int) (b2 : Int), Aside0 (q4_Made.j2 kq l0 l1 a1 a4 a0 b2 = some (r1, r2)) ∧ Aside0 (kq ≤ q2) ∧ Aside0 (Kd.N k68 68 wc w.heap.size (fun k_ => (w.heap.size ≤ k_) ∧ k_ ≠ b1 ∧ k_ ≠ a9 ∧ k_ ≠ b0) a6 a4) ∧ Aside0 (wc.heap[b1]? = some (.cells #[(.slice none 0 0), (.slice none 0 0)] 25 (0, 0))) ∧ Aside0 (wc.heap[a9]? = some (.cells #[a6, (.slice none 0 0)] 25 (0, 0))) ∧ Aside0 (wc.heap[b0]? = some (.cells #[.int .u8 a0, .int .u8 b2] 81 (0, 0))) ∧ Aside0 (Below w.heap.size w wc))
     case first =>
      have H := q9.out
      clear q9
      by_cases m5 : a1 < (l0.length : Int)
      rotate_left
      ·rw [if_neg m5] at H
       have h6 := decide_eq_false m5
       clear m5
       (first | rw [h6] | (simp only [i64_w, i32_w]; rw [h6]) | skip)
       have H' := Aside0.mk H
       clear H
       go_wp2
       go_meet
       case rel => exact ⟨_, (0), (0), H', ⟨by have := e2.out; have := g4.out; first | omega | exact Nat.le_refl _⟩, ⟨kNm (g := b0) HO_415000 (fun _ hk => hk.2) (fun _ hk => ⟨hk.1.1.1, ⟨hk.1.1.2.1, ⟨hk.1.1.2.2, hk.1.2⟩⟩⟩)⟩, ⟨bkF a3⟩, ⟨bkF a2⟩, ⟨bkP a5⟩, ⟨bb HB⟩⟩
      rw [if_pos m5] at H
      have h6 := decide_eq_true m5
      clear m5
      (first | rw [h6] | (simp only [i64_w, i32_w]; rw [h6]) | skip)
      obtain ⟨v9, H⟩ := itn H
      have a3a := decide_eq_true v9
      clear v9
      have H' := Aside0.mk H
      clear H
      have n6 : 0 ≤ a1 := odt
      have n3 : a1 < (l0.length : Int) := odt
      obtain ⟨o4, y9, c9, d8⟩ := at_T81 W1.out a1 n6 n3
      cases y9
      have hn416_0 : o4.block ≠ b0 := Nat.ne_of_lt (Nat.lt_of_lt_of_le (by have := World.block_lt_of_cell? _ _ c9; first | rwa [add_block] at this | exact this) p3.out)
      have hn416_1 : o4.block ≠ b0 := Nat.ne_of_lt (Nat.lt_of_lt_of_le (by have := World.block_lt_of_cell? _ _ c9; first | rwa [add_block] at this | exact this) p3.out)
      replace c9 := hxc HB c9
      replace d8 := hxc HB d8
      replace c9 := (cell_far (p := ⟨b0, 0, none⟩) (by first | (rw [add_block]; exact hn416_0) | (show (Addr.add _ _).block ≠ _; rw [add_block]; exact hn416_0) | exact hn416_0) (.int .u8 0)).trans c9
      replace d8 := (cell_far (p := ⟨b0, 0, none⟩) (by first | (rw [add_block]; exact hn416_0) | (show (Addr.add _ _).block ≠ _; rw [add_block]; exact hn416_0) | exact hn416_0) (.int .u8 0)).trans d8
      replace c9 := (cell_far (p := ⟨b0, 1, none⟩) (by first | (rw [add_block]; exact hn416_1) | (show (Addr.add _ _).block ≠ _; rw [add_block]; exact hn416_1) | exact hn416_1) (.int .u8 0)).trans c9
      replace d8 := (cell_far (p := ⟨b0, 1, none⟩) (by first | (rw [add_block]; exact hn416_1) | (show (Addr.add _ _).block ≠ _; rw [add_block]; exact hn416_1) | exact hn416_1) (.int .u8 0)).trans d8
      clear hn416_0 hn416_1
      replace n6 := eq_true n6
      replace n3 := eq_true n3
      have a0e := d3.out
      have Y2 := d5.out
      have a0d := d2.out
      have Y1 := d4.out
      obtain ⟨U1, U0, O1, O0⟩ := cz2 a5
      go_wp2
      go_meet
      case rel => exact ⟨_, ((rd_T81 l0 a1).f0), ((rd_T81 l0 a1).f1), H', ⟨by have := e2.out; have := g4.out; first | omega | exact Nat.le_refl _⟩, ⟨kNm (g := b0) HO_415000 (fun _ hk => hk.2) (fun _ hk => ⟨hk.1.1.1, ⟨hk.1.1.2.1, ⟨hk.1.1.2.2, hk.1.2⟩⟩⟩)⟩, ⟨bkF a3⟩, ⟨bkF a2⟩, ⟨bkP a5⟩, ⟨bb HB⟩⟩
     case rest =>
      clear q9
      try clear q0 p9 p8 p7
      obtain ⟨kq, a0, b2, HA, m6, HO_415000, a3, a2, a5, HB⟩ := hcut
      cases kq with
      | zero => exact absurd HA.out (by simp [q4_Made.j2])
      | succ g8 =>
       have H := HA.out
       clear HA
       simp only [q4_Made.j2] at H
       obtain ⟨q4, H⟩ := itn H
       have a2j := eq_true q4
       have a2i := decide_eq_true q4
       clear q4
       obtain ⟨v8, H⟩ := itn H
       have a2h := eq_true v8
       have a2g := decide_eq_true v8
       obtain ⟨v7, H⟩ := itn H
       have a2f := eq_true v7
       have a2e := decide_eq_true v7
       by_cases o3 : (wrap64 (a1 + 1)) = 0
       ·rw [if_pos o3] at H
        exact absurd H (by simp)
       rw [if_neg o3] at H
       have a2d := beq_eq_false_iff_ne.mpr o3
       have a2c := bne_iff_ne.mpr o3
       have a2b := eq_true (odt : 0 ≤ a1)
       have a2a := eq_true (odt : a1 ≤ (wrap64 (a1 + 1)))
       have a1j := eq_true (odt : (wrap64 (a1 + 1)) ≤ 6)
       by_cases m1 : (Int.tmod b2 4) = 1
       ·rw [if_pos m1] at H
        have s7 := beq_iff_eq.mpr m1
        have s6 := bne_eq_false_iff_eq.mpr m1
        clear m1
        obtain ⟨d6, h5⟩ : ∃ y_ : List (S77), y_ = (([(⟨(⟨#[117, 118, 119, 120, 121, 122]⟩ : ByteArray).extract (a1 : Int).toNat ((wrap64 (a1 + 1)) : Int).toNat, (-3), 3 + (((Int.tdiv b2 4) % 256) % 9), ([] : List ByteArray)⟩ : S77)] : List (S77))) := ⟨_, rfl⟩
        replace H : (if a4.length < 2513169434916 then (q4_Made.l0 g8 l0 l1 (wrap64 (a1 + 1)) (a4 ++ [(⟨(⟨#[65, 66, 67, 68, 69, 70]⟩ : ByteArray).extract (a1 : Int).toNat ((wrap64 (a1 + 1)) : Int).toNat, wrap64 ((Int.tmod (wrap64 (a0)) (wrap64 (a1 + 1))) - 1), (((Int.tdiv a0 16) % 4) == 3), d6⟩ : S68)])) else (none)) = some (r1, r2) := by first | (rw [h5]; with_reducible exact H) | (have H2_ := (Option.bind_some _ _).symm.trans H; rw [h5]; with_reducible exact H2_) | (have H2_ := (Option.bind_some _ _).symm.trans H; with_reducible exact H2_) | with_reducible exact H | (rw [h5]; exact H) | exact H
        have o7 := Aside0.mk h5
        clear h5
        obtain ⟨v5, H⟩ := itn H
        have t5 := Aside0.mk v5
        clear v5
        obtain ⟨n0, h4⟩ : ∃ y_ : List (S68), y_ = (a4 ++ [(⟨(⟨#[65, 66, 67, 68, 69, 70]⟩ : ByteArray).extract (a1 : Int).toNat ((wrap64 (a1 + 1)) : Int).toNat, wrap64 ((Int.tmod (wrap64 (a0)) (wrap64 (a1 + 1))) - 1), (((Int.tdiv a0 16) % 4) == 3), d6⟩ : S68)]) := ⟨_, rfl⟩
        replace H : (q4_Made.l0 g8 l0 l1 (wrap64 (a1 + 1)) n0) = some (r1, r2) := by first | (rw [h4]; with_reducible exact H) | (have H2_ := (Option.bind_some _ _).symm.trans H; rw [h4]; with_reducible exact H2_) | (have H2_ := (Option.bind_some _ _).symm.trans H; with_reducible exact H2_) | with_reducible exact H | (rw [h4]; exact H) | exact H
        have t2 := Aside0.mk h4
        clear h4
        have H' := Aside0.mk H
        clear H
        try go_wp2
        replace HO_415000 := Aside0.mk (Kd.N_drew HO_415000.out)
        replace a3 := Aside0.mk (blk_drew a3.out)
        replace a2 := Aside0.mk (blk_drew a2.out)
        replace a5 := Aside0.mk (blk_drew a5.out)
        replace HB := Aside0.mk (below_drew1 HB.out)
        refine start_ (n := 19) (S := fun w' => w'.cell? ⟨b0, 0, none⟩ = some (.int .u8 a0) ∧ w'.cell? ⟨b0, 1, none⟩ = some (.int .u8 b2)) (ds := []) #[false, false, false, false, false, false, false, false, false, false, false, false, false, false, false, false, false, false, false] (by kernel_rfl) rfl rfl ⟨bc a5 0, bc a5 1⟩ (fun hHeld => ?_); refine with_tabW q4_Made.tab8 q4_Made.bits8 (fun HT_ HW_ => ?_)
        generalize wc.drew = w28 at HO_415000 a3 a2 a5 HB hHeld ⊢
        refine pu 0 35 (bits 19 0x1) HT_ (h := ?_)
        refine pu 1 36 (bits 19 0x3) HT_ (h := ?_)
        refine pu 2 37 (bits 19 0x7) HT_ (h := ?_)
        refine pu 3 38 (bits 19 0xf) HT_ (h := ?_)
        refine pu 4 39 (bits 19 0x1f) HT_ (h := ?_)
        refine pu 7 42 (bits 19 0x9f) HT_ (h := ?_)
        refine pu 8 43 (bits 19 0x19f) HT_ (h := ?_)
        refine pu 11 46 (bits 19 0x99f) HT_ (h := ?_)
        refine tk 5 40 (bits 19 0x9bf) HT_ HW_ hHeld (hy := by rintro w' ⟨s0, s1⟩; go_simp; with_reducible rfl) (h := ?_)
        refine pu 6 41 (bits 19 0x9ff) HT_ (h := ?_)
        refine pu 9 44 (bits 19 0xbff) HT_ (h := ?_)
        refine pu 10 45 (bits 19 0xfff) HT_ (h := ?_)
        refine tk 12 47 (bits 19 0x1fff) HT_ HW_ hHeld (hy := by rintro w' ⟨s0, s1⟩; go_simp; with_reducible rfl) (h := ?_)
        refine pu 13 48 (bits 19 0x3fff) HT_ (h := ?_)
        refine pu 14 49 (bits 19 0x7fff) HT_ (h := ?_)
        refine pu 15 50 (bits 19 0xffff) HT_ (h := ?_)
        refine pu 16 51 (bits 19 0x1ffff) HT_ (h := ?_)
        refine one_ (i := 17) (N := some 8) #[true, true, true, true, true, true, true, true, true, true, true, true, true, true, true, true, true, true, false] rfl rfl (one_of HT_.out (by kernel_rfl)) (by decide) (fun K hK => ?_)
        refine box_step ?hg (N := 8) ?hd (cs := #[.string (⟨#[]⟩ : ByteArray), .int .i64 0, .bool false, .slice none 0 0]) (t := 68) ?hr ?_; (case hd => rfl); (case hg => rfl); (case hr => first | (go_simp; done) | (go_simp; rfl))
        intro a7 hg o0 hbox hb
        replace HO_415000 := Aside0.mk (Kd.N_below (Kd.N_elderB (kN HO_415000) a7 (Nat.le_of_eq hg.symm)) hb)
        have a8 := Aside0.mk (hbox)
        have p2 := bsz HB hg
        have p4 := bsz HB hg
        replace HB := bstep HB hb
        have b9 := blt a3 hg
        have b6 := bgt a3 hg
        replace a3 := bkb a3 hb
        have b8 := blt a2 hg
        have b5 := bgt a2 hg
        replace a2 := bkb a2 hb
        have b7 := blt a5 hg
        have b4 := bgt a5 hg
        replace a5 := bkb a5 hb
        clear hb hbox hg
        refine hK.out _ _ ⟨bc a5 0, bc a5 1⟩ (fun hHeld => ?_)
        clear hK K
        refine norm_ (a' := ?_) ?_ ?_
        rotate_left
        ·show Act.put _ (some 8) _ = _
         simp only [Act.put, List.setIfInBounds_toArray, List.set_cons_zero, List.set_cons_succ, i64_w, i32_w]
         rfl
        refine one_ (i := 18) (N := none) #[true, true, true, true, true, true, true, true, true, true, true, true, true, true, true, true, true, true, true] rfl rfl (one_of HT_.out (by kernel_rfl)) (by decide) (fun K hK => ?_)
        have a5c : o0.cell? ⟨a7, 0, none⟩ = some (.string (⟨#[]⟩ : ByteArray)) := bc a8 0
        have a1i := blk_frozen a8.out 0
        have F5 := b9.out
        have F4 := b8.out
        have F3 := b7.out
        have J1 := b6.out
        have J0 := b5.out
        have I9 := b4.out
        have a5b : o0.cell? ⟨a7, 1, none⟩ = some (.int .i64 0) := bc a8 1
        have a1h := blk_frozen a8.out 1
        have F2 := b9.out
        have F1 := b8.out
        have F0 := b7.out
        have I8 := b6.out
        have I7 := b5.out
        have I6 := b4.out
        have a5a : o0.cell? ⟨a7, 2, none⟩ = some (.bool false) := bc a8 2
        have a1g := blk_frozen a8.out 2
        have E9 := b9.out
        have E8 := b8.out
        have E7 := b7.out
        have I5 := b6.out
        have I4 := b5.out
        have I3 := b4.out
        have a4j : o0.cell? ⟨a7, 3, none⟩ = some (.slice none 0 0) := bc a8 3
        have a1f := blk_frozen a8.out 3
        have E6 := b9.out
        have E5 := b8.out
        have E4 := b7.out
        have I2 := b6.out
        have I1 := b5.out
        have I0 := b4.out
        refine skip_ (w1 := ?_) (by rfl) rfl ?_ ?_
        rotate_left
        ·go_simp
         rfl
        refine hK.out _ _ ⟨(cfr hHeld.1), (cfr hHeld.2)⟩ (fun hHeld => ?_)
        clear hK K
        refine done_ (done_of HT_.out (by kernel_rfl)) ?_
        have a0c := d3.out
        have Y0 := d5.out
        have a0b := d2.out
        have X9 := d4.out
        have a0a := b7.out
        have X8 := b4.out
        obtain ⟨R9, R8, N9, N8⟩ := cz2 a5
        try go_wp2_with (first | ((with_reducible refine gate_dst (N := 69) rfl ?_); (try (refine gate_guard (by rfl) ?_; dsimp only)); refine Kd.N_lit k77 _ 77 ?hg (N' := 69) ?hd (xs := ([(⟨(⟨#[117, 118, 119, 120, 121, 122]⟩ : ByteArray).extract (a1 : Int).toNat ((wrap64 (a1 + 1)) : Int).toNat, (-3), 3 + (((Int.tdiv b2 4) % 256) % 9), ([] : List ByteArray)⟩ : S77)] : List (S77))) (inner := [.string ((⟨#[117, 118, 119, 120, 121, 122]⟩ : ByteArray).extract (a1 : Int).toNat ((wrap64 (a1 + 1)) : Int).toNat), .int .i64 (-3), .int .i64 (3 + (((Int.tdiv b2 4) % 256) % 9)), .slice none 0 0]) (ok := (fun k_ => (w.heap.size ≤ k_) ∧ some k_ ≠ (a6 : Value).ownBlock ∧ k_ ≠ b1 ∧ k_ ≠ a9 ∧ k_ ≠ b0 ∧ k_ ≠ a7)) (okp := (fun k_ => (w.heap.size ≤ k_) ∧ some k_ ≠ (a6 : Value).ownBlock ∧ k_ ≠ b1 ∧ k_ ≠ a9 ∧ k_ ≠ b0 ∧ k_ ≠ a7)) ?hr ?hp (fun _ hk => hk) ((show ∀ k_, _ ≤ k_ → (fun k_ => (w.heap.size ≤ k_) ∧ some k_ ≠ (a6 : Value).ownBlock ∧ k_ ≠ b1 ∧ k_ ≠ a9 ∧ k_ ≠ b0 ∧ k_ ≠ a7) k_ from fun k_ hk => ⟨(Nat.le_trans (below_size (bb HB)) hk), Kd.fresh' (Kd.N_lt (kNn (g := a7) HO_415000 (fun _ hk => hk.2))) k_ hk, Kd.freshB (g := b1) (o := .cells #[.slice none 0 0, .slice none 0 0] 25 (0, 0)) (bkF a3) k_ hk, Kd.freshB (g := a9) (o := .cells #[a6, .slice none 0 0] 25 (0, 0)) (bkF a2) k_ hk, Kd.freshB (g := b0) (o := .cells #[.int .u8 a0, .int .u8 b2] 81 (0, 0)) (bkF a5) k_ hk, Kd.freshB (g := a7) (o := .cells #[.string ((⟨#[65, 66, 67, 68, 69, 70]⟩ : ByteArray).extract (a1 : Int).toNat ((wrap64 (a1 + 1)) : Int).toNat), .int .i64 (wrap64 ((Int.tmod (wrap64 (a0)) (wrap64 (a1 + 1))) - 1)), .bool (((Int.tdiv a0 16) % 4) == 3), .slice none 0 0] 68 (0, 0)) (bkP a8) k_ hk⟩) _ (Nat.le_refl _)) (Below.refl _ _) (Nat.le_refl _) (by simp) ?_; (case hd => rfl); (case hg => rfl); (case hr => first | (go_simp; done) | (go_simp; rfl)); (case hp => exact (Reps.c4 (show Kd.FK k77 _ _ (⟨(⟨#[117, 118, 119, 120, 121, 122]⟩ : ByteArray).extract (a1 : Int).toNat ((wrap64 (a1 + 1)) : Int).toNat, (-3), 3 + (((Int.tdiv b2 4) % 256) % 9), ([] : List ByteArray)⟩ : S77) [.string ((⟨#[117, 118, 119, 120, 121, 122]⟩ : ByteArray).extract (a1 : Int).toNat ((wrap64 (a1 + 1)) : Int).toNat), .int .i64 (-3), .int .i64 (3 + (((Int.tdiv b2 4) % 256) % 9)), .slice none 0 0] from (k77_mkF _ _ (⟨(⟨#[117, 118, 119, 120, 121, 122]⟩ : ByteArray).extract (a1 : Int).toNat ((wrap64 (a1 + 1)) : Int).toNat, (-3), 3 + (((Int.tdiv b2 4) % 256) % 9), ([] : List ByteArray)⟩ : S77) (Nat.le_refl _) (Kd.F_nil _ _ _))) (Reps.none _ _))); intro a4a U4 j0 hb hg_ hnew_; clear hg_ hnew_; (first | rw [← o7.out] at j0 | (simp only [Int.reduceToNat] at j0; rw [← o7.out] at j0)); replace HO_415000 := Aside0.mk (Kd.N_elder' (kNn (g := a7) HO_415000 (fun _ hk => hk.2)) (Kd.N_base j0) hb); have g3 := Aside0.mk (Kd.N_lower j0 (below_size (bb HB))); replace a3 := Aside0.mk (blk_below (g := b1) (o := .cells #[.slice none 0 0, .slice none 0 0] 25 (0, 0)) (bkF a3) hb); replace a2 := Aside0.mk (blk_below (g := a9) (o := .cells #[a6, .slice none 0 0] 25 (0, 0)) (bkF a2) hb); replace a5 := Aside0.mk (blk_below (g := b0) (o := .cells #[.int .u8 a0, .int .u8 b2] 81 (0, 0)) (bkF a5) hb); replace a8 := Aside0.mk (blk_below (g := a7) (o := .cells #[.string ((⟨#[65, 66, 67, 68, 69, 70]⟩ : ByteArray).extract (a1 : Int).toNat ((wrap64 (a1 + 1)) : Int).toNat), .int .i64 (wrap64 ((Int.tmod (wrap64 (a0)) (wrap64 (a1 + 1))) - 1)), .bool (((Int.tdiv a0 16) % 4) == 3), .slice none 0 0] 68 (0, 0)) (bkP a8) hb); replace HB := bstep HB hb; clear hb j0; obtain ⟨g7, g6, eo40⟩ := Kd.N_slice g3.out; subst eo40; have Z9 := b6.out; have X7 := b9.out; have Z8 := b5.out; have X6 := b8.out; obtain ⟨R7, R6, R5, R4, N7, N6, N5, N4⟩ := cz4 a8) | ((with_reducible refine gate_store (t := 45) (p := 70) rfl ?_); refine store_event (t := 45) (p := 70) (v := ?vo_w44) (w1 := (U4.setCell ⟨a7, 3, none⟩ (.slice g7 d6.length g6))) ?hg ?ho ?hn ?hr ?_; (case ho => rfl); (case hg => rfl); (case hn => rfl); (case hr => first | (go_simp; done) | (go_simp; rfl)); intro j8 hw; replace HO_415000 : Aside0 (Kd.N k68 68 j8 w.heap.size (fun k_ => (w.heap.size ≤ k_) ∧ some k_ ≠ (.slice g7 d6.length g6 : Value).ownBlock ∧ k_ ≠ b1 ∧ k_ ≠ a9 ∧ k_ ≠ b0 ∧ k_ ≠ a7) a6 a4) := ⟨(by rw [hw]; exact (kNm (g := a7) HO_415000 (fun _ hk => hk.1.2) (fun _ hk => ⟨hk.1.1.1.1, ⟨hk.1.2, ⟨hk.1.1.1.2.1, ⟨hk.1.1.1.2.2.1, ⟨hk.1.1.1.2.2.2, hk.1.1.2⟩⟩⟩⟩⟩)))⟩; replace g3 : Aside0 (Kd.N k77 77 j8 w.heap.size (fun k_ => (w.heap.size ≤ k_) ∧ some k_ ≠ (a6 : Value).ownBlock ∧ k_ ≠ b1 ∧ k_ ≠ a9 ∧ k_ ≠ b0 ∧ k_ ≠ a7) (.slice g7 d6.length g6) d6) := ⟨(by rw [hw]; exact (kNm (g := a7) g3 (fun _ hk => hk.2.2.2.2.2) (fun _ hk => ⟨hk.1.1, ⟨hk.1.2.1, ⟨hk.1.2.2.1, ⟨hk.1.2.2.2.1, ⟨hk.1.2.2.2.2.1, hk.1.2.2.2.2.2⟩⟩⟩⟩⟩)))⟩; replace a3 : Aside0 (j8.heap[b1]? = some (.cells #[.slice none 0 0, .slice none 0 0] 25 (0, 0))) := ⟨(by rw [hw]; exact bkF a3)⟩; replace a2 : Aside0 (j8.heap[a9]? = some (.cells #[a6, .slice none 0 0] 25 (0, 0))) := ⟨(by rw [hw]; exact bkF a2)⟩; replace a5 : Aside0 (j8.heap[b0]? = some (.cells #[.int .u8 a0, .int .u8 b2] 81 (0, 0))) := ⟨(by rw [hw]; exact bkF a5)⟩; replace a8 : Aside0 (j8.heap[a7]? = some (.cells #[.string ((⟨#[65, 66, 67, 68, 69, 70]⟩ : ByteArray).extract (a1 : Int).toNat ((wrap64 (a1 + 1)) : Int).toNat), .int .i64 (wrap64 ((Int.tmod (wrap64 (a0)) (wrap64 (a1 + 1))) - 1)), .bool (((Int.tdiv a0 16) % 4) == 3), .slice g7 d6.length g6] 68 (0, 0))) := ⟨(by rw [hw]; exact (bkP a8))⟩; replace HB : Aside0 (Below w.heap.size w j8) := ⟨(by rw [hw]; exact (bb HB))⟩; clear hw; have Z7 := d0.out; have X5 := d1.out; obtain ⟨R3, R2, N3, N2⟩ := cz2 a2; obtain ⟨R1, R0, Q9, Q8, N1, N0, M9, M8⟩ := cz4 a8) | ((with_reducible refine gate_builtin (b := .append) (xs := #[.tmp 79, .tmp 81]) rfl ?_); (try (refine gate_guard (by rfl) ?_; dsimp only)); at_builtin; refine Kd.N_append k68 (w0 := w) w.heap.size rfl (.tmp 79) (.tmp 81) 22 68 (.agg #[(.string ⟨#[]⟩), (.int .i64 0), (.bool false), (.slice none 0 0)]) 56 rfl Try.underlying22 info68 rfl (by decide) (by omega) a6 a4 (⟨(⟨#[65, 66, 67, 68, 69, 70]⟩ : ByteArray).extract (a1 : Int).toNat ((wrap64 (a1 + 1)) : Int).toNat, wrap64 ((Int.tmod (wrap64 (a0)) (wrap64 (a1 + 1))) - 1), (((Int.tdiv a0 16) % 4) == 3), d6⟩ : S68) [.string ((⟨#[65, 66, 67, 68, 69, 70]⟩ : ByteArray).extract (a1 : Int).toNat ((wrap64 (a1 + 1)) : Int).toNat), .int .i64 (wrap64 ((Int.tmod (wrap64 (a0)) (wrap64 (a1 + 1))) - 1)), .bool (((Int.tdiv a0 16) % 4) == 3), .slice g7 d6.length g6] (fun k_ => (w.heap.size ≤ k_) ∧ k_ ≠ b1 ∧ k_ ≠ a9 ∧ k_ ≠ b0 ∧ k_ ≠ a7) (fun k_ => ((fun k_ => (w.heap.size ≤ k_) ∧ k_ ≠ b1 ∧ k_ ≠ a9 ∧ k_ ≠ b0 ∧ k_ ≠ a7)) k_ ∧ some k_ ≠ (a6 : Value).ownBlock) rfl rfl ?aP (fun _ hk => hk) ?aF ?aO ?aB ?aS ?aL ?_; (case aP => exact (k68_mkF _ _ (⟨(⟨#[65, 66, 67, 68, 69, 70]⟩ : ByteArray).extract (a1 : Int).toNat ((wrap64 (a1 + 1)) : Int).toNat, wrap64 ((Int.tmod (wrap64 (a0)) (wrap64 (a1 + 1))) - 1), (((Int.tdiv a0 16) % 4) == 3), d6⟩ : S68) (Kd.N_reads' (Kd.N_mono (ok' := (fun k_ => ((fun k_ => (w.heap.size ≤ k_) ∧ k_ ≠ b1 ∧ k_ ≠ a9 ∧ k_ ≠ b0 ∧ k_ ≠ a7)) k_ ∧ some k_ ≠ (a6 : Value).ownBlock)) (g3.out) (fun k_ hk => ⟨⟨hk.1, ⟨hk.2.2.1, ⟨hk.2.2.2.1, ⟨hk.2.2.2.2.1, hk.2.2.2.2.2⟩⟩⟩⟩, hk.2.1⟩))).2.1 (Kd.N_F (Kd.N_mono (ok' := (fun k_ => ((fun k_ => (w.heap.size ≤ k_) ∧ k_ ≠ b1 ∧ k_ ≠ a9 ∧ k_ ≠ b0 ∧ k_ ≠ a7)) k_ ∧ some k_ ≠ (a6 : Value).ownBlock)) (g3.out) (fun k_ hk => ⟨⟨hk.1, ⟨hk.2.2.1, ⟨hk.2.2.2.1, ⟨hk.2.2.2.2.1, hk.2.2.2.2.2⟩⟩⟩⟩, hk.2.1⟩))))); (case aB => exact (bb HB)); (case aF => exact (fun k_ hk => ⟨(Nat.le_trans (below_size (bb HB)) hk), Kd.freshB (g := b1) (o := .cells #[.slice none 0 0, .slice none 0 0] 25 (0, 0)) (bk a3) k_ hk, Kd.freshB (g := a9) (o := .cells #[a6, .slice none 0 0] 25 (0, 0)) (bk a2) k_ hk, Kd.freshB (g := b0) (o := .cells #[.int .u8 a0, .int .u8 b2] 81 (0, 0)) (bk a5) k_ hk, Kd.freshB (g := a7) (o := .cells #[.string ((⟨#[65, 66, 67, 68, 69, 70]⟩ : ByteArray).extract (a1 : Int).toNat ((wrap64 (a1 + 1)) : Int).toNat), .int .i64 (wrap64 ((Int.tmod (wrap64 (a0)) (wrap64 (a1 + 1))) - 1)), .bool (((Int.tdiv a0 16) % 4) == 3), .slice g7 d6.length g6] 68 (0, 0)) (bk a8) k_ hk⟩)); (case aO => exact (kNmm HO_415000 (fun _ hk => ⟨hk.1, ⟨hk.2.2.1, ⟨hk.2.2.2.1, ⟨hk.2.2.2.2.1, hk.2.2.2.2.2⟩⟩⟩⟩))); (case aS => exact (below_size (bb HB))); (case aL => have := t5.out; omega); intro a3j w48 ho hb hg hat; rw [← t2.out] at ho; replace a3 := Aside0.mk (blk_grown (g := b1) (o := .cells #[.slice none 0 0, .slice none 0 0] 25 (0, 0)) (bk a3) hg (Kd.N_ne HO_415000.out a3.out (by decide))); replace a2 := Aside0.mk (blk_grown (g := a9) (o := .cells #[a6, .slice none 0 0] 25 (0, 0)) (bk a2) hg (Kd.N_ne HO_415000.out a2.out (by decide))); replace a5 := Aside0.mk (blk_grown (g := b0) (o := .cells #[.int .u8 a0, .int .u8 b2] 81 (0, 0)) (bk a5) hg (Kd.N_ne HO_415000.out a5.out (by decide))); replace a8 := Aside0.mk (blk_grown (g := a7) (o := .cells #[.string ((⟨#[65, 66, 67, 68, 69, 70]⟩ : ByteArray).extract (a1 : Int).toNat ((wrap64 (a1 + 1)) : Int).toNat), .int .i64 (wrap64 ((Int.tmod (wrap64 (a0)) (wrap64 (a1 + 1))) - 1)), .bool (((Int.tdiv a0 16) % 4) == 3), .slice g7 d6.length g6] 68 (0, 0)) (bk a8) hg (Kd.N_away HO_415000.out (fun _ hk => hk.2.2.2.2.2))); replace HB := Aside0.mk (hb); have p1 := Aside0.mk (ho); clear HO_415000 g3; clear ho hb hg hat; obtain ⟨A9, A4, eo49⟩ := Kd.N_slice p1.out; subst eo49; obtain ⟨Q7, Q6, M7, M6⟩ := cz2 a2))
        go_roundg g8
        case measure => have := e2.out; have := g4.out; have := m6.out; omega
        case rel => exact ⟨(wrap64 (a1 + 1)), (n0), (.slice A9 n0.length A4), eqs, H', ⟨by have := e2.out; have := g4.out; have := m6.out; omega⟩, ⟨kNm (g := a9) p1 (fun _ hk => hk.2.2.1) (fun _ hk => ⟨hk.1.1, ⟨hk.1.2.1, hk.1.2.2.1⟩⟩)⟩, ⟨bkF a3⟩, ⟨bkP a2⟩, ⟨bb HB⟩⟩
       rw [if_neg m1] at H
       have s7 := beq_eq_false_iff_ne.mpr m1
       have s6 := bne_iff_ne.mpr m1
       by_cases m0 : (Int.tmod b2 4) = 2
       rotate_left
       ·rw [if_neg m0] at H
        have r9 := beq_eq_false_iff_ne.mpr m0
        have r8 := bne_iff_ne.mpr m0
        obtain ⟨v3, H⟩ := itn H
        have t3 := Aside0.mk v3
        clear v3
        obtain ⟨m8, h0⟩ : ∃ y_ : List (S68), y_ = (a4 ++ [(⟨(⟨#[65, 66, 67, 68, 69, 70]⟩ : ByteArray).extract (a1 : Int).toNat ((wrap64 (a1 + 1)) : Int).toNat, wrap64 ((Int.tmod (wrap64 (a0)) (wrap64 (a1 + 1))) - 1), (((Int.tdiv a0 16) % 4) == 3), ([] : List (S77))⟩ : S68)]) := ⟨_, rfl⟩
        replace H : (q4_Made.l0 g8 l0 l1 (wrap64 (a1 + 1)) m8) = some (r1, r2) := by first | (rw [h0]; with_reducible exact H) | (have H2_ := (Option.bind_some _ _).symm.trans H; rw [h0]; with_reducible exact H2_) | (have H2_ := (Option.bind_some _ _).symm.trans H; with_reducible exact H2_) | with_reducible exact H | (rw [h0]; exact H) | exact H
        have t0 := Aside0.mk h0
        clear h0
        have H' := Aside0.mk H
        clear H
        try go_wp2
        replace HO_415000 := Aside0.mk (Kd.N_drew HO_415000.out)
        replace a3 := Aside0.mk (blk_drew a3.out)
        replace a2 := Aside0.mk (blk_drew a2.out)
        replace a5 := Aside0.mk (blk_drew a5.out)
        replace HB := Aside0.mk (below_drew1 HB.out)
        refine start_ (n := 19) (S := fun w' => w'.cell? ⟨b0, 0, none⟩ = some (.int .u8 a0) ∧ w'.cell? ⟨b0, 1, none⟩ = some (.int .u8 b2)) (ds := []) #[false, false, false, false, false, false, false, false, false, false, false, false, false, false, false, false, false, false, false] (by kernel_rfl) rfl rfl ⟨bc a5 0, bc a5 1⟩ (fun hHeld => ?_); refine with_tabW q4_Made.tab8 q4_Made.bits8 (fun HT_ HW_ => ?_)
        generalize wc.drew = w80 at HO_415000 a3 a2 a5 HB hHeld ⊢
        refine pu 0 35 (bits 19 0x1) HT_ (h := ?_)
        refine pu 1 36 (bits 19 0x3) HT_ (h := ?_)
        refine pu 2 37 (bits 19 0x7) HT_ (h := ?_)
        refine pu 3 38 (bits 19 0xf) HT_ (h := ?_)
        refine pu 4 39 (bits 19 0x1f) HT_ (h := ?_)
        refine pu 7 42 (bits 19 0x9f) HT_ (h := ?_)
        refine pu 8 43 (bits 19 0x19f) HT_ (h := ?_)
        refine pu 11 46 (bits 19 0x99f) HT_ (h := ?_)
        refine tk 5 40 (bits 19 0x9bf) HT_ HW_ hHeld (hy := by rintro w' ⟨s0, s1⟩; go_simp; with_reducible rfl) (h := ?_)
        refine pu 6 41 (bits 19 0x9ff) HT_ (h := ?_)
        refine pu 9 44 (bits 19 0xbff) HT_ (h := ?_)
        refine pu 10 45 (bits 19 0xfff) HT_ (h := ?_)
        refine tk 12 47 (bits 19 0x1fff) HT_ HW_ hHeld (hy := by rintro w' ⟨s0, s1⟩; go_simp; with_reducible rfl) (h := ?_)
        refine pu 13 48 (bits 19 0x3fff) HT_ (h := ?_)
        refine pu 14 49 (bits 19 0x7fff) HT_ (h := ?_)
        refine pu 15 50 (bits 19 0xffff) HT_ (h := ?_)
        refine pu 16 51 (bits 19 0x1ffff) HT_ (h := ?_)
        refine one_ (i := 17) (N := some 8) #[true, true, true, true, true, true, true, true, true, true, true, true, true, true, true, true, true, true, false] rfl rfl (one_of HT_.out (by kernel_rfl)) (by decide) (fun K hK => ?_)
        refine box_step ?hg (N := 8) ?hd (cs := #[.string (⟨#[]⟩ : ByteArray), .int .i64 0, .bool false, .slice none 0 0]) (t := 68) ?hr ?_; (case hd => rfl); (case hg => rfl); (case hr => first | (go_simp; done) | (go_simp; rfl))
        intro a7 hg n8 hbox hb
        replace HO_415000 := Aside0.mk (Kd.N_below (Kd.N_elderB (kN HO_415000) a7 (Nat.le_of_eq hg.symm)) hb)
        have a8 := Aside0.mk (hbox)
        have p2 := bsz HB hg
        have p4 := bsz HB hg
        replace HB := bstep HB hb
        have b9 := blt a3 hg
        have b6 := bgt a3 hg
        replace a3 := bkb a3 hb
        have b8 := blt a2 hg
        have b5 := bgt a2 hg
        replace a2 := bkb a2 hb
        have b7 := blt a5 hg
        have b4 := bgt a5 hg
        replace a5 := bkb a5 hb
        clear hb hbox hg
        refine hK.out _ _ ⟨bc a5 0, bc a5 1⟩ (fun hHeld => ?_)
        clear hK K
        refine norm_ (a' := ?_) ?_ ?_
        rotate_left
        ·show Act.put _ (some 8) _ = _
         simp only [Act.put, List.setIfInBounds_toArray, List.set_cons_zero, List.set_cons_succ, i64_w, i32_w]
         rfl
        refine one_ (i := 18) (N := none) #[true, true, true, true, true, true, true, true, true, true, true, true, true, true, true, true, true, true, true] rfl rfl (one_of HT_.out (by kernel_rfl)) (by decide) (fun K hK => ?_)
        have a4e : n8.cell? ⟨a7, 0, none⟩ = some (.string (⟨#[]⟩ : ByteArray)) := bc a8 0
        have a1a := blk_frozen a8.out 0
        have D1 := b9.out
        have D0 := b8.out
        have C9 := b7.out
        have G7 := b6.out
        have G6 := b5.out
        have G5 := b4.out
        have a4d : n8.cell? ⟨a7, 1, none⟩ = some (.int .i64 0) := bc a8 1
        have a0j := blk_frozen a8.out 1
        have C8 := b9.out
        have C7 := b8.out
        have C6 := b7.out
        have G4 := b6.out
        have G3 := b5.out
        have G2 := b4.out
        have a4c : n8.cell? ⟨a7, 2, none⟩ = some (.bool false) := bc a8 2
        have a0i := blk_frozen a8.out 2
        have C5 := b9.out
        have C4 := b8.out
        have C3 := b7.out
        have G1 := b6.out
        have G0 := b5.out
        have F9 := b4.out
        have a4b : n8.cell? ⟨a7, 3, none⟩ = some (.slice none 0 0) := bc a8 3
        have a0h := blk_frozen a8.out 3
        have C2 := b9.out
        have C1 := b8.out
        have C0 := b7.out
        have F8 := b6.out
        have F7 := b5.out
        have F6 := b4.out
        refine skip_ (w1 := ?_) (by rfl) rfl ?_ ?_
        rotate_left
        ·go_simp
         rfl
        refine hK.out _ _ ⟨(cfr hHeld.1), (cfr hHeld.2)⟩ (fun hHeld => ?_)
        clear hK K
        refine done_ (done_of HT_.out (by kernel_rfl)) ?_
        have Z0 := d3.out
        have W8 := d5.out
        have Y9 := d2.out
        have W7 := d4.out
        have Y8 := b7.out
        have W6 := b4.out
        obtain ⟨P1, P0, L1, L0⟩ := cz2 a5
        have Y7 := d0.out
        have W5 := d1.out
        have Y6 := b8.out
        have W4 := b5.out
        obtain ⟨O9, O8, J9, J8⟩ := cz2 a2
        have Y5 := b6.out
        have W3 := b9.out
        obtain ⟨O7, O6, O5, O4, J7, J6, J5, J4⟩ := cz4 a8
        try go_wp2_with (first | ((with_reducible refine gate_builtin (b := .append) (xs := #[.tmp 79, .tmp 81]) rfl ?_); (try (refine gate_guard (by rfl) ?_; dsimp only)); at_builtin; refine Kd.N_append k68 (w0 := w) w.heap.size rfl (.tmp 79) (.tmp 81) 22 68 (.agg #[(.string ⟨#[]⟩), (.int .i64 0), (.bool false), (.slice none 0 0)]) 56 rfl Try.underlying22 info68 rfl (by decide) (by omega) a6 a4 (⟨(⟨#[65, 66, 67, 68, 69, 70]⟩ : ByteArray).extract (a1 : Int).toNat ((wrap64 (a1 + 1)) : Int).toNat, wrap64 ((Int.tmod (wrap64 (a0)) (wrap64 (a1 + 1))) - 1), (((Int.tdiv a0 16) % 4) == 3), ([] : List (S77))⟩ : S68) [.string ((⟨#[65, 66, 67, 68, 69, 70]⟩ : ByteArray).extract (a1 : Int).toNat ((wrap64 (a1 + 1)) : Int).toNat), .int .i64 (wrap64 ((Int.tmod (wrap64 (a0)) (wrap64 (a1 + 1))) - 1)), .bool (((Int.tdiv a0 16) % 4) == 3), .slice none 0 0] (fun k_ => (w.heap.size ≤ k_) ∧ k_ ≠ b1 ∧ k_ ≠ a9 ∧ k_ ≠ b0 ∧ k_ ≠ a7) (fun k_ => ((fun k_ => (w.heap.size ≤ k_) ∧ k_ ≠ b1 ∧ k_ ≠ a9 ∧ k_ ≠ b0 ∧ k_ ≠ a7)) k_ ∧ some k_ ≠ (a6 : Value).ownBlock) rfl (by first | (go_simp; done) | (go_simp; rfl)) ?aP (fun _ hk => hk) ?aF ?aO ?aB ?aS ?aL ?_; (case aP => exact (k68_mkF _ _ (⟨(⟨#[65, 66, 67, 68, 69, 70]⟩ : ByteArray).extract (a1 : Int).toNat ((wrap64 (a1 + 1)) : Int).toNat, wrap64 ((Int.tmod (wrap64 (a0)) (wrap64 (a1 + 1))) - 1), (((Int.tdiv a0 16) % 4) == 3), ([] : List (S77))⟩ : S68) (Nat.le_refl _) (Kd.F_nil _ _ _))); (case aB => exact (bb HB)); (case aF => exact (fun k_ hk => ⟨(Nat.le_trans (below_size (bb HB)) hk), Kd.freshB (g := b1) (o := .cells #[.slice none 0 0, .slice none 0 0] 25 (0, 0)) (bkF a3) k_ hk, Kd.freshB (g := a9) (o := .cells #[a6, .slice none 0 0] 25 (0, 0)) (bkF a2) k_ hk, Kd.freshB (g := b0) (o := .cells #[.int .u8 a0, .int .u8 b2] 81 (0, 0)) (bkF a5) k_ hk, Kd.freshB (g := a7) (o := .cells #[.string ((⟨#[65, 66, 67, 68, 69, 70]⟩ : ByteArray).extract (a1 : Int).toNat ((wrap64 (a1 + 1)) : Int).toNat), .int .i64 (wrap64 ((Int.tmod (wrap64 (a0)) (wrap64 (a1 + 1))) - 1)), .bool (((Int.tdiv a0 16) % 4) == 3), .slice none 0 0] 68 (0, 0)) (bkP a8) k_ hk⟩)); (case aO => exact (kNm (g := a7) HO_415000 (fun _ hk => hk.2) (fun _ hk => ⟨hk.1.1.1, ⟨hk.1.1.2.1, ⟨hk.1.1.2.2.1, ⟨hk.1.1.2.2.2, hk.1.2⟩⟩⟩⟩))); (case aS => exact (below_size (bb HB))); (case aL => have := t3.out; omega); intro a3f w95 ho hb hg hat; rw [← t0.out] at ho; replace a3 := Aside0.mk (blk_grown (g := b1) (o := .cells #[.slice none 0 0, .slice none 0 0] 25 (0, 0)) (bkF a3) hg (Kd.N_ne HO_415000.out a3.out (by decide))); replace a2 := Aside0.mk (blk_grown (g := a9) (o := .cells #[a6, .slice none 0 0] 25 (0, 0)) (bkF a2) hg (Kd.N_ne HO_415000.out a2.out (by decide))); replace a5 := Aside0.mk (blk_grown (g := b0) (o := .cells #[.int .u8 a0, .int .u8 b2] 81 (0, 0)) (bkF a5) hg (Kd.N_ne HO_415000.out a5.out (by decide))); replace a8 := Aside0.mk (blk_grown (g := a7) (o := .cells #[.string ((⟨#[65, 66, 67, 68, 69, 70]⟩ : ByteArray).extract (a1 : Int).toNat ((wrap64 (a1 + 1)) : Int).toNat), .int .i64 (wrap64 ((Int.tmod (wrap64 (a0)) (wrap64 (a1 + 1))) - 1)), .bool (((Int.tdiv a0 16) % 4) == 3), .slice none 0 0] 68 (0, 0)) (bkP a8) hg (Kd.N_away HO_415000.out (fun _ hk => hk.2))); replace HB := Aside0.mk (hb); have o9 := Aside0.mk (ho); clear HO_415000 ho hb hg hat; obtain ⟨A7, A2, eo96⟩ := Kd.N_slice o9.out; subst eo96; obtain ⟨O3, O2, J3, J2⟩ := cz2 a2))
        go_roundg g8
        case measure => have := e2.out; have := g4.out; have := m6.out; omega
        case rel => exact ⟨(wrap64 (a1 + 1)), (m8), (.slice A7 m8.length A2), eqs, H', ⟨by have := e2.out; have := g4.out; have := m6.out; omega⟩, ⟨kNm (g := a9) o9 (fun _ hk => hk.2.2.1) (fun _ hk => ⟨hk.1.1, ⟨hk.1.2.1, hk.1.2.2.1⟩⟩)⟩, ⟨bkF a3⟩, ⟨bkP a2⟩, ⟨bb HB⟩⟩
       rw [if_pos m0] at H
       have r9 := beq_iff_eq.mpr m0
       have r8 := bne_eq_false_iff_eq.mpr m0
       clear m0
       obtain ⟨g5, h3⟩ : ∃ y_ : List ByteArray, y_ = (([(⟨#[111, 102, 102]⟩ : ByteArray), (⟨#[111, 110]⟩ : ByteArray)] : List ByteArray)) := ⟨_, rfl⟩
       replace H : (if a4.length < 2513169434916 then (q4_Made.l0 g8 l0 l1 (wrap64 (a1 + 1)) (a4 ++ [(⟨(⟨#[65, 66, 67, 68, 69, 70]⟩ : ByteArray).extract (a1 : Int).toNat ((wrap64 (a1 + 1)) : Int).toNat, wrap64 ((Int.tmod (wrap64 (a0)) (wrap64 (a1 + 1))) - 1), (((Int.tdiv a0 16) % 4) == 3), (([(⟨(⟨#[117, 118, 119, 120, 121, 122]⟩ : ByteArray).extract (a1 : Int).toNat ((wrap64 (a1 + 1)) : Int).toNat, 0, 1, g5⟩ : S77)] : List (S77)))⟩ : S68)])) else (none)) = some (r1, r2) := by first | (rw [h3]; with_reducible exact H) | (have H2_ := (Option.bind_some _ _).symm.trans H; rw [h3]; with_reducible exact H2_) | (have H2_ := (Option.bind_some _ _).symm.trans H; with_reducible exact H2_) | with_reducible exact H | (rw [h3]; exact H) | exact H
       have o6 := Aside0.mk h3
       clear h3
       obtain ⟨d9, h2⟩ : ∃ y_ : List (S77), y_ = (([(⟨(⟨#[117, 118, 119, 120, 121, 122]⟩ : ByteArray).extract (a1 : Int).toNat ((wrap64 (a1 + 1)) : Int).toNat, 0, 1, g5⟩ : S77)] : List (S77))) := ⟨_, rfl⟩
       replace H : (if a4.length < 2513169434916 then (q4_Made.l0 g8 l0 l1 (wrap64 (a1 + 1)) (a4 ++ [(⟨(⟨#[65, 66, 67, 68, 69, 70]⟩ : ByteArray).extract (a1 : Int).toNat ((wrap64 (a1 + 1)) : Int).toNat, wrap64 ((Int.tmod (wrap64 (a0)) (wrap64 (a1 + 1))) - 1), (((Int.tdiv a0 16) % 4) == 3), d9⟩ : S68)])) else (none)) = some (r1, r2) := by first | (rw [h2]; with_reducible exact H) | (have H2_ := (Option.bind_some _ _).symm.trans H; rw [h2]; with_reducible exact H2_) | (have H2_ := (Option.bind_some _ _).symm.trans H; with_reducible exact H2_) | with_reducible exact H | (rw [h2]; exact H) | exact H
       have o5 := Aside0.mk h2
       clear h2
       obtain ⟨v4, H⟩ := itn H
       have t4 := Aside0.mk v4
       clear v4
       obtain ⟨m9, h1⟩ : ∃ y_ : List (S68), y_ = (a4 ++ [(⟨(⟨#[65, 66, 67, 68, 69, 70]⟩ : ByteArray).extract (a1 : Int).toNat ((wrap64 (a1 + 1)) : Int).toNat, wrap64 ((Int.tmod (wrap64 (a0)) (wrap64 (a1 + 1))) - 1), (((Int.tdiv a0 16) % 4) == 3), d9⟩ : S68)]) := ⟨_, rfl⟩
       replace H : (q4_Made.l0 g8 l0 l1 (wrap64 (a1 + 1)) m9) = some (r1, r2) := by first | (rw [h1]; with_reducible exact H) | (have H2_ := (Option.bind_some _ _).symm.trans H; rw [h1]; with_reducible exact H2_) | (have H2_ := (Option.bind_some _ _).symm.trans H; with_reducible exact H2_) | with_reducible exact H | (rw [h1]; exact H) | exact H
       have t1 := Aside0.mk h1
       clear h1
       have H' := Aside0.mk H
       clear H
       try go_wp2
       replace HO_415000 := Aside0.mk (Kd.N_drew HO_415000.out)
       replace a3 := Aside0.mk (blk_drew a3.out)
       replace a2 := Aside0.mk (blk_drew a2.out)
       replace a5 := Aside0.mk (blk_drew a5.out)
       replace HB := Aside0.mk (below_drew1 HB.out)
       refine start_ (n := 19) (S := fun w' => w'.cell? ⟨b0, 0, none⟩ = some (.int .u8 a0) ∧ w'.cell? ⟨b0, 1, none⟩ = some (.int .u8 b2)) (ds := []) #[false, false, false, false, false, false, false, false, false, false, false, false, false, false, false, false, false, false, false] (by kernel_rfl) rfl rfl ⟨bc a5 0, bc a5 1⟩ (fun hHeld => ?_); refine with_tabW q4_Made.tab8 q4_Made.bits8 (fun HT_ HW_ => ?_)
       generalize wc.drew = w53 at HO_415000 a3 a2 a5 HB hHeld ⊢
       refine pu 0 35 (bits 19 0x1) HT_ (h := ?_)
       refine pu 1 36 (bits 19 0x3) HT_ (h := ?_)
       refine pu 2 37 (bits 19 0x7) HT_ (h := ?_)
       refine pu 3 38 (bits 19 0xf) HT_ (h := ?_)
       refine pu 4 39 (bits 19 0x1f) HT_ (h := ?_)
       refine pu 7 42 (bits 19 0x9f) HT_ (h := ?_)
       refine pu 8 43 (bits 19 0x19f) HT_ (h := ?_)
       refine pu 11 46 (bits 19 0x99f) HT_ (h := ?_)
       refine tk 5 40 (bits 19 0x9bf) HT_ HW_ hHeld (hy := by rintro w' ⟨s0, s1⟩; go_simp; with_reducible rfl) (h := ?_)
       refine pu 6 41 (bits 19 0x9ff) HT_ (h := ?_)
       refine pu 9 44 (bits 19 0xbff) HT_ (h := ?_)
       refine pu 10 45 (bits 19 0xfff) HT_ (h := ?_)
       refine tk 12 47 (bits 19 0x1fff) HT_ HW_ hHeld (hy := by rintro w' ⟨s0, s1⟩; go_simp; with_reducible rfl) (h := ?_)
       refine pu 13 48 (bits 19 0x3fff) HT_ (h := ?_)
       refine pu 14 49 (bits 19 0x7fff) HT_ (h := ?_)
       refine pu 15 50 (bits 19 0xffff) HT_ (h := ?_)
       refine pu 16 51 (bits 19 0x1ffff) HT_ (h := ?_)
       refine one_ (i := 17) (N := some 8) #[true, true, true, true, true, true, true, true, true, true, true, true, true, true, true, true, true, true, false] rfl rfl (one_of HT_.out (by kernel_rfl)) (by decide) (fun K hK => ?_)
       refine box_step ?hg (N := 8) ?hd (cs := #[.string (⟨#[]⟩ : ByteArray), .int .i64 0, .bool false, .slice none 0 0]) (t := 68) ?hr ?_; (case hd => rfl); (case hg => rfl); (case hr => first | (go_simp; done) | (go_simp; rfl))
       intro a7 hg n9 hbox hb
       replace HO_415000 := Aside0.mk (Kd.N_below (Kd.N_elderB (kN HO_415000) a7 (Nat.le_of_eq hg.symm)) hb)
       have a8 := Aside0.mk (hbox)
       have p2 := bsz HB hg
       have p4 := bsz HB hg
       replace HB := bstep HB hb
       have b9 := blt a3 hg
       have b6 := bgt a3 hg
       replace a3 := bkb a3 hb
       have b8 := blt a2 hg
       have b5 := bgt a2 hg
       replace a2 := bkb a2 hb
       have b7 := blt a5 hg
       have b4 := bgt a5 hg
       replace a5 := bkb a5 hb
       clear hb hbox hg
       refine hK.out _ _ ⟨bc a5 0, bc a5 1⟩ (fun hHeld => ?_)
       clear hK K
       refine norm_ (a' := ?_) ?_ ?_
       rotate_left
       ·show Act.put _ (some 8) _ = _
        simp only [Act.put, List.setIfInBounds_toArray, List.set_cons_zero, List.set_cons_succ, i64_w, i32_w]
        rfl
       refine one_ (i := 18) (N := none) #[true, true, true, true, true, true, true, true, true, true, true, true, true, true, true, true, true, true, true] rfl rfl (one_of HT_.out (by kernel_rfl)) (by decide) (fun K hK => ?_)
       have a4i : n9.cell? ⟨a7, 0, none⟩ = some (.string (⟨#[]⟩ : ByteArray)) := bc a8 0
       have a1e := blk_frozen a8.out 0
       have E3 := b9.out
       have E2 := b8.out
       have E1 := b7.out
       have H9 := b6.out
       have H8 := b5.out
       have H7 := b4.out
       have a4h : n9.cell? ⟨a7, 1, none⟩ = some (.int .i64 0) := bc a8 1
       have a1d := blk_frozen a8.out 1
       have E0 := b9.out
       have D9 := b8.out
       have D8 := b7.out
       have H6 := b6.out
       have H5 := b5.out
       have H4 := b4.out
       have a4g : n9.cell? ⟨a7, 2, none⟩ = some (.bool false) := bc a8 2
       have a1c := blk_frozen a8.out 2
       have D7 := b9.out
       have D6 := b8.out
       have D5 := b7.out
       have H3 := b6.out
       have H2 := b5.out
       have H1 := b4.out
       have a4f : n9.cell? ⟨a7, 3, none⟩ = some (.slice none 0 0) := bc a8 3
       have a1b := blk_frozen a8.out 3
       have D4 := b9.out
       have D3 := b8.out
       have D2 := b7.out
       have H0 := b6.out
       have G9 := b5.out
       have G8 := b4.out
       refine skip_ (w1 := ?_) (by rfl) rfl ?_ ?_
       rotate_left
       ·go_simp
        rfl
       refine hK.out _ _ ⟨(cfr hHeld.1), (cfr hHeld.2)⟩ (fun hHeld => ?_)
       clear hK K
       refine done_ (done_of HT_.out (by kernel_rfl)) ?_
       have Z6 := d3.out
       have X4 := d5.out
       have Z5 := d2.out
       have X3 := d4.out
       have Z4 := b7.out
       have X2 := b4.out
       obtain ⟨Q5, Q4, M5, M4⟩ := cz2 a5
       try go_wp2_with (first | ((with_reducible refine gate_dst (N := 74) rfl ?_); (try (refine gate_guard (by rfl) ?_; dsimp only)); refine Kd.R_lit Kd.string _ 9 ?hg (N := 74) ?hd (xs := ([(⟨#[111, 102, 102]⟩ : ByteArray), (⟨#[111, 110]⟩ : ByteArray)] : List ByteArray)) (inner := [.string (⟨#[111, 102, 102]⟩ : ByteArray), .string (⟨#[111, 110]⟩ : ByteArray)]) (ok := fun _ => True) (okp := fun _ => True) ?hr ?hp (fun _ hk => hk) trivial (Below.refl _ _) (Nat.le_refl _) (by simp) ?_; (case hd => rfl); (case hg => rfl); (case hr => first | (go_simp; done) | (go_simp; rfl)); (case hp => exact (Reps.one (show Kd.M Kd.string _ _ _ (⟨#[111, 102, 102]⟩ : ByteArray) [.string (⟨#[111, 102, 102]⟩ : ByteArray)] from rfl) (Reps.one (show Kd.M Kd.string _ _ _ (⟨#[111, 110]⟩ : ByteArray) [.string (⟨#[111, 110]⟩ : ByteArray)] from rfl) (Reps.none _ _)))); intro a3i w63 h9 hb hg_ hnew_; clear hg_ hnew_; (first | rw [← o6.out] at h9 | (simp only [Int.reduceToNat] at h9; rw [← o6.out] at h9)); replace HO_415000 := Aside0.mk (Kd.N_elder' (kNn (g := a7) HO_415000 (fun _ hk => hk.2)) (Kd.R_base h9) hb); have j6 := Aside0.mk (Kd.R_lower (Kd.R_newM (M := fun k_ => (w.heap.size ≤ k_)) h9 (below_size (bb HB)) (fun k_ h_ => h_)) (below_size (bb HB))); replace a3 := Aside0.mk (blk_below (g := b1) (o := .cells #[.slice none 0 0, .slice none 0 0] 25 (0, 0)) (bkF a3) hb); replace a2 := Aside0.mk (blk_below (g := a9) (o := .cells #[a6, .slice none 0 0] 25 (0, 0)) (bkF a2) hb); replace a5 := Aside0.mk (blk_below (g := b0) (o := .cells #[.int .u8 a0, .int .u8 b2] 81 (0, 0)) (bkF a5) hb); replace a8 := Aside0.mk (blk_below (g := a7) (o := .cells #[.string ((⟨#[65, 66, 67, 68, 69, 70]⟩ : ByteArray).extract (a1 : Int).toNat ((wrap64 (a1 + 1)) : Int).toNat), .int .i64 (wrap64 ((Int.tmod (wrap64 (a0)) (wrap64 (a1 + 1))) - 1)), .bool (((Int.tdiv a0 16) % 4) == 3), .slice none 0 0] 68 (0, 0)) (bkP a8) hb); replace HB := bstep HB hb; clear hb h9; obtain ⟨r3, q3, eo65⟩ := Kd.R_slice j6.out; subst eo65) | ((with_reducible refine gate_dst (N := 76) rfl ?_); (try (refine gate_guard (by rfl) ?_; dsimp only)); refine Kd.N_lit k77 _ 77 ?hg (N' := 76) ?hd (xs := ([(⟨(⟨#[117, 118, 119, 120, 121, 122]⟩ : ByteArray).extract (a1 : Int).toNat ((wrap64 (a1 + 1)) : Int).toNat, 0, 1, g5⟩ : S77)] : List (S77))) (inner := [.string ((⟨#[117, 118, 119, 120, 121, 122]⟩ : ByteArray).extract (a1 : Int).toNat ((wrap64 (a1 + 1)) : Int).toNat), .int .i64 0, .int .i64 1, .slice r3 g5.length q3]) (ok := (fun k_ => (w.heap.size ≤ k_) ∧ some k_ ≠ (a6 : Value).ownBlock ∧ k_ ≠ b1 ∧ k_ ≠ a9 ∧ k_ ≠ b0 ∧ k_ ≠ a7)) (okp := (fun k_ => (w.heap.size ≤ k_) ∧ some k_ ≠ (a6 : Value).ownBlock ∧ k_ ≠ b1 ∧ k_ ≠ a9 ∧ k_ ≠ b0 ∧ k_ ≠ a7)) ?hr ?hp (fun _ hk => hk) ((show ∀ k_, _ ≤ k_ → (fun k_ => (w.heap.size ≤ k_) ∧ some k_ ≠ (a6 : Value).ownBlock ∧ k_ ≠ b1 ∧ k_ ≠ a9 ∧ k_ ≠ b0 ∧ k_ ≠ a7) k_ from fun k_ hk => ⟨(Nat.le_trans (below_size (bb HB)) hk), Kd.fresh' (Kd.N_lt (kN HO_415000)) k_ hk, Kd.freshB (g := b1) (o := .cells #[.slice none 0 0, .slice none 0 0] 25 (0, 0)) (bk a3) k_ hk, Kd.freshB (g := a9) (o := .cells #[a6, .slice none 0 0] 25 (0, 0)) (bk a2) k_ hk, Kd.freshB (g := b0) (o := .cells #[.int .u8 a0, .int .u8 b2] 81 (0, 0)) (bk a5) k_ hk, Kd.freshB (g := a7) (o := .cells #[.string ((⟨#[65, 66, 67, 68, 69, 70]⟩ : ByteArray).extract (a1 : Int).toNat ((wrap64 (a1 + 1)) : Int).toNat), .int .i64 (wrap64 ((Int.tmod (wrap64 (a0)) (wrap64 (a1 + 1))) - 1)), .bool (((Int.tdiv a0 16) % 4) == 3), .slice none 0 0] 68 (0, 0)) (bk a8) k_ hk⟩) _ (Nat.le_refl _)) (Below.refl _ _) (Nat.le_refl _) (by simp) ?_; (case hd => rfl); (case hg => rfl); (case hr => first | (go_simp; done) | (go_simp; rfl)); (case hp => exact (Reps.c4 (show Kd.FK k77 _ _ (⟨(⟨#[117, 118, 119, 120, 121, 122]⟩ : ByteArray).extract (a1 : Int).toNat ((wrap64 (a1 + 1)) : Int).toNat, 0, 1, g5⟩ : S77) [.string ((⟨#[117, 118, 119, 120, 121, 122]⟩ : ByteArray).extract (a1 : Int).toNat ((wrap64 (a1 + 1)) : Int).toNat), .int .i64 0, .int .i64 1, .slice r3 g5.length q3] from (k77_mkF _ _ (⟨(⟨#[117, 118, 119, 120, 121, 122]⟩ : ByteArray).extract (a1 : Int).toNat ((wrap64 (a1 + 1)) : Int).toNat, 0, 1, g5⟩ : S77) (Kd.R_reads' (Kd.R_mono (ok' := (fun k_ => (w.heap.size ≤ k_) ∧ some k_ ≠ (a6 : Value).ownBlock ∧ k_ ≠ b1 ∧ k_ ≠ a9 ∧ k_ ≠ b0 ∧ k_ ≠ a7)) (Kd.R_types (Kd.R_types (Kd.R_types (Kd.R_types (Kd.R_apart' (j6.out) (Kd.N_typed HO_415000.out) (by decide)) a3.out (by decide)) a2.out (by decide)) a5.out (by decide)) a8.out (by decide)) (fun k_ hk => ⟨hk.1.1.1.1.1.1, ⟨hk.1.1.1.1.2, ⟨hk.1.1.1.2, ⟨hk.1.1.2, ⟨hk.1.2, hk.2⟩⟩⟩⟩⟩))).2.1 (Kd.R_F (Kd.R_mono (ok' := (fun k_ => (w.heap.size ≤ k_) ∧ some k_ ≠ (a6 : Value).ownBlock ∧ k_ ≠ b1 ∧ k_ ≠ a9 ∧ k_ ≠ b0 ∧ k_ ≠ a7)) (Kd.R_types (Kd.R_types (Kd.R_types (Kd.R_types (Kd.R_apart' (j6.out) (Kd.N_typed HO_415000.out) (by decide)) a3.out (by decide)) a2.out (by decide)) a5.out (by decide)) a8.out (by decide)) (fun k_ hk => ⟨hk.1.1.1.1.1.1, ⟨hk.1.1.1.1.2, ⟨hk.1.1.1.2, ⟨hk.1.1.2, ⟨hk.1.2, hk.2⟩⟩⟩⟩⟩))))) (Reps.none _ _))); intro a3h U3 h8 hb hg_ hnew_; clear hg_ hnew_; (first | rw [← o5.out] at h8 | (simp only [Int.reduceToNat] at h8; rw [← o5.out] at h8)); replace HO_415000 := Aside0.mk (Kd.N_elder' (kN HO_415000) (Kd.N_base h8) hb); have g2 := Aside0.mk (Kd.N_lower h8 (below_size (bb HB))); replace a3 := bkb a3 hb; replace a2 := bkb a2 hb; replace a5 := bkb a5 hb; replace a8 := bkb a8 hb; replace HB := bstep HB hb; clear j6 hb h8; obtain ⟨j4, j3, eo68⟩ := Kd.N_slice g2.out; subst eo68; have Z3 := b6.out; have X1 := b9.out; have Z2 := b5.out; have X0 := b8.out; obtain ⟨Q3, Q2, Q1, Q0, M3, M2, M1, M0⟩ := cz4 a8) | ((with_reducible refine gate_store (t := 45) (p := 77) rfl ?_); refine store_event (t := 45) (p := 77) (v := ?vo_w72) (w1 := (U3.setCell ⟨a7, 3, none⟩ (.slice j4 d9.length j3))) ?hg ?ho ?hn ?hr ?_; (case ho => rfl); (case hg => rfl); (case hn => rfl); (case hr => first | (go_simp; done) | (go_simp; rfl)); intro j7 hw; replace HO_415000 : Aside0 (Kd.N k68 68 j7 w.heap.size (fun k_ => (w.heap.size ≤ k_) ∧ some k_ ≠ (.slice j4 d9.length j3 : Value).ownBlock ∧ k_ ≠ b1 ∧ k_ ≠ a9 ∧ k_ ≠ b0 ∧ k_ ≠ a7) a6 a4) := ⟨(by rw [hw]; exact (kNm (g := a7) HO_415000 (fun _ hk => hk.1.1.2) (fun _ hk => ⟨hk.1.1.1.1.1, ⟨hk.1.2, ⟨hk.1.1.1.1.2.1, ⟨hk.1.1.1.1.2.2.1, ⟨hk.1.1.1.1.2.2.2, hk.1.1.1.2⟩⟩⟩⟩⟩)))⟩; replace g2 : Aside0 (Kd.N k77 77 j7 w.heap.size (fun k_ => (w.heap.size ≤ k_) ∧ some k_ ≠ (a6 : Value).ownBlock ∧ k_ ≠ b1 ∧ k_ ≠ a9 ∧ k_ ≠ b0 ∧ k_ ≠ a7) (.slice j4 d9.length j3) d9) := ⟨(by rw [hw]; exact (kNm (g := a7) g2 (fun _ hk => hk.2.2.2.2.2) (fun _ hk => ⟨hk.1.1, ⟨hk.1.2.1, ⟨hk.1.2.2.1, ⟨hk.1.2.2.2.1, ⟨hk.1.2.2.2.2.1, hk.1.2.2.2.2.2⟩⟩⟩⟩⟩)))⟩; replace a3 : Aside0 (j7.heap[b1]? = some (.cells #[.slice none 0 0, .slice none 0 0] 25 (0, 0))) := ⟨(by rw [hw]; exact bkF a3)⟩; replace a2 : Aside0 (j7.heap[a9]? = some (.cells #[a6, .slice none 0 0] 25 (0, 0))) := ⟨(by rw [hw]; exact bkF a2)⟩; replace a5 : Aside0 (j7.heap[b0]? = some (.cells #[.int .u8 a0, .int .u8 b2] 81 (0, 0))) := ⟨(by rw [hw]; exact bkF a5)⟩; replace a8 : Aside0 (j7.heap[a7]? = some (.cells #[.string ((⟨#[65, 66, 67, 68, 69, 70]⟩ : ByteArray).extract (a1 : Int).toNat ((wrap64 (a1 + 1)) : Int).toNat), .int .i64 (wrap64 ((Int.tmod (wrap64 (a0)) (wrap64 (a1 + 1))) - 1)), .bool (((Int.tdiv a0 16) % 4) == 3), .slice j4 d9.length j3] 68 (0, 0))) := ⟨(by rw [hw]; exact (bkP a8))⟩; replace HB : Aside0 (Below w.heap.size w j7) := ⟨(by rw [hw]; exact (bb HB))⟩; clear hw; have Z1 := d0.out; have W9 := d1.out; obtain ⟨P9, P8, L9, L8⟩ := cz2 a2; obtain ⟨P7, P6, P5, P4, L7, L6, L5, L4⟩ := cz4 a8) | ((with_reducible refine gate_builtin (b := .append) (xs := #[.tmp 79, .tmp 81]) rfl ?_); (try (refine gate_guard (by rfl) ?_; dsimp only)); at_builtin; refine Kd.N_append k68 (w0 := w) w.heap.size rfl (.tmp 79) (.tmp 81) 22 68 (.agg #[(.string ⟨#[]⟩), (.int .i64 0), (.bool false), (.slice none 0 0)]) 56 rfl Try.underlying22 info68 rfl (by decide) (by omega) a6 a4 (⟨(⟨#[65, 66, 67, 68, 69, 70]⟩ : ByteArray).extract (a1 : Int).toNat ((wrap64 (a1 + 1)) : Int).toNat, wrap64 ((Int.tmod (wrap64 (a0)) (wrap64 (a1 + 1))) - 1), (((Int.tdiv a0 16) % 4) == 3), d9⟩ : S68) [.string ((⟨#[65, 66, 67, 68, 69, 70]⟩ : ByteArray).extract (a1 : Int).toNat ((wrap64 (a1 + 1)) : Int).toNat), .int .i64 (wrap64 ((Int.tmod (wrap64 (a0)) (wrap64 (a1 + 1))) - 1)), .bool (((Int.tdiv a0 16) % 4) == 3), .slice j4 d9.length j3] (fun k_ => (w.heap.size ≤ k_) ∧ k_ ≠ b1 ∧ k_ ≠ a9 ∧ k_ ≠ b0 ∧ k_ ≠ a7) (fun k_ => ((fun k_ => (w.heap.size ≤ k_) ∧ k_ ≠ b1 ∧ k_ ≠ a9 ∧ k_ ≠ b0 ∧ k_ ≠ a7)) k_ ∧ some k_ ≠ (a6 : Value).ownBlock) rfl rfl ?aP (fun _ hk => hk) ?aF ?aO ?aB ?aS ?aL ?_; (case aP => exact (k68_mkF _ _ (⟨(⟨#[65, 66, 67, 68, 69, 70]⟩ : ByteArray).extract (a1 : Int).toNat ((wrap64 (a1 + 1)) : Int).toNat, wrap64 ((Int.tmod (wrap64 (a0)) (wrap64 (a1 + 1))) - 1), (((Int.tdiv a0 16) % 4) == 3), d9⟩ : S68) (Kd.N_reads' (Kd.N_mono (ok' := (fun k_ => ((fun k_ => (w.heap.size ≤ k_) ∧ k_ ≠ b1 ∧ k_ ≠ a9 ∧ k_ ≠ b0 ∧ k_ ≠ a7)) k_ ∧ some k_ ≠ (a6 : Value).ownBlock)) (g2.out) (fun k_ hk => ⟨⟨hk.1, ⟨hk.2.2.1, ⟨hk.2.2.2.1, ⟨hk.2.2.2.2.1, hk.2.2.2.2.2⟩⟩⟩⟩, hk.2.1⟩))).2.1 (Kd.N_F (Kd.N_mono (ok' := (fun k_ => ((fun k_ => (w.heap.size ≤ k_) ∧ k_ ≠ b1 ∧ k_ ≠ a9 ∧ k_ ≠ b0 ∧ k_ ≠ a7)) k_ ∧ some k_ ≠ (a6 : Value).ownBlock)) (g2.out) (fun k_ hk => ⟨⟨hk.1, ⟨hk.2.2.1, ⟨hk.2.2.2.1, ⟨hk.2.2.2.2.1, hk.2.2.2.2.2⟩⟩⟩⟩, hk.2.1⟩))))); (case aB => exact (bb HB)); (case aF => exact (fun k_ hk => ⟨(Nat.le_trans (below_size (bb HB)) hk), Kd.freshB (g := b1) (o := .cells #[.slice none 0 0, .slice none 0 0] 25 (0, 0)) (bk a3) k_ hk, Kd.freshB (g := a9) (o := .cells #[a6, .slice none 0 0] 25 (0, 0)) (bk a2) k_ hk, Kd.freshB (g := b0) (o := .cells #[.int .u8 a0, .int .u8 b2] 81 (0, 0)) (bk a5) k_ hk, Kd.freshB (g := a7) (o := .cells #[.string ((⟨#[65, 66, 67, 68, 69, 70]⟩ : ByteArray).extract (a1 : Int).toNat ((wrap64 (a1 + 1)) : Int).toNat), .int .i64 (wrap64 ((Int.tmod (wrap64 (a0)) (wrap64 (a1 + 1))) - 1)), .bool (((Int.tdiv a0 16) % 4) == 3), .slice j4 d9.length j3] 68 (0, 0)) (bk a8) k_ hk⟩)); (case aO => exact (kNmm HO_415000 (fun _ hk => ⟨hk.1, ⟨hk.2.2.1, ⟨hk.2.2.2.1, ⟨hk.2.2.2.2.1, hk.2.2.2.2.2⟩⟩⟩⟩))); (case aS => exact (below_size (bb HB))); (case aL => have := t4.out; omega); intro a3g w76 ho hb hg hat; rw [← t1.out] at ho; replace a3 := Aside0.mk (blk_grown (g := b1) (o := .cells #[.slice none 0 0, .slice none 0 0] 25 (0, 0)) (bk a3) hg (Kd.N_ne HO_415000.out a3.out (by decide))); replace a2 := Aside0.mk (blk_grown (g := a9) (o := .cells #[a6, .slice none 0 0] 25 (0, 0)) (bk a2) hg (Kd.N_ne HO_415000.out a2.out (by decide))); replace HB := Aside0.mk (hb); have p0 := Aside0.mk (ho); clear HO_415000 g2; clear ho hb hg hat; obtain ⟨A8, A3, eo77⟩ := Kd.N_slice p0.out; subst eo77; obtain ⟨P3, P2, L3, L2⟩ := cz2 a2))
       go_roundg g8
       case measure => have := e2.out; have := g4.out; have := m6.out; omega
       case rel => exact ⟨(wrap64 (a1 + 1)), (m9), (.slice A8 m9.length A3), eqs, H', ⟨by have := e2.out; have := g4.out; have := m6.out; omega⟩, ⟨kNm (g := a9) p0 (fun _ hk => hk.2.2.1) (fun _ hk => ⟨hk.1.1, ⟨hk.1.2.1, hk.1.2.2.1⟩⟩)⟩, ⟨bkF a3⟩, ⟨bkP a2⟩, ⟨bb HB⟩⟩
end Go.Proofs.Ytfpianecohobjaa.P
