/- typesOrder_holds, typesBounds_holds, typesInherit_holds: a part of the proof that the law returns true for every input. No condition. -/
import Derived.Test.YtfpianecohobjaaAPx0
namespace Go.Proofs.Ytfpianecohobjaa.P
open Go.RowKit Go.Proofs.YtfpianecohobjaaW.PrintWords Go.Proofs.YtfpianecohobjaaW.PrintLast Go.Proofs.YtfpianecohobjaaW.PrintMore
set_option linter.unusedVariables false
set_option linter.unusedSimpArgs false
theorem u8t (y m : Int) : (IntKind.u8.wrap y).tmod m = (y % 256) % m := by
 have h : IntKind.u8.wrap y = y % 256 := by simp [IntKind.wrap, IntKind.bits, IntKind.signed]
 rw [h, Int.tmod_eq_emod_of_nonneg (Int.emod_nonneg _ (by decide))]
attribute [local go_sem] u8t
mutual
def q4_Made.l0 : Nat → List (S81) → List (S81) → Int → List (S68) → Option ((List (S68)) × (List (S71)))
 | 0, _, _, _, _ => none
 | k + 1, x0, x1, x6, x415000 => if x6 = 0 then (q4_Made.j1 k x0 x1 x6 true x415000) else (if x6 < (x0.length : Int) then (q4_Made.j1 k x0 x1 x6 (decide (x6 < 6)) x415000) else (q4_Made.j1 k x0 x1 x6 false x415000))
def q4_Made.j1 : Nat → List (S81) → List (S81) → Int → Bool → List (S68) → Option ((List (S68)) × (List (S71)))
 | 0, _, _, _, _, _ => none
 | k + 1, x0, x1, x6, x23, x415000 => if x23 = true then (if x6 < (x0.length : Int) then (if 0 ≤ x6 then (q4_Made.j2 k x0 x1 x6 x415000 ((rd_T81 x0 x6).f0) ((rd_T81 x0 x6).f1)) else (none)) else (q4_Made.j2 k x0 x1 x6 x415000 0 0)) else (q4_Made.l1 k x1 0 x415000 ([] : List (S71)))
def q4_Made.j2 : Nat → List (S81) → List (S81) → Int → List (S68) → Int → Int → Option ((List (S68)) × (List (S71)))
 | 0, _, _, _, _, _, _ => none
 | k + 1, x0, x1, x6, x415000, x416000, x416001 => if 0 ≤ x6 then (if x6 ≤ (wrap64 (x6 + 1)) then (if (wrap64 (x6 + 1)) ≤ 6 then (if (wrap64 (x6 + 1)) = 0 then (none) else (if (Int.tmod x416001 4) = 1 then (if x415000.length < 2513169434916 then (q4_Made.l0 k x0 x1 (wrap64 (x6 + 1)) (x415000 ++ [(⟨(⟨#[65, 66, 67, 68, 69, 70]⟩ : ByteArray).extract (x6 : Int).toNat ((wrap64 (x6 + 1)) : Int).toNat, wrap64 ((Int.tmod (wrap64 (x416000)) (wrap64 (x6 + 1))) - 1), (((Int.tdiv x416000 16) % 4) == 3), (([(⟨(⟨#[117, 118, 119, 120, 121, 122]⟩ : ByteArray).extract (x6 : Int).toNat ((wrap64 (x6 + 1)) : Int).toNat, (-3), 3 + (((Int.tdiv x416001 4) % 256) % 9), ([] : List ByteArray)⟩ : S77)] : List (S77)))⟩ : S68)])) else (none)) else (if (Int.tmod x416001 4) = 2 then (if x415000.length < 2513169434916 then (q4_Made.l0 k x0 x1 (wrap64 (x6 + 1)) (x415000 ++ [(⟨(⟨#[65, 66, 67, 68, 69, 70]⟩ : ByteArray).extract (x6 : Int).toNat ((wrap64 (x6 + 1)) : Int).toNat, wrap64 ((Int.tmod (wrap64 (x416000)) (wrap64 (x6 + 1))) - 1), (((Int.tdiv x416000 16) % 4) == 3), (([(⟨(⟨#[117, 118, 119, 120, 121, 122]⟩ : ByteArray).extract (x6 : Int).toNat ((wrap64 (x6 + 1)) : Int).toNat, 0, 1, (([(⟨#[111, 102, 102]⟩ : ByteArray), (⟨#[111, 110]⟩ : ByteArray)] : List ByteArray))⟩ : S77)] : List (S77)))⟩ : S68)])) else (none)) else (if x415000.length < 2513169434916 then (q4_Made.l0 k x0 x1 (wrap64 (x6 + 1)) (x415000 ++ [(⟨(⟨#[65, 66, 67, 68, 69, 70]⟩ : ByteArray).extract (x6 : Int).toNat ((wrap64 (x6 + 1)) : Int).toNat, wrap64 ((Int.tmod (wrap64 (x416000)) (wrap64 (x6 + 1))) - 1), (((Int.tdiv x416000 16) % 4) == 3), ([] : List (S77))⟩ : S68)])) else (none))))) else (none)) else (none)) else (none)
def q4_Made.l1 : Nat → List (S81) → Int → List (S68) → List (S71) → Option ((List (S68)) × (List (S71)))
 | 0, _, _, _, _ => none
 | k + 1, x1, x10, x415000, x415001 => if x10 < (x1.length : Int) then (if x10 < 5 then (if 0 ≤ x10 then (if x10 ≤ (wrap64 (x10 + 1)) then (if (wrap64 (x10 + 1)) ≤ 5 then (if (x415000.length : Int) = 0 then (none) else (if x415001.length < 2199023255552 then (q4_Made.l1 k x1 (wrap64 (x10 + 1)) x415000 (x415001 ++ [(⟨(⟨#[101, 102, 103, 104, 105]⟩ : ByteArray).extract (x10 : Int).toNat ((wrap64 (x10 + 1)) : Int).toNat, Int.tmod (wrap64 ((rd_T81 x1 x10).f0)) (x415000.length : Int), Int.tmod (wrap64 ((rd_T81 x1 x10).f1)) (x415000.length : Int), 0, (-1), 0, (-1)⟩ : S71)])) else (none))) else (none)) else (none)) else (none)) else (some (x415000, x415001))) else (some (x415000, x415001))
end
def q4_Made.f (k : Nat) (l0 : List (S81)) (l1 : List (S81)) : Option ((List (S68)) × (List (S71))) := q4_Made.l0 k l0 l1 0 ([] : List (S68))
def q4_Made.T8 : Bool × List (List Nat × List Nat) := (true, [([], []), ([], []), ([1], [1]), ([0, 2], [0, 2]), ([], []), ([4], [4]), ([5], [5]), ([], []), ([7], [7]), ([6, 8], [6, 8]), ([9], [9]), ([], []), ([11], [11]), ([12], [12]), ([13], [13]), ([14], [14]), ([3, 10, 15], [3, 10, 15]), ([], []), ([17, 16, 0, 1, 2, 3, 4, 5, 6, 7, 8, 9, 10, 11, 12, 13, 14, 15, 16, 17], [16, 17])])
def q4_Made.B8 : List Nat := [0, 0, 2, 7, 0, 16, 48, 0, 128, 496, 1008, 0, 2048, 6144, 14336, 30720, 65535, 0, 262143]
theorem q4_Made.tab8 : rtab .any (opsOf Try.f22 8) = q4_Made.T8 := by kernel_rfl
theorem q4_Made.bits8 : waitsOk q4_Made.T8.2 q4_Made.B8 = true := by kernel_rfl
def q4_Made.T20 : Bool × List (List Nat × List Nat) := (true, [([], []), ([0], [0]), ([], []), ([], []), ([3], [3]), ([2, 4], [2, 4]), ([], []), ([], []), ([6, 7], [6, 7]), ([8], [8]), ([9], [9]), ([10], [10]), ([], []), ([11, 12], [11, 12]), ([], []), ([], []), ([14, 15], [14, 15]), ([16], [16]), ([17], [17]), ([18], [18]), ([], []), ([19, 20], [19, 20]), ([5, 13, 21], [5, 13, 21]), ([22], [22]), ([1, 23], [1, 23]), ([0, 1, 2, 3, 4, 5, 6, 7, 8, 9, 10, 11, 12, 13, 14, 15, 16, 17, 18, 19, 20, 21, 22, 23, 24], []), ([25, 24, 24, 0, 1, 2, 3, 4, 5, 6, 7, 8, 9, 10, 11, 12, 13, 14, 15, 16, 17, 18, 19, 20, 21, 22, 23, 24], [24, 25])])
def q4_Made.B20 : List Nat := [0, 1, 0, 0, 8, 28, 0, 0, 192, 448, 960, 1984, 0, 8128, 0, 0, 49152, 114688, 245760, 507904, 0, 2080768, 4194300, 8388604, 16777215, 33554431, 67108863]
theorem q4_Made.tab20 : rtab .any (opsOf Try.f22 20) = q4_Made.T20 := by kernel_rfl
theorem q4_Made.bits20 : waitsOk q4_Made.T20.2 q4_Made.B20 = true := by kernel_rfl
set_option maxHeartbeats 8000000 in
set_option maxRecDepth 100000 in
theorem q4_Made.calls (k : Nat) (A0 : Option Addr) (c0 : Nat) (l0 : List (S81)) (A1 : Option Addr) (c1 : Nat) (l1 : List (S81)) (r1 : List (S68)) (r2 : List (S71)) (w : World) (hr0 : Kd.C k81 w A0 l0.length l0) (hc0 : l0.length ≤ c0) (hr1 : Kd.C k81 w A1 l1.length l1) (hc1 : l1.length ≤ c1) (h : q4_Made.f k l0 l1 = some (r1, r2)) :
  Calls Try.prog 22 #[.slice A0 l0.length c0, .slice A1 l1.length c1] w fun e w' => ∃ v0_ v1_ : Value, e = .returned (.agg #[v0_, v1_]) ∧ Kd.N k68 68 w' w.heap.size (fun k_ => (w.heap.size ≤ k_) ∧ some k_ ≠ (v1_ : Value).ownBlock) v0_ r1 ∧ Kd.R k71 71 w' w.heap.size (fun k_ => (w.heap.size ≤ k_)) v1_ r2 ∧ Below w.heap.size w w' := by
 have hu25 := Try.underlying25
 have hu81 := Try.underlying81
 have hu68 := Try.underlying68
 have hu77 := Try.underlying77
 have hu71 := Try.underlying71
 have HR0 := Aside0.mk hr0
 have HC0 := Aside0.mk hc0
 clear hr0 hc0
 have HR1 := Aside0.mk hr1
 have HC1 := Aside0.mk hc1
 clear hr1 hc1
 have HB := Aside0.mk (Below.refl w.heap.size w)
 have H : (q4_Made.l0 k l0 l1 0 ([] : List (S68))) = some (r1, r2) := h
 clear h
 have H' := Aside0.mk H
 clear H
 go_enter Try.func22, Try.ntmps22
 go_wp2_with (first | ((with_reducible refine gate_dst (N := 4) rfl ?_); (try (refine gate_guard (by rfl) ?_; dsimp only)); refine box_event ?hg (N := 4) ?hd (cs := #[.slice none 0 0, .slice none 0 0]) (t := 25) ?hr ?_; (case hd => rfl); (case hg => rfl); (case hr => first | (go_simp; done) | (go_simp; rfl)); intro gb413 hg w3 hbox hb; have BK413 := Aside0.mk (hbox); have GW413 := bsz HB hg; have GE413 := bsz HB hg; replace HB := bstep HB hb; clear hb hbox hg) | ((with_reducible refine gate_dst (N := 5) rfl ?_); (try (refine gate_guard (by rfl) ?_; dsimp only)); refine box_event ?hg (N := 5) ?hd (cs := #[.slice none 0 0, .slice none 0 0]) (t := 25) ?hr ?_; (case hd => rfl); (case hg => rfl); (case hr => first | (go_simp; done) | (go_simp; rfl)); intro gb414 hg w4 hbox hb; have BK414 := Aside0.mk (hbox); have GW414 := bsz HB hg; have GE414 := bsz HB hg; replace HB := bstep HB hb; have NB413_414 := blt BK413 hg; have NB414_413 := bgt BK413 hg; replace BK413 := bkb BK413 hb; clear hb hbox hg))
 go_loopg [6] k (fun kq v6 w' => ∃ (x6_1 : Int) (x415000_1 : List (S68)) (u415000 : Value), v6 = .int .i64 x6_1 ∧ Aside0 (q4_Made.l0 kq l0 l1 x6_1 x415000_1 = some (r1, r2)) ∧ Aside0 (kq ≤ k) ∧ Aside0 (Kd.N k68 68 w' w.heap.size (fun k_ => (w.heap.size ≤ k_) ∧ k_ ≠ gb413 ∧ k_ ≠ gb414) u415000 x415000_1) ∧ Aside0 (w'.heap[gb413]? = some (.cells #[(.slice none 0 0), (.slice none 0 0)] 25 (0, 0))) ∧ Aside0 (w'.heap[gb414]? = some (.cells #[u415000, (.slice none 0 0)] 25 (0, 0))) ∧ Aside0 (Below w.heap.size w w'))
 case atStart => exact ⟨(0), (([] : List (S68))), (.slice none 0 0), eqs, H', ⟨Nat.le_refl _⟩, ⟨by first | exact Kd.R_nil _ _ _ _ _ | exact Kd.N_nil _ _ _ _ _ | exact Kd.V_nil _ _ _ _ _ | exact Kd.Q_nil _ _ _ _ _ | exact Kd.S_nil _ _ _ _ _⟩, ⟨bk BK413⟩, ⟨bk BK414⟩, ⟨bb HB⟩⟩
 case round =>
  clear H'
  try clear c1
  try clear c2
  try clear p2
  obtain ⟨x6_1, x415000_1, u415000, rfl, HA, HK1, HO_415000, BK413, BK414, HB⟩ := hrel
  cases gk with
  | zero => exact absurd HA.out (by simp [q4_Made.l0])
  | succ k1 =>
   have H := HA.out
   clear HA
   simp only [q4_Made.l0] at H
   have HC5 := Aside0.mk H
   clear H
   go_upto_region 3 with (fail)
   go_cut [23] (fun v23 wc => ∃ (kq : Nat) (x23_4 : Bool), v23 = .bool x23_4 ∧ Aside0 (q4_Made.j1 kq l0 l1 x6_1 x23_4 x415000_1 = some (r1, r2)) ∧ Aside0 (kq ≤ k1) ∧ Aside0 (Kd.N k68 68 wc w.heap.size (fun k_ => (w.heap.size ≤ k_) ∧ k_ ≠ gb413 ∧ k_ ≠ gb414) u415000 x415000_1) ∧ Aside0 (wc.heap[gb413]? = some (.cells #[(.slice none 0 0), (.slice none 0 0)] 25 (0, 0))) ∧ Aside0 (wc.heap[gb414]? = some (.cells #[u415000, (.slice none 0 0)] 25 (0, 0))) ∧ Aside0 (Below w.heap.size w wc))
   case first =>
    have H := HC5.out
    clear HC5
    by_cases c6 : x6_1 = 0
    ·rw [if_pos c6] at H
     have c6b0 : (x6_1 == 0) = true := beq_iff_eq.mpr c6
     have c6b1 : (x6_1 != 0) = false := bne_eq_false_iff_eq.mpr c6
     clear c6
     (first | rw [c6b0] | (simp only [i64_w, i32_w]; rw [c6b0]) | skip)
     have H' := Aside0.mk H
     clear H
     go_wp2
     go_meet
     case rel => exact ⟨_, (true), eqs, H', ⟨by have := HK1.out; first | omega | exact Nat.le_refl _⟩, ⟨kN HO_415000⟩, ⟨bk BK413⟩, ⟨bk BK414⟩, ⟨bb HB⟩⟩
    ·rw [if_neg c6] at H
     have c6b0 : (x6_1 == 0) = false := beq_eq_false_iff_ne.mpr c6
     have c6b1 : (x6_1 != 0) = true := bne_iff_ne.mpr c6
     (first | rw [c6b0] | (simp only [i64_w, i32_w]; rw [c6b0]) | skip)
     by_cases c7 : x6_1 < (l0.length : Int)
     ·rw [if_pos c7] at H
      have c7b0 : decide (x6_1 < (l0.length : Int)) = true := decide_eq_true c7
      clear c7
      have H' := Aside0.mk H
      clear H
      go_wp2
      go_meet
      case rel => exact ⟨_, (decide (x6_1 < 6)), eqs, H', ⟨by have := HK1.out; first | omega | exact Nat.le_refl _⟩, ⟨kN HO_415000⟩, ⟨bk BK413⟩, ⟨bk BK414⟩, ⟨bb HB⟩⟩
     ·rw [if_neg c7] at H
      have c7b0 : decide (x6_1 < (l0.length : Int)) = false := decide_eq_false c7
      clear c7
      have H' := Aside0.mk H
      clear H
      go_wp2
      go_meet
      case rel => exact ⟨_, (false), eqs, H', ⟨by have := HK1.out; first | omega | exact Nat.le_refl _⟩, ⟨kN HO_415000⟩, ⟨bk BK413⟩, ⟨bk BK414⟩, ⟨bb HB⟩⟩
   case rest =>
    clear HC5
    try clear c1
    try clear c2
    try clear p2
    try clear c6
    try clear c6b0
    try clear c6b1
    try clear c7
    try clear c7b0
    try clear p2
    obtain ⟨kq, x23_4, rfl, HA, HJ4, HO_415000, BK413, BK414, HB⟩ := hcut
    cases kq with
    | zero => exact absurd HA.out (by simp [q4_Made.j1])
    | succ kj4 =>
     have H := HA.out
     clear HA
     simp only [q4_Made.j1] at H
     by_cases c8 : x23_4 = true
     ·subst c8
      replace H := ift H
      have HC9 := Aside0.mk H
      clear H
      go_upto_if 30 with (first | ((with_reducible refine gate_dst (N := 7) rfl ?_); (try (refine gate_guard (by rfl) ?_; dsimp only)); refine box_event ?hg (N := 7) ?hd (cs := #[.int .u8 0, .int .u8 0]) (t := 81) ?hr ?_; (case hd => rfl); (case hg => rfl); (case hr => first | (go_simp; done) | (go_simp; rfl)); intro gb415 hg w10 hbox hb; replace HO_415000 := Aside0.mk (Kd.N_below (Kd.N_elderB (kN HO_415000) gb415 (Nat.le_of_eq hg.symm)) hb); have BK415 := Aside0.mk (hbox); have GW415 := bsz HB hg; have GE415 := bsz HB hg; replace HB := bstep HB hb; have NB413_415 := blt BK413 hg; have NB415_413 := bgt BK413 hg; replace BK413 := bkb BK413 hb; have NB414_415 := blt BK414 hg; have NB415_414 := bgt BK414 hg; replace BK414 := bkb BK414 hb; clear hb hbox hg; have hnb11 := NB415_413.out; have hnc11 := NB413_415.out; have hnb12 := NB415_414.out; have hnc12 := NB414_415.out; obtain ⟨hcz13_0, hcz13_1, hfz13_0, hfz13_1⟩ := cz2 BK415))
      (try simp only [Act.put, List.setIfInBounds_toArray, List.set_cons_zero, List.set_cons_succ])
      go_cut [] (fun wc => ∃ (kq : Nat) (x416000_8 : Int) (x416001_8 : Int), Aside0 (q4_Made.j2 kq l0 l1 x6_1 x415000_1 x416000_8 x416001_8 = some (r1, r2)) ∧ Aside0 (kq ≤ kj4) ∧ Aside0 (Kd.N k68 68 wc w.heap.size (fun k_ => (w.heap.size ≤ k_) ∧ k_ ≠ gb413 ∧ k_ ≠ gb414 ∧ k_ ≠ gb415) u415000 x415000_1) ∧ Aside0 (wc.heap[gb413]? = some (.cells #[(.slice none 0 0), (.slice none 0 0)] 25 (0, 0))) ∧ Aside0 (wc.heap[gb414]? = some (.cells #[u415000, (.slice none 0 0)] 25 (0, 0))) ∧ Aside0 (wc.heap[gb415]? = some (.cells #[.int .u8 x416000_8, .int .u8 x416001_8] 81 (0, 0))) ∧ Aside0 (Below w.heap.size w wc))
      case first =>
       have H := HC9.out
       clear HC9
       by_cases c14 : x6_1 < (l0.length : Int)
       ·rw [if_pos c14] at H
        have c14b0 : decide (x6_1 < (l0.length : Int)) = true := decide_eq_true c14
        clear c14
        (first | rw [c14b0] | (simp only [i64_w, i32_w]; rw [c14b0]) | skip)
        by_cases c15 : 0 ≤ x6_1
        ·rw [if_pos c15] at H
         have c15b0 : decide (0 ≤ x6_1) = true := decide_eq_true c15
         clear c15
         have H' := Aside0.mk H
         clear H
         have p416 : 0 ≤ x6_1 := odt
         have q416 : x6_1 < (l0.length : Int) := odt
         obtain ⟨ad416, e416, hx416_0, hx416_1⟩ := at_T81 HR0.out x6_1 p416 q416
         cases e416
         have hn416_0 : ad416.block ≠ gb415 := Nat.ne_of_lt (Nat.lt_of_lt_of_le (by have := World.block_lt_of_cell? _ _ hx416_0; first | rwa [add_block] at this | exact this) GW415.out)
         have hn416_1 : ad416.block ≠ gb415 := Nat.ne_of_lt (Nat.lt_of_lt_of_le (by have := World.block_lt_of_cell? _ _ hx416_0; first | rwa [add_block] at this | exact this) GW415.out)
         replace hx416_0 := hxc HB hx416_0
         replace hx416_1 := hxc HB hx416_1
         replace hx416_0 := (cell_far (p := ⟨gb415, 0, none⟩) (by first | (rw [add_block]; exact hn416_0) | (show (Addr.add _ _).block ≠ _; rw [add_block]; exact hn416_0) | exact hn416_0) (.int .u8 0)).trans hx416_0
         replace hx416_1 := (cell_far (p := ⟨gb415, 0, none⟩) (by first | (rw [add_block]; exact hn416_0) | (show (Addr.add _ _).block ≠ _; rw [add_block]; exact hn416_0) | exact hn416_0) (.int .u8 0)).trans hx416_1
         replace hx416_0 := (cell_far (p := ⟨gb415, 1, none⟩) (by first | (rw [add_block]; exact hn416_1) | (show (Addr.add _ _).block ≠ _; rw [add_block]; exact hn416_1) | exact hn416_1) (.int .u8 0)).trans hx416_0
         replace hx416_1 := (cell_far (p := ⟨gb415, 1, none⟩) (by first | (rw [add_block]; exact hn416_1) | (show (Addr.add _ _).block ≠ _; rw [add_block]; exact hn416_1) | exact hn416_1) (.int .u8 0)).trans hx416_1
         clear hn416_0 hn416_1
         replace p416 := eq_true p416
         replace q416 := eq_true q416
         have hnb16 := NB415_413.out
         have hnc16 := NB413_415.out
         have hnb17 := NB415_414.out
         have hnc17 := NB414_415.out
         obtain ⟨hcz18_0, hcz18_1, hfz18_0, hfz18_1⟩ := cz2 BK415
         go_wp2
         go_meet
         case rel => exact ⟨_, ((rd_T81 l0 x6_1).f0), ((rd_T81 l0 x6_1).f1), H', ⟨by have := HK1.out; have := HJ4.out; first | omega | exact Nat.le_refl _⟩, ⟨by (with_reducible repeat (first | apply Kd.N_alloc | apply Kd.N_drewN | apply Kd.N_drew)); exact Kd.N_mono (Kd.N_far (p := ⟨gb415, 1, none⟩) (Kd.N_far (p := ⟨gb415, 0, none⟩) (Kd.N_far (p := ⟨gb415, 1, none⟩) (Kd.N_far (p := ⟨gb415, 0, none⟩) (Kd.N_mono HO_415000.out (fun k_ hk => (⟨hk, hk.2⟩ : _ ∧ k_ ≠ gb415))) (fun _ hk => hk.2) (.int .u8 0)) (fun _ hk => hk.2) (.int .u8 0)) (fun _ hk => hk.2) (.int .u8 ((rd_T81 l0 x6_1).f0))) (fun _ hk => hk.2) (.int .u8 ((rd_T81 l0 x6_1).f1))) (fun _ hk => ⟨hk.1.1.1, ⟨hk.1.1.2.1, ⟨hk.1.1.2.2, hk.1.2⟩⟩⟩)⟩, ⟨by (with_reducible repeat (first | refine blk_drewN ?_ _ | refine blk_drew ?_ | refine blk_alloc ?_ _)); refine blk_far ?_ NB413_415.out _; (with_reducible repeat (first | refine blk_drewN ?_ _ | refine blk_drew ?_ | refine blk_alloc ?_ _)); refine blk_far ?_ NB413_415.out _; (with_reducible repeat (first | refine blk_drewN ?_ _ | refine blk_drew ?_ | refine blk_alloc ?_ _)); refine blk_far ?_ NB413_415.out _; (with_reducible repeat (first | refine blk_drewN ?_ _ | refine blk_drew ?_ | refine blk_alloc ?_ _)); refine blk_far ?_ NB413_415.out _; (with_reducible repeat (first | refine blk_drewN ?_ _ | refine blk_drew ?_ | refine blk_alloc ?_ _)); exact BK413.out⟩, ⟨by (with_reducible repeat (first | refine blk_drewN ?_ _ | refine blk_drew ?_ | refine blk_alloc ?_ _)); refine blk_far ?_ NB414_415.out _; (with_reducible repeat (first | refine blk_drewN ?_ _ | refine blk_drew ?_ | refine blk_alloc ?_ _)); refine blk_far ?_ NB414_415.out _; (with_reducible repeat (first | refine blk_drewN ?_ _ | refine blk_drew ?_ | refine blk_alloc ?_ _)); refine blk_far ?_ NB414_415.out _; (with_reducible repeat (first | refine blk_drewN ?_ _ | refine blk_drew ?_ | refine blk_alloc ?_ _)); refine blk_far ?_ NB414_415.out _; (with_reducible repeat (first | refine blk_drewN ?_ _ | refine blk_drew ?_ | refine blk_alloc ?_ _)); exact BK414.out⟩, ⟨by (with_reducible repeat (first | refine blk_drewN ?_ _ | refine blk_drew ?_ | refine blk_alloc ?_ _)); refine blk_put (cs := #[.int .u8 ((rd_T81 l0 x6_1).f0), .int .u8 0]) ?_ 1 _ rfl; (with_reducible repeat (first | refine blk_drewN ?_ _ | refine blk_drew ?_ | refine blk_alloc ?_ _)); refine blk_put (cs := #[.int .u8 0, .int .u8 0]) ?_ 0 _ rfl; (with_reducible repeat (first | refine blk_drewN ?_ _ | refine blk_drew ?_ | refine blk_alloc ?_ _)); refine blk_put (cs := #[.int .u8 0, .int .u8 0]) ?_ 1 _ rfl; (with_reducible repeat (first | refine blk_drewN ?_ _ | refine blk_drew ?_ | refine blk_alloc ?_ _)); refine blk_put (cs := #[.int .u8 0, .int .u8 0]) ?_ 0 _ rfl; (with_reducible repeat (first | refine blk_drewN ?_ _ | refine blk_drew ?_ | refine blk_alloc ?_ _)); exact BK415.out⟩, ⟨bb HB⟩⟩
        ·rw [if_neg c15] at H
         exact absurd H (by simp)
       ·rw [if_neg c14] at H
        have c14b0 : decide (x6_1 < (l0.length : Int)) = false := decide_eq_false c14
        clear c14
        (first | rw [c14b0] | (simp only [i64_w, i32_w]; rw [c14b0]) | skip)
        have H' := Aside0.mk H
        clear H
        go_wp2
        go_meet
        case rel => exact ⟨_, (0), (0), H', ⟨by have := HK1.out; have := HJ4.out; first | omega | exact Nat.le_refl _⟩, ⟨by (with_reducible repeat (first | apply Kd.N_alloc | apply Kd.N_drewN | apply Kd.N_drew)); exact Kd.N_mono (Kd.N_far (p := ⟨gb415, 1, none⟩) (Kd.N_far (p := ⟨gb415, 0, none⟩) (Kd.N_mono HO_415000.out (fun k_ hk => (⟨hk, hk.2⟩ : _ ∧ k_ ≠ gb415))) (fun _ hk => hk.2) (.int .u8 0)) (fun _ hk => hk.2) (.int .u8 0)) (fun _ hk => ⟨hk.1.1.1, ⟨hk.1.1.2.1, ⟨hk.1.1.2.2, hk.1.2⟩⟩⟩)⟩, ⟨by (with_reducible repeat (first | refine blk_drewN ?_ _ | refine blk_drew ?_ | refine blk_alloc ?_ _)); refine blk_far ?_ NB413_415.out _; (with_reducible repeat (first | refine blk_drewN ?_ _ | refine blk_drew ?_ | refine blk_alloc ?_ _)); refine blk_far ?_ NB413_415.out _; (with_reducible repeat (first | refine blk_drewN ?_ _ | refine blk_drew ?_ | refine blk_alloc ?_ _)); exact BK413.out⟩, ⟨by (with_reducible repeat (first | refine blk_drewN ?_ _ | refine blk_drew ?_ | refine blk_alloc ?_ _)); refine blk_far ?_ NB414_415.out _; (with_reducible repeat (first | refine blk_drewN ?_ _ | refine blk_drew ?_ | refine blk_alloc ?_ _)); refine blk_far ?_ NB414_415.out _; (with_reducible repeat (first | refine blk_drewN ?_ _ | refine blk_drew ?_ | refine blk_alloc ?_ _)); exact BK414.out⟩, ⟨by (with_reducible repeat (first | refine blk_drewN ?_ _ | refine blk_drew ?_ | refine blk_alloc ?_ _)); refine blk_put (cs := #[.int .u8 0, .int .u8 0]) ?_ 1 _ rfl; (with_reducible repeat (first | refine blk_drewN ?_ _ | refine blk_drew ?_ | refine blk_alloc ?_ _)); refine blk_put (cs := #[.int .u8 0, .int .u8 0]) ?_ 0 _ rfl; (with_reducible repeat (first | refine blk_drewN ?_ _ | refine blk_drew ?_ | refine blk_alloc ?_ _)); exact BK415.out⟩, ⟨bb HB⟩⟩
      case rest =>
       clear HC9
       try clear c1
       try clear c2
       try clear p2
       try clear p4
       try clear q4
       try clear hx4
       try clear c6
       try clear c6b0
       try clear c6b1
       try clear c7
       try clear c7b0
       try clear c8
       try clear c11
       try clear c12
       try clear c14
       try clear c14b0
       try clear c15
       try clear c15b0
       try clear c16
       try clear c17
       try clear hcz13_0
       try clear hcz13_1
       try clear hcz18_0
       try clear hcz18_1
       try clear hfz13_0
       try clear hfz13_1
       try clear hfz18_0
       try clear hfz18_1
       try clear hx416_0
       try clear hx416_1
       try clear p2
       try clear p416
       try clear q416
       obtain ⟨kq, x416000_8, x416001_8, HA, HJ8, HO_415000, BK413, BK414, BK415, HB⟩ := hcut
       cases kq with
       | zero => exact absurd HA.out (by simp [q4_Made.j2])
       | succ kj8 =>
        have H := HA.out
        clear HA
        simp only [q4_Made.j2] at H
        by_cases c19 : 0 ≤ x6_1
        ·rw [if_pos c19] at H
         have c19b0 := eq_true c19
         have c19b1 : decide (0 ≤ x6_1) = true := decide_eq_true c19
         clear c19
         by_cases c20 : x6_1 ≤ (wrap64 (x6_1 + 1))
         ·rw [if_pos c20] at H
          have c20b0 := eq_true c20
          have c20b1 : decide (x6_1 ≤ (wrap64 (x6_1 + 1))) = true := decide_eq_true c20
          by_cases c21 : (wrap64 (x6_1 + 1)) ≤ 6
          ·rw [if_pos c21] at H
           have c21b0 := eq_true c21
           have c21b1 : decide ((wrap64 (x6_1 + 1)) ≤ 6) = true := decide_eq_true c21
           by_cases c22 : (wrap64 (x6_1 + 1)) = 0
           ·rw [if_pos c22] at H
            exact absurd H (by simp)
           ·rw [if_neg c22] at H
            have c22b0 : ((wrap64 (x6_1 + 1)) == 0) = false := beq_eq_false_iff_ne.mpr c22
            have c22b1 : ((wrap64 (x6_1 + 1)) != 0) = true := bne_iff_ne.mpr c22
            have c23b0 := eq_true (odt : 0 ≤ x6_1)
            have c24b0 := eq_true (odt : x6_1 ≤ (wrap64 (x6_1 + 1)))
            have c25b0 := eq_true (odt : (wrap64 (x6_1 + 1)) ≤ 6)
            by_cases c26 : (Int.tmod x416001_8 4) = 1
            ·rw [if_pos c26] at H
             have c26b0 : ((Int.tmod x416001_8 4) == 1) = true := beq_iff_eq.mpr c26
             have c26b1 : ((Int.tmod x416001_8 4) != 1) = false := bne_eq_false_iff_eq.mpr c26
             clear c26
             obtain ⟨y418, hy418⟩ : ∃ y_ : List (S77), y_ = (([(⟨(⟨#[117, 118, 119, 120, 121, 122]⟩ : ByteArray).extract (x6_1 : Int).toNat ((wrap64 (x6_1 + 1)) : Int).toNat, (-3), 3 + (((Int.tdiv x416001_8 4) % 256) % 9), ([] : List ByteArray)⟩ : S77)] : List (S77))) := ⟨_, rfl⟩
             replace H : (if x415000_1.length < 2513169434916 then (q4_Made.l0 kj8 l0 l1 (wrap64 (x6_1 + 1)) (x415000_1 ++ [(⟨(⟨#[65, 66, 67, 68, 69, 70]⟩ : ByteArray).extract (x6_1 : Int).toNat ((wrap64 (x6_1 + 1)) : Int).toNat, wrap64 ((Int.tmod (wrap64 (x416000_8)) (wrap64 (x6_1 + 1))) - 1), (((Int.tdiv x416000_8 16) % 4) == 3), y418⟩ : S68)])) else (none)) = some (r1, r2) := by first | (rw [hy418]; with_reducible exact H) | (have H2_ := (Option.bind_some _ _).symm.trans H; rw [hy418]; with_reducible exact H2_) | (have H2_ := (Option.bind_some _ _).symm.trans H; with_reducible exact H2_) | with_reducible exact H | (rw [hy418]; exact H) | exact H
             have Ny418 := Aside0.mk hy418
             clear hy418
             by_cases c27 : x415000_1.length < 2513169434916
             ·rw [if_pos c27] at H
              have LMc27 := Aside0.mk c27
              clear c27
              obtain ⟨y421, hy421⟩ : ∃ y_ : List (S68), y_ = (x415000_1 ++ [(⟨(⟨#[65, 66, 67, 68, 69, 70]⟩ : ByteArray).extract (x6_1 : Int).toNat ((wrap64 (x6_1 + 1)) : Int).toNat, wrap64 ((Int.tmod (wrap64 (x416000_8)) (wrap64 (x6_1 + 1))) - 1), (((Int.tdiv x416000_8 16) % 4) == 3), y418⟩ : S68)]) := ⟨_, rfl⟩
              replace H : (q4_Made.l0 kj8 l0 l1 (wrap64 (x6_1 + 1)) y421) = some (r1, r2) := by first | (rw [hy421]; with_reducible exact H) | (have H2_ := (Option.bind_some _ _).symm.trans H; rw [hy421]; with_reducible exact H2_) | (have H2_ := (Option.bind_some _ _).symm.trans H; with_reducible exact H2_) | with_reducible exact H | (rw [hy421]; exact H) | exact H
              have Ny421 := Aside0.mk hy421
              clear hy421
              have H' := Aside0.mk H
              clear H
              try go_wp2
              replace HO_415000 := Aside0.mk (Kd.N_drew HO_415000.out)
              replace BK413 := Aside0.mk (blk_drew BK413.out)
              replace BK414 := Aside0.mk (blk_drew BK414.out)
              replace BK415 := Aside0.mk (blk_drew BK415.out)
              replace HB := Aside0.mk (below_drew1 HB.out)
              refine start_ (n := 19) (S := fun w' => w'.cell? ⟨gb415, 0, none⟩ = some (.int .u8 x416000_8) ∧ w'.cell? ⟨gb415, 1, none⟩ = some (.int .u8 x416001_8)) (ds := []) #[false, false, false, false, false, false, false, false, false, false, false, false, false, false, false, false, false, false, false] (by kernel_rfl) rfl rfl ⟨(blk_cell BK415.out 0).trans rfl, (blk_cell BK415.out 1).trans rfl⟩ (fun hHeld => ?_); refine with_tabW q4_Made.tab8 q4_Made.bits8 (fun HT_ HW_ => ?_)
              generalize wc.drew = w28 at HO_415000 BK413 BK414 BK415 HB hHeld ⊢
              refine pu 0 35 (bits 19 0x1) HT_ (h := ?_)
              refine pu 1 36 (bits 19 0x3) HT_ (h := ?_)
              refine pu 2 37 (bits 19 0x7) HT_ (h := ?_)
              refine pu 3 38 (bits 19 0xf) HT_ (h := ?_)
              refine pu 4 39 (bits 19 0x1f) HT_ (h := ?_)
              refine pu 7 42 (bits 19 0x9f) HT_ (h := ?_)
              refine pu 8 43 (bits 19 0x19f) HT_ (h := ?_)
              refine pu 11 46 (bits 19 0x99f) HT_ (h := ?_)
              refine tk 5 40 (bits 19 0x9bf) HT_ HW_ hHeld (hy := by rintro w' ⟨s0, s1⟩; go_simp; with_reducible rfl) (h := ?_)
              refine pu 6 41 (bits 19 0x9ff) HT_ (h := ?_)
              refine pu 9 44 (bits 19 0xbff) HT_ (h := ?_)
              refine pu 10 45 (bits 19 0xfff) HT_ (h := ?_)
              refine tk 12 47 (bits 19 0x1fff) HT_ HW_ hHeld (hy := by rintro w' ⟨s0, s1⟩; go_simp; with_reducible rfl) (h := ?_)
              refine pu 13 48 (bits 19 0x3fff) HT_ (h := ?_)
              refine pu 14 49 (bits 19 0x7fff) HT_ (h := ?_)
              refine pu 15 50 (bits 19 0xffff) HT_ (h := ?_)
              refine pu 16 51 (bits 19 0x1ffff) HT_ (h := ?_)
              refine one_ (i := 17) (N := some 8) #[true, true, true, true, true, true, true, true, true, true, true, true, true, true, true, true, true, true, false] rfl rfl (one_of HT_.out (by kernel_rfl)) (by decide) (fun K hK => ?_)
              refine box_step ?hg (N := 8) ?hd (cs := #[.string (⟨#[]⟩ : ByteArray), .int .i64 0, .bool false, .slice none 0 0]) (t := 68) ?hr ?_; (case hd => rfl); (case hg => rfl); (case hr => first | (go_simp; done) | (go_simp; rfl))
              intro gb417 hg w29 hbox hb
              replace HO_415000 := Aside0.mk (Kd.N_below (Kd.N_elderB (kN HO_415000) gb417 (Nat.le_of_eq hg.symm)) hb)
              have BK417 := Aside0.mk (hbox)
              have GW417 := bsz HB hg
              have GE417 := bsz HB hg
              replace HB := bstep HB hb
              have NB413_417 := blt BK413 hg
              have NB417_413 := bgt BK413 hg
              replace BK413 := bkb BK413 hb
              have NB414_417 := blt BK414 hg
              have NB417_414 := bgt BK414 hg
              replace BK414 := bkb BK414 hb
              have NB415_417 := blt BK415 hg
              have NB417_415 := bgt BK415 hg
              replace BK415 := bkb BK415 hb
              clear hb hbox hg
              refine hK.out _ _ ⟨(blk_cell BK415.out 0).trans rfl, (blk_cell BK415.out 1).trans rfl⟩ (fun hHeld => ?_)
              clear hK K
              refine norm_ (a' := ?_) ?_ ?_
              rotate_left
              ·show Act.put _ (some 8) _ = _
               simp only [Act.put, List.setIfInBounds_toArray, List.set_cons_zero, List.set_cons_succ, i64_w, i32_w]
               rfl
              refine one_ (i := 18) (N := none) #[true, true, true, true, true, true, true, true, true, true, true, true, true, true, true, true, true, true, true] rfl rfl (one_of HT_.out (by kernel_rfl)) (by decide) (fun K hK => ?_)
              have hs30 : w29.cell? ⟨gb417, 0, none⟩ = some (.string (⟨#[]⟩ : ByteArray)) := (blk_cell BK417.out 0).trans rfl
              have hfs30 := blk_frozen BK417.out 0
              have hns30_0 := NB413_417.out
              have hns30_1 := NB414_417.out
              have hns30_2 := NB415_417.out
              have hms30_0 := NB417_413.out
              have hms30_1 := NB417_414.out
              have hms30_2 := NB417_415.out
              have hs31 : w29.cell? ⟨gb417, 1, none⟩ = some (.int .i64 0) := (blk_cell BK417.out 1).trans rfl
              have hfs31 := blk_frozen BK417.out 1
              have hns31_0 := NB413_417.out
              have hns31_1 := NB414_417.out
              have hns31_2 := NB415_417.out
              have hms31_0 := NB417_413.out
              have hms31_1 := NB417_414.out
              have hms31_2 := NB417_415.out
              have hs32 : w29.cell? ⟨gb417, 2, none⟩ = some (.bool false) := (blk_cell BK417.out 2).trans rfl
              have hfs32 := blk_frozen BK417.out 2
              have hns32_0 := NB413_417.out
              have hns32_1 := NB414_417.out
              have hns32_2 := NB415_417.out
              have hms32_0 := NB417_413.out
              have hms32_1 := NB417_414.out
              have hms32_2 := NB417_415.out
              have hs33 : w29.cell? ⟨gb417, 3, none⟩ = some (.slice none 0 0) := (blk_cell BK417.out 3).trans rfl
              have hfs33 := blk_frozen BK417.out 3
              have hns33_0 := NB413_417.out
              have hns33_1 := NB414_417.out
              have hns33_2 := NB415_417.out
              have hms33_0 := NB417_413.out
              have hms33_1 := NB417_414.out
              have hms33_2 := NB417_415.out
              refine skip_ (w1 := ?_) (by rfl) rfl ?_ ?_
              rotate_left
              ·go_simp
               rfl
              refine hK.out _ _ ⟨((cell_far (p := ⟨gb417, _, none⟩) NB415_417.out _).trans (((cell_far (p := ⟨gb417, _, none⟩) NB415_417.out _).trans (((cell_far (p := ⟨gb417, _, none⟩) NB415_417.out _).trans (((cell_far (p := ⟨gb417, _, none⟩) NB415_417.out _).trans (hHeld.1)))))))), ((cell_far (p := ⟨gb417, _, none⟩) NB415_417.out _).trans (((cell_far (p := ⟨gb417, _, none⟩) NB415_417.out _).trans (((cell_far (p := ⟨gb417, _, none⟩) NB415_417.out _).trans (((cell_far (p := ⟨gb417, _, none⟩) NB415_417.out _).trans (hHeld.2))))))))⟩ (fun hHeld => ?_)
              clear hK K
              refine done_ (done_of HT_.out (by kernel_rfl)) ?_
              have hnb34 := NB415_413.out
              have hnc34 := NB413_415.out
              have hnb35 := NB415_414.out
              have hnc35 := NB414_415.out
              have hnb36 := NB415_417.out
              have hnc36 := NB417_415.out
              obtain ⟨hcz37_0, hcz37_1, hfz37_0, hfz37_1⟩ := cz2 BK415
              try go_wp2_with (first | ((with_reducible refine gate_dst (N := 69) rfl ?_); (try (refine gate_guard (by rfl) ?_; dsimp only)); refine Kd.N_lit k77 _ 77 ?hg (N' := 69) ?hd (xs := ([(⟨(⟨#[117, 118, 119, 120, 121, 122]⟩ : ByteArray).extract (x6_1 : Int).toNat ((wrap64 (x6_1 + 1)) : Int).toNat, (-3), 3 + (((Int.tdiv x416001_8 4) % 256) % 9), ([] : List ByteArray)⟩ : S77)] : List (S77))) (inner := [.string ((⟨#[117, 118, 119, 120, 121, 122]⟩ : ByteArray).extract (x6_1 : Int).toNat ((wrap64 (x6_1 + 1)) : Int).toNat), .int .i64 (-3), .int .i64 (3 + (((Int.tdiv x416001_8 4) % 256) % 9)), .slice none 0 0]) (ok := (fun k_ => (w.heap.size ≤ k_) ∧ some k_ ≠ (u415000 : Value).ownBlock ∧ k_ ≠ gb413 ∧ k_ ≠ gb414 ∧ k_ ≠ gb415 ∧ k_ ≠ gb417)) (okp := (fun k_ => (w.heap.size ≤ k_) ∧ some k_ ≠ (u415000 : Value).ownBlock ∧ k_ ≠ gb413 ∧ k_ ≠ gb414 ∧ k_ ≠ gb415 ∧ k_ ≠ gb417)) ?hr ?hp (fun _ hk => hk) ((show ∀ k_, _ ≤ k_ → (fun k_ => (w.heap.size ≤ k_) ∧ some k_ ≠ (u415000 : Value).ownBlock ∧ k_ ≠ gb413 ∧ k_ ≠ gb414 ∧ k_ ≠ gb415 ∧ k_ ≠ gb417) k_ from fun k_ hk => ⟨(Nat.le_trans (below_size (bb HB)) hk), Kd.fresh' (Kd.N_lt (by (with_reducible repeat (first | apply Kd.N_alloc | apply Kd.N_drewN | apply Kd.N_drew)); exact (Kd.N_mono (Kd.N_far (p := ⟨gb417, 3, none⟩) (Kd.N_far (p := ⟨gb417, 2, none⟩) (Kd.N_far (p := ⟨gb417, 1, none⟩) (Kd.N_far (p := ⟨gb417, 0, none⟩) (Kd.N_mono HO_415000.out (fun k_ hk => (⟨hk, hk.2⟩ : _ ∧ k_ ≠ gb417))) (fun _ hk => hk.2) (.string ((⟨#[65, 66, 67, 68, 69, 70]⟩ : ByteArray).extract (x6_1 : Int).toNat ((wrap64 (x6_1 + 1)) : Int).toNat))) (fun _ hk => hk.2) (.int .i64 (wrap64 ((Int.tmod (wrap64 (x416000_8)) (wrap64 (x6_1 + 1))) - 1)))) (fun _ hk => hk.2) (.bool (((Int.tdiv x416000_8 16) % 4) == 3))) (fun _ hk => hk.2) (.slice none 0 0)) (fun _ h_ => h_.1)))) k_ hk, Kd.freshB (g := gb413) (o := .cells #[.slice none 0 0, .slice none 0 0] 25 (0, 0)) (by (with_reducible repeat (first | refine blk_drewN ?_ _ | refine blk_drew ?_ | refine blk_alloc ?_ _)); refine blk_far ?_ NB413_417.out _; (with_reducible repeat (first | refine blk_drewN ?_ _ | refine blk_drew ?_ | refine blk_alloc ?_ _)); refine blk_far ?_ NB413_417.out _; (with_reducible repeat (first | refine blk_drewN ?_ _ | refine blk_drew ?_ | refine blk_alloc ?_ _)); refine blk_far ?_ NB413_417.out _; (with_reducible repeat (first | refine blk_drewN ?_ _ | refine blk_drew ?_ | refine blk_alloc ?_ _)); refine blk_far ?_ NB413_417.out _; (with_reducible repeat (first | refine blk_drewN ?_ _ | refine blk_drew ?_ | refine blk_alloc ?_ _)); exact BK413.out) k_ hk, Kd.freshB (g := gb414) (o := .cells #[u415000, .slice none 0 0] 25 (0, 0)) (by (with_reducible repeat (first | refine blk_drewN ?_ _ | refine blk_drew ?_ | refine blk_alloc ?_ _)); refine blk_far ?_ NB414_417.out _; (with_reducible repeat (first | refine blk_drewN ?_ _ | refine blk_drew ?_ | refine blk_alloc ?_ _)); refine blk_far ?_ NB414_417.out _; (with_reducible repeat (first | refine blk_drewN ?_ _ | refine blk_drew ?_ | refine blk_alloc ?_ _)); refine blk_far ?_ NB414_417.out _; (with_reducible repeat (first | refine blk_drewN ?_ _ | refine blk_drew ?_ | refine blk_alloc ?_ _)); refine blk_far ?_ NB414_417.out _; (with_reducible repeat (first | refine blk_drewN ?_ _ | refine blk_drew ?_ | refine blk_alloc ?_ _)); exact BK414.out) k_ hk, Kd.freshB (g := gb415) (o := .cells #[.int .u8 x416000_8, .int .u8 x416001_8] 81 (0, 0)) (by (with_reducible repeat (first | refine blk_drewN ?_ _ | refine blk_drew ?_ | refine blk_alloc ?_ _)); refine blk_far ?_ NB415_417.out _; (with_reducible repeat (first | refine blk_drewN ?_ _ | refine blk_drew ?_ | refine blk_alloc ?_ _)); refine blk_far ?_ NB415_417.out _; (with_reducible repeat (first | refine blk_drewN ?_ _ | refine blk_drew ?_ | refine blk_alloc ?_ _)); refine blk_far ?_ NB415_417.out _; (with_reducible repeat (first | refine blk_drewN ?_ _ | refine blk_drew ?_ | refine blk_alloc ?_ _)); refine blk_far ?_ NB415_417.out _; (with_reducible repeat (first | refine blk_drewN ?_ _ | refine blk_drew ?_ | refine blk_alloc ?_ _)); exact BK415.out) k_ hk, Kd.freshB (g := gb417) (o := .cells #[.string ((⟨#[65, 66, 67, 68, 69, 70]⟩ : ByteArray).extract (x6_1 : Int).toNat ((wrap64 (x6_1 + 1)) : Int).toNat), .int .i64 (wrap64 ((Int.tmod (wrap64 (x416000_8)) (wrap64 (x6_1 + 1))) - 1)), .bool (((Int.tdiv x416000_8 16) % 4) == 3), .slice none 0 0] 68 (0, 0)) (by (with_reducible repeat (first | refine blk_drewN ?_ _ | refine blk_drew ?_ | refine blk_alloc ?_ _)); refine blk_put (cs := #[.string ((⟨#[65, 66, 67, 68, 69, 70]⟩ : ByteArray).extract (x6_1 : Int).toNat ((wrap64 (x6_1 + 1)) : Int).toNat), .int .i64 (wrap64 ((Int.tmod (wrap64 (x416000_8)) (wrap64 (x6_1 + 1))) - 1)), .bool (((Int.tdiv x416000_8 16) % 4) == 3), .slice none 0 0]) ?_ 3 _ rfl; (with_reducible repeat (first | refine blk_drewN ?_ _ | refine blk_drew ?_ | refine blk_alloc ?_ _)); refine blk_put (cs := #[.string ((⟨#[65, 66, 67, 68, 69, 70]⟩ : ByteArray).extract (x6_1 : Int).toNat ((wrap64 (x6_1 + 1)) : Int).toNat), .int .i64 (wrap64 ((Int.tmod (wrap64 (x416000_8)) (wrap64 (x6_1 + 1))) - 1)), .bool false, .slice none 0 0]) ?_ 2 _ rfl; (with_reducible repeat (first | refine blk_drewN ?_ _ | refine blk_drew ?_ | refine blk_alloc ?_ _)); refine blk_put (cs := #[.string ((⟨#[65, 66, 67, 68, 69, 70]⟩ : ByteArray).extract (x6_1 : Int).toNat ((wrap64 (x6_1 + 1)) : Int).toNat), .int .i64 0, .bool false, .slice none 0 0]) ?_ 1 _ rfl; (with_reducible repeat (first | refine blk_drewN ?_ _ | refine blk_drew ?_ | refine blk_alloc ?_ _)); refine blk_put (cs := #[.string (⟨#[]⟩ : ByteArray), .int .i64 0, .bool false, .slice none 0 0]) ?_ 0 _ rfl; (with_reducible repeat (first | refine blk_drewN ?_ _ | refine blk_drew ?_ | refine blk_alloc ?_ _)); exact BK417.out) k_ hk⟩) _ (Nat.le_refl _)) (Below.refl _ _) (Nat.le_refl _) (by simp) ?_; (case hd => rfl); (case hg => rfl); (case hr => first | (go_simp; done) | (go_simp; rfl)); (case hp => exact (Reps.c4 (show Kd.FK k77 _ _ (⟨(⟨#[117, 118, 119, 120, 121, 122]⟩ : ByteArray).extract (x6_1 : Int).toNat ((wrap64 (x6_1 + 1)) : Int).toNat, (-3), 3 + (((Int.tdiv x416001_8 4) % 256) % 9), ([] : List ByteArray)⟩ : S77) [.string ((⟨#[117, 118, 119, 120, 121, 122]⟩ : ByteArray).extract (x6_1 : Int).toNat ((wrap64 (x6_1 + 1)) : Int).toNat), .int .i64 (-3), .int .i64 (3 + (((Int.tdiv x416001_8 4) % 256) % 9)), .slice none 0 0] from (k77_mkF _ _ (⟨(⟨#[117, 118, 119, 120, 121, 122]⟩ : ByteArray).extract (x6_1 : Int).toNat ((wrap64 (x6_1 + 1)) : Int).toNat, (-3), 3 + (((Int.tdiv x416001_8 4) % 256) % 9), ([] : List ByteArray)⟩ : S77) (Nat.le_refl _) (Kd.F_nil _ _ _))) (Reps.none _ _))); intro v419 w38 ho39 hb hg_ hnew_; clear hg_ hnew_; (first | rw [← Ny418.out] at ho39 | (simp only [Int.reduceToNat] at ho39; rw [← Ny418.out] at ho39)); replace HO_415000 := Aside0.mk (Kd.N_elder' (by (with_reducible repeat (first | apply Kd.N_alloc | apply Kd.N_drewN | apply Kd.N_drew)); exact (Kd.N_mono (Kd.N_far (p := ⟨gb417, 3, none⟩) (Kd.N_far (p := ⟨gb417, 2, none⟩) (Kd.N_far (p := ⟨gb417, 1, none⟩) (Kd.N_far (p := ⟨gb417, 0, none⟩) (Kd.N_mono HO_415000.out (fun k_ hk => (⟨hk, hk.2⟩ : _ ∧ k_ ≠ gb417))) (fun _ hk => hk.2) (.string ((⟨#[65, 66, 67, 68, 69, 70]⟩ : ByteArray).extract (x6_1 : Int).toNat ((wrap64 (x6_1 + 1)) : Int).toNat))) (fun _ hk => hk.2) (.int .i64 (wrap64 ((Int.tmod (wrap64 (x416000_8)) (wrap64 (x6_1 + 1))) - 1)))) (fun _ hk => hk.2) (.bool (((Int.tdiv x416000_8 16) % 4) == 3))) (fun _ hk => hk.2) (.slice none 0 0)) (fun _ h_ => h_.1))) (Kd.N_base ho39) hb); have HO420 := Aside0.mk (Kd.N_lower ho39 (below_size (bb HB))); replace BK413 := Aside0.mk (blk_below (g := gb413) (o := .cells #[.slice none 0 0, .slice none 0 0] 25 (0, 0)) (by (with_reducible repeat (first | refine blk_drewN ?_ _ | refine blk_drew ?_ | refine blk_alloc ?_ _)); refine blk_far ?_ NB413_417.out _; (with_reducible repeat (first | refine blk_drewN ?_ _ | refine blk_drew ?_ | refine blk_alloc ?_ _)); refine blk_far ?_ NB413_417.out _; (with_reducible repeat (first | refine blk_drewN ?_ _ | refine blk_drew ?_ | refine blk_alloc ?_ _)); refine blk_far ?_ NB413_417.out _; (with_reducible repeat (first | refine blk_drewN ?_ _ | refine blk_drew ?_ | refine blk_alloc ?_ _)); refine blk_far ?_ NB413_417.out _; (with_reducible repeat (first | refine blk_drewN ?_ _ | refine blk_drew ?_ | refine blk_alloc ?_ _)); exact BK413.out) hb); replace BK414 := Aside0.mk (blk_below (g := gb414) (o := .cells #[u415000, .slice none 0 0] 25 (0, 0)) (by (with_reducible repeat (first | refine blk_drewN ?_ _ | refine blk_drew ?_ | refine blk_alloc ?_ _)); refine blk_far ?_ NB414_417.out _; (with_reducible repeat (first | refine blk_drewN ?_ _ | refine blk_drew ?_ | refine blk_alloc ?_ _)); refine blk_far ?_ NB414_417.out _; (with_reducible repeat (first | refine blk_drewN ?_ _ | refine blk_drew ?_ | refine blk_alloc ?_ _)); refine blk_far ?_ NB414_417.out _; (with_reducible repeat (first | refine blk_drewN ?_ _ | refine blk_drew ?_ | refine blk_alloc ?_ _)); refine blk_far ?_ NB414_417.out _; (with_reducible repeat (first | refine blk_drewN ?_ _ | refine blk_drew ?_ | refine blk_alloc ?_ _)); exact BK414.out) hb); replace BK415 := Aside0.mk (blk_below (g := gb415) (o := .cells #[.int .u8 x416000_8, .int .u8 x416001_8] 81 (0, 0)) (by (with_reducible repeat (first | refine blk_drewN ?_ _ | refine blk_drew ?_ | refine blk_alloc ?_ _)); refine blk_far ?_ NB415_417.out _; (with_reducible repeat (first | refine blk_drewN ?_ _ | refine blk_drew ?_ | refine blk_alloc ?_ _)); refine blk_far ?_ NB415_417.out _; (with_reducible repeat (first | refine blk_drewN ?_ _ | refine blk_drew ?_ | refine blk_alloc ?_ _)); refine blk_far ?_ NB415_417.out _; (with_reducible repeat (first | refine blk_drewN ?_ _ | refine blk_drew ?_ | refine blk_alloc ?_ _)); refine blk_far ?_ NB415_417.out _; (with_reducible repeat (first | refine blk_drewN ?_ _ | refine blk_drew ?_ | refine blk_alloc ?_ _)); exact BK415.out) hb); replace BK417 := Aside0.mk (blk_below (g := gb417) (o := .cells #[.string ((⟨#[65, 66, 67, 68, 69, 70]⟩ : ByteArray).extract (x6_1 : Int).toNat ((wrap64 (x6_1 + 1)) : Int).toNat), .int .i64 (wrap64 ((Int.tmod (wrap64 (x416000_8)) (wrap64 (x6_1 + 1))) - 1)), .bool (((Int.tdiv x416000_8 16) % 4) == 3), .slice none 0 0] 68 (0, 0)) (by (with_reducible repeat (first | refine blk_drewN ?_ _ | refine blk_drew ?_ | refine blk_alloc ?_ _)); refine blk_put (cs := #[.string ((⟨#[65, 66, 67, 68, 69, 70]⟩ : ByteArray).extract (x6_1 : Int).toNat ((wrap64 (x6_1 + 1)) : Int).toNat), .int .i64 (wrap64 ((Int.tmod (wrap64 (x416000_8)) (wrap64 (x6_1 + 1))) - 1)), .bool (((Int.tdiv x416000_8 16) % 4) == 3), .slice none 0 0]) ?_ 3 _ rfl; (with_reducible repeat (first | refine blk_drewN ?_ _ | refine blk_drew ?_ | refine blk_alloc ?_ _)); refine blk_put (cs := #[.string ((⟨#[65, 66, 67, 68, 69, 70]⟩ : ByteArray).extract (x6_1 : Int).toNat ((wrap64 (x6_1 + 1)) : Int).toNat), .int .i64 (wrap64 ((Int.tmod (wrap64 (x416000_8)) (wrap64 (x6_1 + 1))) - 1)), .bool false, .slice none 0 0]) ?_ 2 _ rfl; (with_reducible repeat (first | refine blk_drewN ?_ _ | refine blk_drew ?_ | refine blk_alloc ?_ _)); refine blk_put (cs := #[.string ((⟨#[65, 66, 67, 68, 69, 70]⟩ : ByteArray).extract (x6_1 : Int).toNat ((wrap64 (x6_1 + 1)) : Int).toNat), .int .i64 0, .bool false, .slice none 0 0]) ?_ 1 _ rfl; (with_reducible repeat (first | refine blk_drewN ?_ _ | refine blk_drew ?_ | refine blk_alloc ?_ _)); refine blk_put (cs := #[.string (⟨#[]⟩ : ByteArray), .int .i64 0, .bool false, .slice none 0 0]) ?_ 0 _ rfl; (with_reducible repeat (first | refine blk_drewN ?_ _ | refine blk_drew ?_ | refine blk_alloc ?_ _)); exact BK417.out) hb); replace HB := bstep HB hb; clear hb ho39; obtain ⟨Ao40, co40, eo40⟩ := Kd.N_slice HO420.out; subst eo40; have hnb41 := NB417_413.out; have hnc41 := NB413_417.out; have hnb42 := NB417_414.out; have hnc42 := NB414_417.out; obtain ⟨hcz43_0, hcz43_1, hcz43_2, hcz43_3, hfz43_0, hfz43_1, hfz43_2, hfz43_3⟩ := cz4 BK417) | ((with_reducible refine gate_store (t := 45) (p := 70) rfl ?_); refine store_event (t := 45) (p := 70) (v := ?vo_w44) (w1 := (w38.setCell ⟨gb417, 3, none⟩ (.slice Ao40 y418.length co40))) ?hg ?ho ?hn ?hr ?_; (case ho => rfl); (case hg => rfl); (case hn => rfl); (case hr => first | (go_simp; done) | (go_simp; rfl)); intro w44 hw; replace HO_415000 : Aside0 (Kd.N k68 68 w44 w.heap.size (fun k_ => (w.heap.size ≤ k_) ∧ some k_ ≠ (.slice Ao40 y418.length co40 : Value).ownBlock ∧ k_ ≠ gb413 ∧ k_ ≠ gb414 ∧ k_ ≠ gb415 ∧ k_ ≠ gb417) u415000 x415000_1) := ⟨(by rw [hw]; exact (by (with_reducible repeat (first | apply Kd.N_alloc | apply Kd.N_drewN | apply Kd.N_drew)); exact Kd.N_mono (Kd.N_far (p := ⟨gb417, 3, none⟩) (Kd.N_mono HO_415000.out (fun k_ hk => (⟨hk, hk.1.2⟩ : _ ∧ k_ ≠ gb417))) (fun _ hk => hk.2) (.slice Ao40 y418.length co40)) (fun _ hk => ⟨hk.1.1.1.1, ⟨hk.1.2, ⟨hk.1.1.1.2.1, ⟨hk.1.1.1.2.2.1, ⟨hk.1.1.1.2.2.2, hk.1.1.2⟩⟩⟩⟩⟩)))⟩; replace HO420 : Aside0 (Kd.N k77 77 w44 w.heap.size (fun k_ => (w.heap.size ≤ k_) ∧ some k_ ≠ (u415000 : Value).ownBlock ∧ k_ ≠ gb413 ∧ k_ ≠ gb414 ∧ k_ ≠ gb415 ∧ k_ ≠ gb417) (.slice Ao40 y418.length co40) y418) := ⟨(by rw [hw]; exact (by (with_reducible repeat (first | apply Kd.N_alloc | apply Kd.N_drewN | apply Kd.N_drew)); exact Kd.N_mono (Kd.N_far (p := ⟨gb417, 3, none⟩) (Kd.N_mono HO420.out (fun k_ hk => (⟨hk, hk.2.2.2.2.2⟩ : _ ∧ k_ ≠ gb417))) (fun _ hk => hk.2) (.slice Ao40 y418.length co40)) (fun _ hk => ⟨hk.1.1, ⟨hk.1.2.1, ⟨hk.1.2.2.1, ⟨hk.1.2.2.2.1, ⟨hk.1.2.2.2.2.1, hk.1.2.2.2.2.2⟩⟩⟩⟩⟩)))⟩; replace BK413 : Aside0 (w44.heap[gb413]? = some (.cells #[.slice none 0 0, .slice none 0 0] 25 (0, 0))) := ⟨(by rw [hw]; exact (by (with_reducible repeat (first | refine blk_drewN ?_ _ | refine blk_drew ?_ | refine blk_alloc ?_ _)); refine blk_far ?_ NB413_417.out _; (with_reducible repeat (first | refine blk_drewN ?_ _ | refine blk_drew ?_ | refine blk_alloc ?_ _)); exact BK413.out))⟩; replace BK414 : Aside0 (w44.heap[gb414]? = some (.cells #[u415000, .slice none 0 0] 25 (0, 0))) := ⟨(by rw [hw]; exact (by (with_reducible repeat (first | refine blk_drewN ?_ _ | refine blk_drew ?_ | refine blk_alloc ?_ _)); refine blk_far ?_ NB414_417.out _; (with_reducible repeat (first | refine blk_drewN ?_ _ | refine blk_drew ?_ | refine blk_alloc ?_ _)); exact BK414.out))⟩; replace BK415 : Aside0 (w44.heap[gb415]? = some (.cells #[.int .u8 x416000_8, .int .u8 x416001_8] 81 (0, 0))) := ⟨(by rw [hw]; exact (by (with_reducible repeat (first | refine blk_drewN ?_ _ | refine blk_drew ?_ | refine blk_alloc ?_ _)); refine blk_far ?_ NB415_417.out _; (with_reducible repeat (first | refine blk_drewN ?_ _ | refine blk_drew ?_ | refine blk_alloc ?_ _)); exact BK415.out))⟩; replace BK417 : Aside0 (w44.heap[gb417]? = some (.cells #[.string ((⟨#[65, 66, 67, 68, 69, 70]⟩ : ByteArray).extract (x6_1 : Int).toNat ((wrap64 (x6_1 + 1)) : Int).toNat), .int .i64 (wrap64 ((Int.tmod (wrap64 (x416000_8)) (wrap64 (x6_1 + 1))) - 1)), .bool (((Int.tdiv x416000_8 16) % 4) == 3), .slice Ao40 y418.length co40] 68 (0, 0))) := ⟨(by rw [hw]; exact (by (with_reducible repeat (first | refine blk_drewN ?_ _ | refine blk_drew ?_ | refine blk_alloc ?_ _)); refine blk_put (cs := #[.string ((⟨#[65, 66, 67, 68, 69, 70]⟩ : ByteArray).extract (x6_1 : Int).toNat ((wrap64 (x6_1 + 1)) : Int).toNat), .int .i64 (wrap64 ((Int.tmod (wrap64 (x416000_8)) (wrap64 (x6_1 + 1))) - 1)), .bool (((Int.tdiv x416000_8 16) % 4) == 3), .slice none 0 0]) ?_ 3 _ rfl; (with_reducible repeat (first | refine blk_drewN ?_ _ | refine blk_drew ?_ | refine blk_alloc ?_ _)); exact BK417.out))⟩; replace HB : Aside0 (Below w.heap.size w w44) := ⟨(by rw [hw]; exact (bb HB))⟩; clear hw; have hnb45 := NB414_413.out; have hnc45 := NB413_414.out; obtain ⟨hcz46_0, hcz46_1, hfz46_0, hfz46_1⟩ := cz2 BK414; obtain ⟨hcz47_0, hcz47_1, hcz47_2, hcz47_3, hfz47_0, hfz47_1, hfz47_2, hfz47_3⟩ := cz4 BK417) | ((with_reducible refine gate_builtin (b := .append) (xs := #[.tmp 79, .tmp 81]) rfl ?_); (try (refine gate_guard (by rfl) ?_; dsimp only)); at_builtin; refine Kd.N_append k68 (w0 := w) w.heap.size rfl (.tmp 79) (.tmp 81) 22 68 (.agg #[(.string ⟨#[]⟩), (.int .i64 0), (.bool false), (.slice none 0 0)]) 56 rfl Try.underlying22 info68 rfl (by decide) (by omega) u415000 x415000_1 (⟨(⟨#[65, 66, 67, 68, 69, 70]⟩ : ByteArray).extract (x6_1 : Int).toNat ((wrap64 (x6_1 + 1)) : Int).toNat, wrap64 ((Int.tmod (wrap64 (x416000_8)) (wrap64 (x6_1 + 1))) - 1), (((Int.tdiv x416000_8 16) % 4) == 3), y418⟩ : S68) [.string ((⟨#[65, 66, 67, 68, 69, 70]⟩ : ByteArray).extract (x6_1 : Int).toNat ((wrap64 (x6_1 + 1)) : Int).toNat), .int .i64 (wrap64 ((Int.tmod (wrap64 (x416000_8)) (wrap64 (x6_1 + 1))) - 1)), .bool (((Int.tdiv x416000_8 16) % 4) == 3), .slice Ao40 y418.length co40] (fun k_ => (w.heap.size ≤ k_) ∧ k_ ≠ gb413 ∧ k_ ≠ gb414 ∧ k_ ≠ gb415 ∧ k_ ≠ gb417) (fun k_ => ((fun k_ => (w.heap.size ≤ k_) ∧ k_ ≠ gb413 ∧ k_ ≠ gb414 ∧ k_ ≠ gb415 ∧ k_ ≠ gb417)) k_ ∧ some k_ ≠ (u415000 : Value).ownBlock) rfl rfl ?aP (fun _ hk => hk) ?aF ?aO ?aB ?aS ?aL ?_; (case aP => exact (k68_mkF _ _ (⟨(⟨#[65, 66, 67, 68, 69, 70]⟩ : ByteArray).extract (x6_1 : Int).toNat ((wrap64 (x6_1 + 1)) : Int).toNat, wrap64 ((Int.tmod (wrap64 (x416000_8)) (wrap64 (x6_1 + 1))) - 1), (((Int.tdiv x416000_8 16) % 4) == 3), y418⟩ : S68) (Kd.N_reads' (Kd.N_mono (ok' := (fun k_ => ((fun k_ => (w.heap.size ≤ k_) ∧ k_ ≠ gb413 ∧ k_ ≠ gb414 ∧ k_ ≠ gb415 ∧ k_ ≠ gb417)) k_ ∧ some k_ ≠ (u415000 : Value).ownBlock)) (HO420.out) (fun k_ hk => ⟨⟨hk.1, ⟨hk.2.2.1, ⟨hk.2.2.2.1, ⟨hk.2.2.2.2.1, hk.2.2.2.2.2⟩⟩⟩⟩, hk.2.1⟩))).2.1 (Kd.N_F (Kd.N_mono (ok' := (fun k_ => ((fun k_ => (w.heap.size ≤ k_) ∧ k_ ≠ gb413 ∧ k_ ≠ gb414 ∧ k_ ≠ gb415 ∧ k_ ≠ gb417)) k_ ∧ some k_ ≠ (u415000 : Value).ownBlock)) (HO420.out) (fun k_ hk => ⟨⟨hk.1, ⟨hk.2.2.1, ⟨hk.2.2.2.1, ⟨hk.2.2.2.2.1, hk.2.2.2.2.2⟩⟩⟩⟩, hk.2.1⟩))))); (case aB => exact (bb HB)); (case aF => exact (fun k_ hk => ⟨(Nat.le_trans (below_size (bb HB)) hk), Kd.freshB (g := gb413) (o := .cells #[.slice none 0 0, .slice none 0 0] 25 (0, 0)) (bk BK413) k_ hk, Kd.freshB (g := gb414) (o := .cells #[u415000, .slice none 0 0] 25 (0, 0)) (bk BK414) k_ hk, Kd.freshB (g := gb415) (o := .cells #[.int .u8 x416000_8, .int .u8 x416001_8] 81 (0, 0)) (bk BK415) k_ hk, Kd.freshB (g := gb417) (o := .cells #[.string ((⟨#[65, 66, 67, 68, 69, 70]⟩ : ByteArray).extract (x6_1 : Int).toNat ((wrap64 (x6_1 + 1)) : Int).toNat), .int .i64 (wrap64 ((Int.tmod (wrap64 (x416000_8)) (wrap64 (x6_1 + 1))) - 1)), .bool (((Int.tdiv x416000_8 16) % 4) == 3), .slice Ao40 y418.length co40] 68 (0, 0)) (bk BK417) k_ hk⟩)); (case aO => exact (by (with_reducible repeat (first | apply Kd.N_alloc | apply Kd.N_drewN | apply Kd.N_drew)); exact Kd.N_mono HO_415000.out (fun _ hk => ⟨hk.1, ⟨hk.2.2.1, ⟨hk.2.2.2.1, ⟨hk.2.2.2.2.1, hk.2.2.2.2.2⟩⟩⟩⟩))); (case aS => exact (below_size (bb HB))); (case aL => have := LMc27.out; omega); intro v422 w48 ho hb hg hat; rw [← Ny421.out] at ho; replace BK413 := Aside0.mk (blk_grown (g := gb413) (o := .cells #[.slice none 0 0, .slice none 0 0] 25 (0, 0)) (bk BK413) hg (Kd.N_ne HO_415000.out BK413.out (by decide))); replace BK414 := Aside0.mk (blk_grown (g := gb414) (o := .cells #[u415000, .slice none 0 0] 25 (0, 0)) (bk BK414) hg (Kd.N_ne HO_415000.out BK414.out (by decide))); replace BK415 := Aside0.mk (blk_grown (g := gb415) (o := .cells #[.int .u8 x416000_8, .int .u8 x416001_8] 81 (0, 0)) (bk BK415) hg (Kd.N_ne HO_415000.out BK415.out (by decide))); replace BK417 := Aside0.mk (blk_grown (g := gb417) (o := .cells #[.string ((⟨#[65, 66, 67, 68, 69, 70]⟩ : ByteArray).extract (x6_1 : Int).toNat ((wrap64 (x6_1 + 1)) : Int).toNat), .int .i64 (wrap64 ((Int.tmod (wrap64 (x416000_8)) (wrap64 (x6_1 + 1))) - 1)), .bool (((Int.tdiv x416000_8 16) % 4) == 3), .slice Ao40 y418.length co40] 68 (0, 0)) (bk BK417) hg (Kd.N_away HO_415000.out (fun _ hk => hk.2.2.2.2.2))); replace HB := Aside0.mk (hb); have HO423 := Aside0.mk (ho); clear HO_415000 HO420; clear ho hb hg hat; obtain ⟨Ao49, co49, eo49⟩ := Kd.N_slice HO423.out; subst eo49; obtain ⟨hcz50_0, hcz50_1, hfz50_0, hfz50_1⟩ := cz2 BK414))
              go_roundg kj8
              case measure => have := HK1.out; have := HJ4.out; have := HJ8.out; omega
              case rel => exact ⟨(wrap64 (x6_1 + 1)), (y421), (.slice Ao49 y421.length co49), eqs, H', ⟨by have := HK1.out; have := HJ4.out; have := HJ8.out; omega⟩, ⟨by (with_reducible repeat (first | apply Kd.N_alloc | apply Kd.N_drewN | apply Kd.N_drew)); exact Kd.N_mono (Kd.N_far (p := ⟨gb414, 0, none⟩) (Kd.N_mono HO423.out (fun k_ hk => (⟨hk, hk.2.2.1⟩ : _ ∧ k_ ≠ gb414))) (fun _ hk => hk.2) (.slice Ao49 y421.length co49)) (fun _ hk => ⟨hk.1.1, ⟨hk.1.2.1, hk.1.2.2.1⟩⟩)⟩, ⟨by (with_reducible repeat (first | refine blk_drewN ?_ _ | refine blk_drew ?_ | refine blk_alloc ?_ _)); refine blk_far ?_ NB413_414.out _; (with_reducible repeat (first | refine blk_drewN ?_ _ | refine blk_drew ?_ | refine blk_alloc ?_ _)); exact BK413.out⟩, ⟨by (with_reducible repeat (first | refine blk_drewN ?_ _ | refine blk_drew ?_ | refine blk_alloc ?_ _)); refine blk_put (cs := #[u415000, .slice none 0 0]) ?_ 0 _ rfl; (with_reducible repeat (first | refine blk_drewN ?_ _ | refine blk_drew ?_ | refine blk_alloc ?_ _)); exact BK414.out⟩, ⟨bb HB⟩⟩
             ·rw [if_neg c27] at H
              exact absurd H (by simp)
            ·rw [if_neg c26] at H
             have c26b0 : ((Int.tmod x416001_8 4) == 1) = false := beq_eq_false_iff_ne.mpr c26
             have c26b1 : ((Int.tmod x416001_8 4) != 1) = true := bne_iff_ne.mpr c26
             by_cases c51 : (Int.tmod x416001_8 4) = 2
             ·rw [if_pos c51] at H
              have c51b0 : ((Int.tmod x416001_8 4) == 2) = true := beq_iff_eq.mpr c51
              have c51b1 : ((Int.tmod x416001_8 4) != 2) = false := bne_eq_false_iff_eq.mpr c51
              clear c51
              obtain ⟨y424, hy424⟩ : ∃ y_ : List ByteArray, y_ = (([(⟨#[111, 102, 102]⟩ : ByteArray), (⟨#[111, 110]⟩ : ByteArray)] : List ByteArray)) := ⟨_, rfl⟩
              replace H : (if x415000_1.length < 2513169434916 then (q4_Made.l0 kj8 l0 l1 (wrap64 (x6_1 + 1)) (x415000_1 ++ [(⟨(⟨#[65, 66, 67, 68, 69, 70]⟩ : ByteArray).extract (x6_1 : Int).toNat ((wrap64 (x6_1 + 1)) : Int).toNat, wrap64 ((Int.tmod (wrap64 (x416000_8)) (wrap64 (x6_1 + 1))) - 1), (((Int.tdiv x416000_8 16) % 4) == 3), (([(⟨(⟨#[117, 118, 119, 120, 121, 122]⟩ : ByteArray).extract (x6_1 : Int).toNat ((wrap64 (x6_1 + 1)) : Int).toNat, 0, 1, y424⟩ : S77)] : List (S77)))⟩ : S68)])) else (none)) = some (r1, r2) := by first | (rw [hy424]; with_reducible exact H) | (have H2_ := (Option.bind_some _ _).symm.trans H; rw [hy424]; with_reducible exact H2_) | (have H2_ := (Option.bind_some _ _).symm.trans H; with_reducible exact H2_) | with_reducible exact H | (rw [hy424]; exact H) | exact H
              have Ny424 := Aside0.mk hy424
              clear hy424
              obtain ⟨y427, hy427⟩ : ∃ y_ : List (S77), y_ = (([(⟨(⟨#[117, 118, 119, 120, 121, 122]⟩ : ByteArray).extract (x6_1 : Int).toNat ((wrap64 (x6_1 + 1)) : Int).toNat, 0, 1, y424⟩ : S77)] : List (S77))) := ⟨_, rfl⟩
              replace H : (if x415000_1.length < 2513169434916 then (q4_Made.l0 kj8 l0 l1 (wrap64 (x6_1 + 1)) (x415000_1 ++ [(⟨(⟨#[65, 66, 67, 68, 69, 70]⟩ : ByteArray).extract (x6_1 : Int).toNat ((wrap64 (x6_1 + 1)) : Int).toNat, wrap64 ((Int.tmod (wrap64 (x416000_8)) (wrap64 (x6_1 + 1))) - 1), (((Int.tdiv x416000_8 16) % 4) == 3), y427⟩ : S68)])) else (none)) = some (r1, r2) := by first | (rw [hy427]; with_reducible exact H) | (have H2_ := (Option.bind_some _ _).symm.trans H; rw [hy427]; with_reducible exact H2_) | (have H2_ := (Option.bind_some _ _).symm.trans H; with_reducible exact H2_) | with_reducible exact H | (rw [hy427]; exact H) | exact H
              have Ny427 := Aside0.mk hy427
              clear hy427
              by_cases c52 : x415000_1.length < 2513169434916
              ·rw [if_pos c52] at H
               have LMc52 := Aside0.mk c52
               clear c52
               obtain ⟨y430, hy430⟩ : ∃ y_ : List (S68), y_ = (x415000_1 ++ [(⟨(⟨#[65, 66, 67, 68, 69, 70]⟩ : ByteArray).extract (x6_1 : Int).toNat ((wrap64 (x6_1 + 1)) : Int).toNat, wrap64 ((Int.tmod (wrap64 (x416000_8)) (wrap64 (x6_1 + 1))) - 1), (((Int.tdiv x416000_8 16) % 4) == 3), y427⟩ : S68)]) := ⟨_, rfl⟩
               replace H : (q4_Made.l0 kj8 l0 l1 (wrap64 (x6_1 + 1)) y430) = some (r1, r2) := by first | (rw [hy430]; with_reducible exact H) | (have H2_ := (Option.bind_some _ _).symm.trans H; rw [hy430]; with_reducible exact H2_) | (have H2_ := (Option.bind_some _ _).symm.trans H; with_reducible exact H2_) | with_reducible exact H | (rw [hy430]; exact H) | exact H
               have Ny430 := Aside0.mk hy430
               clear hy430
               have H' := Aside0.mk H
               clear H
               try go_wp2
               replace HO_415000 := Aside0.mk (Kd.N_drew HO_415000.out)
               replace BK413 := Aside0.mk (blk_drew BK413.out)
               replace BK414 := Aside0.mk (blk_drew BK414.out)
               replace BK415 := Aside0.mk (blk_drew BK415.out)
               replace HB := Aside0.mk (below_drew1 HB.out)
               refine start_ (n := 19) (S := fun w' => w'.cell? ⟨gb415, 0, none⟩ = some (.int .u8 x416000_8) ∧ w'.cell? ⟨gb415, 1, none⟩ = some (.int .u8 x416001_8)) (ds := []) #[false, false, false, false, false, false, false, false, false, false, false, false, false, false, false, false, false, false, false] (by kernel_rfl) rfl rfl ⟨(blk_cell BK415.out 0).trans rfl, (blk_cell BK415.out 1).trans rfl⟩ (fun hHeld => ?_); refine with_tabW q4_Made.tab8 q4_Made.bits8 (fun HT_ HW_ => ?_)
               generalize wc.drew = w53 at HO_415000 BK413 BK414 BK415 HB hHeld ⊢
               refine pu 0 35 (bits 19 0x1) HT_ (h := ?_)
               refine pu 1 36 (bits 19 0x3) HT_ (h := ?_)
               refine pu 2 37 (bits 19 0x7) HT_ (h := ?_)
               refine pu 3 38 (bits 19 0xf) HT_ (h := ?_)
               refine pu 4 39 (bits 19 0x1f) HT_ (h := ?_)
               refine pu 7 42 (bits 19 0x9f) HT_ (h := ?_)
               refine pu 8 43 (bits 19 0x19f) HT_ (h := ?_)
               refine pu 11 46 (bits 19 0x99f) HT_ (h := ?_)
               refine tk 5 40 (bits 19 0x9bf) HT_ HW_ hHeld (hy := by rintro w' ⟨s0, s1⟩; go_simp; with_reducible rfl) (h := ?_)
               refine pu 6 41 (bits 19 0x9ff) HT_ (h := ?_)
               refine pu 9 44 (bits 19 0xbff) HT_ (h := ?_)
               refine pu 10 45 (bits 19 0xfff) HT_ (h := ?_)
               refine tk 12 47 (bits 19 0x1fff) HT_ HW_ hHeld (hy := by rintro w' ⟨s0, s1⟩; go_simp; with_reducible rfl) (h := ?_)
               refine pu 13 48 (bits 19 0x3fff) HT_ (h := ?_)
               refine pu 14 49 (bits 19 0x7fff) HT_ (h := ?_)
               refine pu 15 50 (bits 19 0xffff) HT_ (h := ?_)
               refine pu 16 51 (bits 19 0x1ffff) HT_ (h := ?_)
               refine one_ (i := 17) (N := some 8) #[true, true, true, true, true, true, true, true, true, true, true, true, true, true, true, true, true, true, false] rfl rfl (one_of HT_.out (by kernel_rfl)) (by decide) (fun K hK => ?_)
               refine box_step ?hg (N := 8) ?hd (cs := #[.string (⟨#[]⟩ : ByteArray), .int .i64 0, .bool false, .slice none 0 0]) (t := 68) ?hr ?_; (case hd => rfl); (case hg => rfl); (case hr => first | (go_simp; done) | (go_simp; rfl))
               intro gb417 hg w54 hbox hb
               replace HO_415000 := Aside0.mk (Kd.N_below (Kd.N_elderB (kN HO_415000) gb417 (Nat.le_of_eq hg.symm)) hb)
               have BK417 := Aside0.mk (hbox)
               have GW417 := bsz HB hg
               have GE417 := bsz HB hg
               replace HB := bstep HB hb
               have NB413_417 := blt BK413 hg
               have NB417_413 := bgt BK413 hg
               replace BK413 := bkb BK413 hb
               have NB414_417 := blt BK414 hg
               have NB417_414 := bgt BK414 hg
               replace BK414 := bkb BK414 hb
               have NB415_417 := blt BK415 hg
               have NB417_415 := bgt BK415 hg
               replace BK415 := bkb BK415 hb
               clear hb hbox hg
               refine hK.out _ _ ⟨(blk_cell BK415.out 0).trans rfl, (blk_cell BK415.out 1).trans rfl⟩ (fun hHeld => ?_)
               clear hK K
               refine norm_ (a' := ?_) ?_ ?_
               rotate_left
               ·show Act.put _ (some 8) _ = _
                simp only [Act.put, List.setIfInBounds_toArray, List.set_cons_zero, List.set_cons_succ, i64_w, i32_w]
                rfl
               refine one_ (i := 18) (N := none) #[true, true, true, true, true, true, true, true, true, true, true, true, true, true, true, true, true, true, true] rfl rfl (one_of HT_.out (by kernel_rfl)) (by decide) (fun K hK => ?_)
               have hs55 : w54.cell? ⟨gb417, 0, none⟩ = some (.string (⟨#[]⟩ : ByteArray)) := (blk_cell BK417.out 0).trans rfl
               have hfs55 := blk_frozen BK417.out 0
               have hns55_0 := NB413_417.out
               have hns55_1 := NB414_417.out
               have hns55_2 := NB415_417.out
               have hms55_0 := NB417_413.out
               have hms55_1 := NB417_414.out
               have hms55_2 := NB417_415.out
               have hs56 : w54.cell? ⟨gb417, 1, none⟩ = some (.int .i64 0) := (blk_cell BK417.out 1).trans rfl
               have hfs56 := blk_frozen BK417.out 1
               have hns56_0 := NB413_417.out
               have hns56_1 := NB414_417.out
               have hns56_2 := NB415_417.out
               have hms56_0 := NB417_413.out
               have hms56_1 := NB417_414.out
               have hms56_2 := NB417_415.out
               have hs57 : w54.cell? ⟨gb417, 2, none⟩ = some (.bool false) := (blk_cell BK417.out 2).trans rfl
               have hfs57 := blk_frozen BK417.out 2
               have hns57_0 := NB413_417.out
               have hns57_1 := NB414_417.out
               have hns57_2 := NB415_417.out
               have hms57_0 := NB417_413.out
               have hms57_1 := NB417_414.out
               have hms57_2 := NB417_415.out
               have hs58 : w54.cell? ⟨gb417, 3, none⟩ = some (.slice none 0 0) := (blk_cell BK417.out 3).trans rfl
               have hfs58 := blk_frozen BK417.out 3
               have hns58_0 := NB413_417.out
               have hns58_1 := NB414_417.out
               have hns58_2 := NB415_417.out
               have hms58_0 := NB417_413.out
               have hms58_1 := NB417_414.out
               have hms58_2 := NB417_415.out
               refine skip_ (w1 := ?_) (by rfl) rfl ?_ ?_
               rotate_left
               ·go_simp
                rfl
               refine hK.out _ _ ⟨((cell_far (p := ⟨gb417, _, none⟩) NB415_417.out _).trans (((cell_far (p := ⟨gb417, _, none⟩) NB415_417.out _).trans (((cell_far (p := ⟨gb417, _, none⟩) NB415_417.out _).trans (((cell_far (p := ⟨gb417, _, none⟩) NB415_417.out _).trans (hHeld.1)))))))), ((cell_far (p := ⟨gb417, _, none⟩) NB415_417.out _).trans (((cell_far (p := ⟨gb417, _, none⟩) NB415_417.out _).trans (((cell_far (p := ⟨gb417, _, none⟩) NB415_417.out _).trans (((cell_far (p := ⟨gb417, _, none⟩) NB415_417.out _).trans (hHeld.2))))))))⟩ (fun hHeld => ?_)
               clear hK K
               refine done_ (done_of HT_.out (by kernel_rfl)) ?_
               have hnb59 := NB415_413.out
               have hnc59 := NB413_415.out
               have hnb60 := NB415_414.out
               have hnc60 := NB414_415.out
               have hnb61 := NB415_417.out
               have hnc61 := NB417_415.out
               obtain ⟨hcz62_0, hcz62_1, hfz62_0, hfz62_1⟩ := cz2 BK415
               try go_wp2_with (first | ((with_reducible refine gate_dst (N := 74) rfl ?_); (try (refine gate_guard (by rfl) ?_; dsimp only)); refine Kd.R_lit Kd.string _ 9 ?hg (N := 74) ?hd (xs := ([(⟨#[111, 102, 102]⟩ : ByteArray), (⟨#[111, 110]⟩ : ByteArray)] : List ByteArray)) (inner := [.string (⟨#[111, 102, 102]⟩ : ByteArray), .string (⟨#[111, 110]⟩ : ByteArray)]) (ok := fun _ => True) (okp := fun _ => True) ?hr ?hp (fun _ hk => hk) trivial (Below.refl _ _) (Nat.le_refl _) (by simp) ?_; (case hd => rfl); (case hg => rfl); (case hr => first | (go_simp; done) | (go_simp; rfl)); (case hp => exact (Reps.one (show Kd.M Kd.string _ _ _ (⟨#[111, 102, 102]⟩ : ByteArray) [.string (⟨#[111, 102, 102]⟩ : ByteArray)] from rfl) (Reps.one (show Kd.M Kd.string _ _ _ (⟨#[111, 110]⟩ : ByteArray) [.string (⟨#[111, 110]⟩ : ByteArray)] from rfl) (Reps.none _ _)))); intro v425 w63 ho64 hb hg_ hnew_; clear hg_ hnew_; (first | rw [← Ny424.out] at ho64 | (simp only [Int.reduceToNat] at ho64; rw [← Ny424.out] at ho64)); replace HO_415000 := Aside0.mk (Kd.N_elder' (by (with_reducible repeat (first | apply Kd.N_alloc | apply Kd.N_drewN | apply Kd.N_drew)); exact (Kd.N_mono (Kd.N_far (p := ⟨gb417, 3, none⟩) (Kd.N_far (p := ⟨gb417, 2, none⟩) (Kd.N_far (p := ⟨gb417, 1, none⟩) (Kd.N_far (p := ⟨gb417, 0, none⟩) (Kd.N_mono HO_415000.out (fun k_ hk => (⟨hk, hk.2⟩ : _ ∧ k_ ≠ gb417))) (fun _ hk => hk.2) (.string ((⟨#[65, 66, 67, 68, 69, 70]⟩ : ByteArray).extract (x6_1 : Int).toNat ((wrap64 (x6_1 + 1)) : Int).toNat))) (fun _ hk => hk.2) (.int .i64 (wrap64 ((Int.tmod (wrap64 (x416000_8)) (wrap64 (x6_1 + 1))) - 1)))) (fun _ hk => hk.2) (.bool (((Int.tdiv x416000_8 16) % 4) == 3))) (fun _ hk => hk.2) (.slice none 0 0)) (fun _ h_ => h_.1))) (Kd.R_base ho64) hb); have HO426 := Aside0.mk (Kd.R_lower (Kd.R_newM (M := fun k_ => (w.heap.size ≤ k_)) ho64 (below_size (bb HB)) (fun k_ h_ => h_)) (below_size (bb HB))); replace BK413 := Aside0.mk (blk_below (g := gb413) (o := .cells #[.slice none 0 0, .slice none 0 0] 25 (0, 0)) (by (with_reducible repeat (first | refine blk_drewN ?_ _ | refine blk_drew ?_ | refine blk_alloc ?_ _)); refine blk_far ?_ NB413_417.out _; (with_reducible repeat (first | refine blk_drewN ?_ _ | refine blk_drew ?_ | refine blk_alloc ?_ _)); refine blk_far ?_ NB413_417.out _; (with_reducible repeat (first | refine blk_drewN ?_ _ | refine blk_drew ?_ | refine blk_alloc ?_ _)); refine blk_far ?_ NB413_417.out _; (with_reducible repeat (first | refine blk_drewN ?_ _ | refine blk_drew ?_ | refine blk_alloc ?_ _)); refine blk_far ?_ NB413_417.out _; (with_reducible repeat (first | refine blk_drewN ?_ _ | refine blk_drew ?_ | refine blk_alloc ?_ _)); exact BK413.out) hb); replace BK414 := Aside0.mk (blk_below (g := gb414) (o := .cells #[u415000, .slice none 0 0] 25 (0, 0)) (by (with_reducible repeat (first | refine blk_drewN ?_ _ | refine blk_drew ?_ | refine blk_alloc ?_ _)); refine blk_far ?_ NB414_417.out _; (with_reducible repeat (first | refine blk_drewN ?_ _ | refine blk_drew ?_ | refine blk_alloc ?_ _)); refine blk_far ?_ NB414_417.out _; (with_reducible repeat (first | refine blk_drewN ?_ _ | refine blk_drew ?_ | refine blk_alloc ?_ _)); refine blk_far ?_ NB414_417.out _; (with_reducible repeat (first | refine blk_drewN ?_ _ | refine blk_drew ?_ | refine blk_alloc ?_ _)); refine blk_far ?_ NB414_417.out _; (with_reducible repeat (first | refine blk_drewN ?_ _ | refine blk_drew ?_ | refine blk_alloc ?_ _)); exact BK414.out) hb); replace BK415 := Aside0.mk (blk_below (g := gb415) (o := .cells #[.int .u8 x416000_8, .int .u8 x416001_8] 81 (0, 0)) (by (with_reducible repeat (first | refine blk_drewN ?_ _ | refine blk_drew ?_ | refine blk_alloc ?_ _)); refine blk_far ?_ NB415_417.out _; (with_reducible repeat (first | refine blk_drewN ?_ _ | refine blk_drew ?_ | refine blk_alloc ?_ _)); refine blk_far ?_ NB415_417.out _; (with_reducible repeat (first | refine blk_drewN ?_ _ | refine blk_drew ?_ | refine blk_alloc ?_ _)); refine blk_far ?_ NB415_417.out _; (with_reducible repeat (first | refine blk_drewN ?_ _ | refine blk_drew ?_ | refine blk_alloc ?_ _)); refine blk_far ?_ NB415_417.out _; (with_reducible repeat (first | refine blk_drewN ?_ _ | refine blk_drew ?_ | refine blk_alloc ?_ _)); exact BK415.out) hb); replace BK417 := Aside0.mk (blk_below (g := gb417) (o := .cells #[.string ((⟨#[65, 66, 67, 68, 69, 70]⟩ : ByteArray).extract (x6_1 : Int).toNat ((wrap64 (x6_1 + 1)) : Int).toNat), .int .i64 (wrap64 ((Int.tmod (wrap64 (x416000_8)) (wrap64 (x6_1 + 1))) - 1)), .bool (((Int.tdiv x416000_8 16) % 4) == 3), .slice none 0 0] 68 (0, 0)) (by (with_reducible repeat (first | refine blk_drewN ?_ _ | refine blk_drew ?_ | refine blk_alloc ?_ _)); refine blk_put (cs := #[.string ((⟨#[65, 66, 67, 68, 69, 70]⟩ : ByteArray).extract (x6_1 : Int).toNat ((wrap64 (x6_1 + 1)) : Int).toNat), .int .i64 (wrap64 ((Int.tmod (wrap64 (x416000_8)) (wrap64 (x6_1 + 1))) - 1)), .bool (((Int.tdiv x416000_8 16) % 4) == 3), .slice none 0 0]) ?_ 3 _ rfl; (with_reducible repeat (first | refine blk_drewN ?_ _ | refine blk_drew ?_ | refine blk_alloc ?_ _)); refine blk_put (cs := #[.string ((⟨#[65, 66, 67, 68, 69, 70]⟩ : ByteArray).extract (x6_1 : Int).toNat ((wrap64 (x6_1 + 1)) : Int).toNat), .int .i64 (wrap64 ((Int.tmod (wrap64 (x416000_8)) (wrap64 (x6_1 + 1))) - 1)), .bool false, .slice none 0 0]) ?_ 2 _ rfl; (with_reducible repeat (first | refine blk_drewN ?_ _ | refine blk_drew ?_ | refine blk_alloc ?_ _)); refine blk_put (cs := #[.string ((⟨#[65, 66, 67, 68, 69, 70]⟩ : ByteArray).extract (x6_1 : Int).toNat ((wrap64 (x6_1 + 1)) : Int).toNat), .int .i64 0, .bool false, .slice none 0 0]) ?_ 1 _ rfl; (with_reducible repeat (first | refine blk_drewN ?_ _ | refine blk_drew ?_ | refine blk_alloc ?_ _)); refine blk_put (cs := #[.string (⟨#[]⟩ : ByteArray), .int .i64 0, .bool false, .slice none 0 0]) ?_ 0 _ rfl; (with_reducible repeat (first | refine blk_drewN ?_ _ | refine blk_drew ?_ | refine blk_alloc ?_ _)); exact BK417.out) hb); replace HB := bstep HB hb; clear hb ho64; obtain ⟨Ao65, co65, eo65⟩ := Kd.R_slice HO426.out; subst eo65) | ((with_reducible refine gate_dst (N := 76) rfl ?_); (try (refine gate_guard (by rfl) ?_; dsimp only)); refine Kd.N_lit k77 _ 77 ?hg (N' := 76) ?hd (xs := ([(⟨(⟨#[117, 118, 119, 120, 121, 122]⟩ : ByteArray).extract (x6_1 : Int).toNat ((wrap64 (x6_1 + 1)) : Int).toNat, 0, 1, y424⟩ : S77)] : List (S77))) (inner := [.string ((⟨#[117, 118, 119, 120, 121, 122]⟩ : ByteArray).extract (x6_1 : Int).toNat ((wrap64 (x6_1 + 1)) : Int).toNat), .int .i64 0, .int .i64 1, .slice Ao65 y424.length co65]) (ok := (fun k_ => (w.heap.size ≤ k_) ∧ some k_ ≠ (u415000 : Value).ownBlock ∧ k_ ≠ gb413 ∧ k_ ≠ gb414 ∧ k_ ≠ gb415 ∧ k_ ≠ gb417)) (okp := (fun k_ => (w.heap.size ≤ k_) ∧ some k_ ≠ (u415000 : Value).ownBlock ∧ k_ ≠ gb413 ∧ k_ ≠ gb414 ∧ k_ ≠ gb415 ∧ k_ ≠ gb417)) ?hr ?hp (fun _ hk => hk) ((show ∀ k_, _ ≤ k_ → (fun k_ => (w.heap.size ≤ k_) ∧ some k_ ≠ (u415000 : Value).ownBlock ∧ k_ ≠ gb413 ∧ k_ ≠ gb414 ∧ k_ ≠ gb415 ∧ k_ ≠ gb417) k_ from fun k_ hk => ⟨(Nat.le_trans (below_size (bb HB)) hk), Kd.fresh' (Kd.N_lt (kN HO_415000)) k_ hk, Kd.freshB (g := gb413) (o := .cells #[.slice none 0 0, .slice none 0 0] 25 (0, 0)) (bk BK413) k_ hk, Kd.freshB (g := gb414) (o := .cells #[u415000, .slice none 0 0] 25 (0, 0)) (bk BK414) k_ hk, Kd.freshB (g := gb415) (o := .cells #[.int .u8 x416000_8, .int .u8 x416001_8] 81 (0, 0)) (bk BK415) k_ hk, Kd.freshB (g := gb417) (o := .cells #[.string ((⟨#[65, 66, 67, 68, 69, 70]⟩ : ByteArray).extract (x6_1 : Int).toNat ((wrap64 (x6_1 + 1)) : Int).toNat), .int .i64 (wrap64 ((Int.tmod (wrap64 (x416000_8)) (wrap64 (x6_1 + 1))) - 1)), .bool (((Int.tdiv x416000_8 16) % 4) == 3), .slice none 0 0] 68 (0, 0)) (bk BK417) k_ hk⟩) _ (Nat.le_refl _)) (Below.refl _ _) (Nat.le_refl _) (by simp) ?_; (case hd => rfl); (case hg => rfl); (case hr => first | (go_simp; done) | (go_simp; rfl)); (case hp => exact (Reps.c4 (show Kd.FK k77 _ _ (⟨(⟨#[117, 118, 119, 120, 121, 122]⟩ : ByteArray).extract (x6_1 : Int).toNat ((wrap64 (x6_1 + 1)) : Int).toNat, 0, 1, y424⟩ : S77) [.string ((⟨#[117, 118, 119, 120, 121, 122]⟩ : ByteArray).extract (x6_1 : Int).toNat ((wrap64 (x6_1 + 1)) : Int).toNat), .int .i64 0, .int .i64 1, .slice Ao65 y424.length co65] from (k77_mkF _ _ (⟨(⟨#[117, 118, 119, 120, 121, 122]⟩ : ByteArray).extract (x6_1 : Int).toNat ((wrap64 (x6_1 + 1)) : Int).toNat, 0, 1, y424⟩ : S77) (Kd.R_reads' (Kd.R_mono (ok' := (fun k_ => (w.heap.size ≤ k_) ∧ some k_ ≠ (u415000 : Value).ownBlock ∧ k_ ≠ gb413 ∧ k_ ≠ gb414 ∧ k_ ≠ gb415 ∧ k_ ≠ gb417)) (Kd.R_types (Kd.R_types (Kd.R_types (Kd.R_types (Kd.R_apart' (HO426.out) (Kd.N_typed HO_415000.out) (by decide)) BK413.out (by decide)) BK414.out (by decide)) BK415.out (by decide)) BK417.out (by decide)) (fun k_ hk => ⟨hk.1.1.1.1.1.1, ⟨hk.1.1.1.1.2, ⟨hk.1.1.1.2, ⟨hk.1.1.2, ⟨hk.1.2, hk.2⟩⟩⟩⟩⟩))).2.1 (Kd.R_F (Kd.R_mono (ok' := (fun k_ => (w.heap.size ≤ k_) ∧ some k_ ≠ (u415000 : Value).ownBlock ∧ k_ ≠ gb413 ∧ k_ ≠ gb414 ∧ k_ ≠ gb415 ∧ k_ ≠ gb417)) (Kd.R_types (Kd.R_types (Kd.R_types (Kd.R_types (Kd.R_apart' (HO426.out) (Kd.N_typed HO_415000.out) (by decide)) BK413.out (by decide)) BK414.out (by decide)) BK415.out (by decide)) BK417.out (by decide)) (fun k_ hk => ⟨hk.1.1.1.1.1.1, ⟨hk.1.1.1.1.2, ⟨hk.1.1.1.2, ⟨hk.1.1.2, ⟨hk.1.2, hk.2⟩⟩⟩⟩⟩))))) (Reps.none _ _))); intro v428 w66 ho67 hb hg_ hnew_; clear hg_ hnew_; (first | rw [← Ny427.out] at ho67 | (simp only [Int.reduceToNat] at ho67; rw [← Ny427.out] at ho67)); replace HO_415000 := Aside0.mk (Kd.N_elder' (kN HO_415000) (Kd.N_base ho67) hb); have HO429 := Aside0.mk (Kd.N_lower ho67 (below_size (bb HB))); replace BK413 := bkb BK413 hb; replace BK414 := bkb BK414 hb; replace BK415 := bkb BK415 hb; replace BK417 := bkb BK417 hb; replace HB := bstep HB hb; clear HO426 hb ho67; obtain ⟨Ao68, co68, eo68⟩ := Kd.N_slice HO429.out; subst eo68; have hnb69 := NB417_413.out; have hnc69 := NB413_417.out; have hnb70 := NB417_414.out; have hnc70 := NB414_417.out; obtain ⟨hcz71_0, hcz71_1, hcz71_2, hcz71_3, hfz71_0, hfz71_1, hfz71_2, hfz71_3⟩ := cz4 BK417) | ((with_reducible refine gate_store (t := 45) (p := 77) rfl ?_); refine store_event (t := 45) (p := 77) (v := ?vo_w72) (w1 := (w66.setCell ⟨gb417, 3, none⟩ (.slice Ao68 y427.length co68))) ?hg ?ho ?hn ?hr ?_; (case ho => rfl); (case hg => rfl); (case hn => rfl); (case hr => first | (go_simp; done) | (go_simp; rfl)); intro w72 hw; replace HO_415000 : Aside0 (Kd.N k68 68 w72 w.heap.size (fun k_ => (w.heap.size ≤ k_) ∧ some k_ ≠ (.slice Ao68 y427.length co68 : Value).ownBlock ∧ k_ ≠ gb413 ∧ k_ ≠ gb414 ∧ k_ ≠ gb415 ∧ k_ ≠ gb417) u415000 x415000_1) := ⟨(by rw [hw]; exact (by (with_reducible repeat (first | apply Kd.N_alloc | apply Kd.N_drewN | apply Kd.N_drew)); exact Kd.N_mono (Kd.N_far (p := ⟨gb417, 3, none⟩) (Kd.N_mono HO_415000.out (fun k_ hk => (⟨hk, hk.1.1.2⟩ : _ ∧ k_ ≠ gb417))) (fun _ hk => hk.2) (.slice Ao68 y427.length co68)) (fun _ hk => ⟨hk.1.1.1.1.1, ⟨hk.1.2, ⟨hk.1.1.1.1.2.1, ⟨hk.1.1.1.1.2.2.1, ⟨hk.1.1.1.1.2.2.2, hk.1.1.1.2⟩⟩⟩⟩⟩)))⟩; replace HO429 : Aside0 (Kd.N k77 77 w72 w.heap.size (fun k_ => (w.heap.size ≤ k_) ∧ some k_ ≠ (u415000 : Value).ownBlock ∧ k_ ≠ gb413 ∧ k_ ≠ gb414 ∧ k_ ≠ gb415 ∧ k_ ≠ gb417) (.slice Ao68 y427.length co68) y427) := ⟨(by rw [hw]; exact (by (with_reducible repeat (first | apply Kd.N_alloc | apply Kd.N_drewN | apply Kd.N_drew)); exact Kd.N_mono (Kd.N_far (p := ⟨gb417, 3, none⟩) (Kd.N_mono HO429.out (fun k_ hk => (⟨hk, hk.2.2.2.2.2⟩ : _ ∧ k_ ≠ gb417))) (fun _ hk => hk.2) (.slice Ao68 y427.length co68)) (fun _ hk => ⟨hk.1.1, ⟨hk.1.2.1, ⟨hk.1.2.2.1, ⟨hk.1.2.2.2.1, ⟨hk.1.2.2.2.2.1, hk.1.2.2.2.2.2⟩⟩⟩⟩⟩)))⟩; replace BK413 : Aside0 (w72.heap[gb413]? = some (.cells #[.slice none 0 0, .slice none 0 0] 25 (0, 0))) := ⟨(by rw [hw]; exact (by (with_reducible repeat (first | refine blk_drewN ?_ _ | refine blk_drew ?_ | refine blk_alloc ?_ _)); refine blk_far ?_ NB413_417.out _; (with_reducible repeat (first | refine blk_drewN ?_ _ | refine blk_drew ?_ | refine blk_alloc ?_ _)); exact BK413.out))⟩; replace BK414 : Aside0 (w72.heap[gb414]? = some (.cells #[u415000, .slice none 0 0] 25 (0, 0))) := ⟨(by rw [hw]; exact (by (with_reducible repeat (first | refine blk_drewN ?_ _ | refine blk_drew ?_ | refine blk_alloc ?_ _)); refine blk_far ?_ NB414_417.out _; (with_reducible repeat (first | refine blk_drewN ?_ _ | refine blk_drew ?_ | refine blk_alloc ?_ _)); exact BK414.out))⟩; replace BK415 : Aside0 (w72.heap[gb415]? = some (.cells #[.int .u8 x416000_8, .int .u8 x416001_8] 81 (0, 0))) := ⟨(by rw [hw]; exact (by (with_reducible repeat (first | refine blk_drewN ?_ _ | refine blk_drew ?_ | refine blk_alloc ?_ _)); refine blk_far ?_ NB415_417.out _; (with_reducible repeat (first | refine blk_drewN ?_ _ | refine blk_drew ?_ | refine blk_alloc ?_ _)); exact BK415.out))⟩; replace BK417 : Aside0 (w72.heap[gb417]? = some (.cells #[.string ((⟨#[65, 66, 67, 68, 69, 70]⟩ : ByteArray).extract (x6_1 : Int).toNat ((wrap64 (x6_1 + 1)) : Int).toNat), .int .i64 (wrap64 ((Int.tmod (wrap64 (x416000_8)) (wrap64 (x6_1 + 1))) - 1)), .bool (((Int.tdiv x416000_8 16) % 4) == 3), .slice Ao68 y427.length co68] 68 (0, 0))) := ⟨(by rw [hw]; exact (by (with_reducible repeat (first | refine blk_drewN ?_ _ | refine blk_drew ?_ | refine blk_alloc ?_ _)); refine blk_put (cs := #[.string ((⟨#[65, 66, 67, 68, 69, 70]⟩ : ByteArray).extract (x6_1 : Int).toNat ((wrap64 (x6_1 + 1)) : Int).toNat), .int .i64 (wrap64 ((Int.tmod (wrap64 (x416000_8)) (wrap64 (x6_1 + 1))) - 1)), .bool (((Int.tdiv x416000_8 16) % 4) == 3), .slice none 0 0]) ?_ 3 _ rfl; (with_reducible repeat (first | refine blk_drewN ?_ _ | refine blk_drew ?_ | refine blk_alloc ?_ _)); exact BK417.out))⟩; replace HB : Aside0 (Below w.heap.size w w72) := ⟨(by rw [hw]; exact (bb HB))⟩; clear hw; have hnb73 := NB414_413.out; have hnc73 := NB413_414.out; obtain ⟨hcz74_0, hcz74_1, hfz74_0, hfz74_1⟩ := cz2 BK414; obtain ⟨hcz75_0, hcz75_1, hcz75_2, hcz75_3, hfz75_0, hfz75_1, hfz75_2, hfz75_3⟩ := cz4 BK417) | ((with_reducible refine gate_builtin (b := .append) (xs := #[.tmp 79, .tmp 81]) rfl ?_); (try (refine gate_guard (by rfl) ?_; dsimp only)); at_builtin; refine Kd.N_append k68 (w0 := w) w.heap.size rfl (.tmp 79) (.tmp 81) 22 68 (.agg #[(.string ⟨#[]⟩), (.int .i64 0), (.bool false), (.slice none 0 0)]) 56 rfl Try.underlying22 info68 rfl (by decide) (by omega) u415000 x415000_1 (⟨(⟨#[65, 66, 67, 68, 69, 70]⟩ : ByteArray).extract (x6_1 : Int).toNat ((wrap64 (x6_1 + 1)) : Int).toNat, wrap64 ((Int.tmod (wrap64 (x416000_8)) (wrap64 (x6_1 + 1))) - 1), (((Int.tdiv x416000_8 16) % 4) == 3), y427⟩ : S68) [.string ((⟨#[65, 66, 67, 68, 69, 70]⟩ : ByteArray).extract (x6_1 : Int).toNat ((wrap64 (x6_1 + 1)) : Int).toNat), .int .i64 (wrap64 ((Int.tmod (wrap64 (x416000_8)) (wrap64 (x6_1 + 1))) - 1)), .bool (((Int.tdiv x416000_8 16) % 4) == 3), .slice Ao68 y427.length co68] (fun k_ => (w.heap.size ≤ k_) ∧ k_ ≠ gb413 ∧ k_ ≠ gb414 ∧ k_ ≠ gb415 ∧ k_ ≠ gb417) (fun k_ => ((fun k_ => (w.heap.size ≤ k_) ∧ k_ ≠ gb413 ∧ k_ ≠ gb414 ∧ k_ ≠ gb415 ∧ k_ ≠ gb417)) k_ ∧ some k_ ≠ (u415000 : Value).ownBlock) rfl rfl ?aP (fun _ hk => hk) ?aF ?aO ?aB ?aS ?aL ?_; (case aP => exact (k68_mkF _ _ (⟨(⟨#[65, 66, 67, 68, 69, 70]⟩ : ByteArray).extract (x6_1 : Int).toNat ((wrap64 (x6_1 + 1)) : Int).toNat, wrap64 ((Int.tmod (wrap64 (x416000_8)) (wrap64 (x6_1 + 1))) - 1), (((Int.tdiv x416000_8 16) % 4) == 3), y427⟩ : S68) (Kd.N_reads' (Kd.N_mono (ok' := (fun k_ => ((fun k_ => (w.heap.size ≤ k_) ∧ k_ ≠ gb413 ∧ k_ ≠ gb414 ∧ k_ ≠ gb415 ∧ k_ ≠ gb417)) k_ ∧ some k_ ≠ (u415000 : Value).ownBlock)) (HO429.out) (fun k_ hk => ⟨⟨hk.1, ⟨hk.2.2.1, ⟨hk.2.2.2.1, ⟨hk.2.2.2.2.1, hk.2.2.2.2.2⟩⟩⟩⟩, hk.2.1⟩))).2.1 (Kd.N_F (Kd.N_mono (ok' := (fun k_ => ((fun k_ => (w.heap.size ≤ k_) ∧ k_ ≠ gb413 ∧ k_ ≠ gb414 ∧ k_ ≠ gb415 ∧ k_ ≠ gb417)) k_ ∧ some k_ ≠ (u415000 : Value).ownBlock)) (HO429.out) (fun k_ hk => ⟨⟨hk.1, ⟨hk.2.2.1, ⟨hk.2.2.2.1, ⟨hk.2.2.2.2.1, hk.2.2.2.2.2⟩⟩⟩⟩, hk.2.1⟩))))); (case aB => exact (bb HB)); (case aF => exact (fun k_ hk => ⟨(Nat.le_trans (below_size (bb HB)) hk), Kd.freshB (g := gb413) (o := .cells #[.slice none 0 0, .slice none 0 0] 25 (0, 0)) (bk BK413) k_ hk, Kd.freshB (g := gb414) (o := .cells #[u415000, .slice none 0 0] 25 (0, 0)) (bk BK414) k_ hk, Kd.freshB (g := gb415) (o := .cells #[.int .u8 x416000_8, .int .u8 x416001_8] 81 (0, 0)) (bk BK415) k_ hk, Kd.freshB (g := gb417) (o := .cells #[.string ((⟨#[65, 66, 67, 68, 69, 70]⟩ : ByteArray).extract (x6_1 : Int).toNat ((wrap64 (x6_1 + 1)) : Int).toNat), .int .i64 (wrap64 ((Int.tmod (wrap64 (x416000_8)) (wrap64 (x6_1 + 1))) - 1)), .bool (((Int.tdiv x416000_8 16) % 4) == 3), .slice Ao68 y427.length co68] 68 (0, 0)) (bk BK417) k_ hk⟩)); (case aO => exact (by (with_reducible repeat (first | apply Kd.N_alloc | apply Kd.N_drewN | apply Kd.N_drew)); exact Kd.N_mono HO_415000.out (fun _ hk => ⟨hk.1, ⟨hk.2.2.1, ⟨hk.2.2.2.1, ⟨hk.2.2.2.2.1, hk.2.2.2.2.2⟩⟩⟩⟩))); (case aS => exact (below_size (bb HB))); (case aL => have := LMc52.out; omega); intro v431 w76 ho hb hg hat; rw [← Ny430.out] at ho; replace BK413 := Aside0.mk (blk_grown (g := gb413) (o := .cells #[.slice none 0 0, .slice none 0 0] 25 (0, 0)) (bk BK413) hg (Kd.N_ne HO_415000.out BK413.out (by decide))); replace BK414 := Aside0.mk (blk_grown (g := gb414) (o := .cells #[u415000, .slice none 0 0] 25 (0, 0)) (bk BK414) hg (Kd.N_ne HO_415000.out BK414.out (by decide))); replace BK415 := Aside0.mk (blk_grown (g := gb415) (o := .cells #[.int .u8 x416000_8, .int .u8 x416001_8] 81 (0, 0)) (bk BK415) hg (Kd.N_ne HO_415000.out BK415.out (by decide))); replace BK417 := Aside0.mk (blk_grown (g := gb417) (o := .cells #[.string ((⟨#[65, 66, 67, 68, 69, 70]⟩ : ByteArray).extract (x6_1 : Int).toNat ((wrap64 (x6_1 + 1)) : Int).toNat), .int .i64 (wrap64 ((Int.tmod (wrap64 (x416000_8)) (wrap64 (x6_1 + 1))) - 1)), .bool (((Int.tdiv x416000_8 16) % 4) == 3), .slice Ao68 y427.length co68] 68 (0, 0)) (bk BK417) hg (Kd.N_away HO_415000.out (fun _ hk => hk.2.2.2.2.2))); replace HB := Aside0.mk (hb); have HO432 := Aside0.mk (ho); clear HO_415000 HO429; clear ho hb hg hat; obtain ⟨Ao77, co77, eo77⟩ := Kd.N_slice HO432.out; subst eo77; obtain ⟨hcz78_0, hcz78_1, hfz78_0, hfz78_1⟩ := cz2 BK414))
               go_roundg kj8
               case measure => have := HK1.out; have := HJ4.out; have := HJ8.out; omega
               case rel => exact ⟨(wrap64 (x6_1 + 1)), (y430), (.slice Ao77 y430.length co77), eqs, H', ⟨by have := HK1.out; have := HJ4.out; have := HJ8.out; omega⟩, ⟨by (with_reducible repeat (first | apply Kd.N_alloc | apply Kd.N_drewN | apply Kd.N_drew)); exact Kd.N_mono (Kd.N_far (p := ⟨gb414, 0, none⟩) (Kd.N_mono HO432.out (fun k_ hk => (⟨hk, hk.2.2.1⟩ : _ ∧ k_ ≠ gb414))) (fun _ hk => hk.2) (.slice Ao77 y430.length co77)) (fun _ hk => ⟨hk.1.1, ⟨hk.1.2.1, hk.1.2.2.1⟩⟩)⟩, ⟨by (with_reducible repeat (first | refine blk_drewN ?_ _ | refine blk_drew ?_ | refine blk_alloc ?_ _)); refine blk_far ?_ NB413_414.out _; (with_reducible repeat (first | refine blk_drewN ?_ _ | refine blk_drew ?_ | refine blk_alloc ?_ _)); exact BK413.out⟩, ⟨by (with_reducible repeat (first | refine blk_drewN ?_ _ | refine blk_drew ?_ | refine blk_alloc ?_ _)); refine blk_put (cs := #[u415000, .slice none 0 0]) ?_ 0 _ rfl; (with_reducible repeat (first | refine blk_drewN ?_ _ | refine blk_drew ?_ | refine blk_alloc ?_ _)); exact BK414.out⟩, ⟨bb HB⟩⟩
              ·rw [if_neg c52] at H
               exact absurd H (by simp)
             ·rw [if_neg c51] at H
              have c51b0 : ((Int.tmod x416001_8 4) == 2) = false := beq_eq_false_iff_ne.mpr c51
              have c51b1 : ((Int.tmod x416001_8 4) != 2) = true := bne_iff_ne.mpr c51
              by_cases c79 : x415000_1.length < 2513169434916
              ·rw [if_pos c79] at H
               have LMc79 := Aside0.mk c79
               clear c79
               obtain ⟨y433, hy433⟩ : ∃ y_ : List (S68), y_ = (x415000_1 ++ [(⟨(⟨#[65, 66, 67, 68, 69, 70]⟩ : ByteArray).extract (x6_1 : Int).toNat ((wrap64 (x6_1 + 1)) : Int).toNat, wrap64 ((Int.tmod (wrap64 (x416000_8)) (wrap64 (x6_1 + 1))) - 1), (((Int.tdiv x416000_8 16) % 4) == 3), ([] : List (S77))⟩ : S68)]) := ⟨_, rfl⟩
               replace H : (q4_Made.l0 kj8 l0 l1 (wrap64 (x6_1 + 1)) y433) = some (r1, r2) := by first | (rw [hy433]; with_reducible exact H) | (have H2_ := (Option.bind_some _ _).symm.trans H; rw [hy433]; with_reducible exact H2_) | (have H2_ := (Option.bind_some _ _).symm.trans H; with_reducible exact H2_) | with_reducible exact H | (rw [hy433]; exact H) | exact H
               have Ny433 := Aside0.mk hy433
               clear hy433
               have H' := Aside0.mk H
               clear H
               try go_wp2
               replace HO_415000 := Aside0.mk (Kd.N_drew HO_415000.out)
               replace BK413 := Aside0.mk (blk_drew BK413.out)
               replace BK414 := Aside0.mk (blk_drew BK414.out)
               replace BK415 := Aside0.mk (blk_drew BK415.out)
               replace HB := Aside0.mk (below_drew1 HB.out)
               refine start_ (n := 19) (S := fun w' => w'.cell? ⟨gb415, 0, none⟩ = some (.int .u8 x416000_8) ∧ w'.cell? ⟨gb415, 1, none⟩ = some (.int .u8 x416001_8)) (ds := []) #[false, false, false, false, false, false, false, false, false, false, false, false, false, false, false, false, false, false, false] (by kernel_rfl) rfl rfl ⟨(blk_cell BK415.out 0).trans rfl, (blk_cell BK415.out 1).trans rfl⟩ (fun hHeld => ?_); refine with_tabW q4_Made.tab8 q4_Made.bits8 (fun HT_ HW_ => ?_)
               generalize wc.drew = w80 at HO_415000 BK413 BK414 BK415 HB hHeld ⊢
               refine pu 0 35 (bits 19 0x1) HT_ (h := ?_)
               refine pu 1 36 (bits 19 0x3) HT_ (h := ?_)
               refine pu 2 37 (bits 19 0x7) HT_ (h := ?_)
               refine pu 3 38 (bits 19 0xf) HT_ (h := ?_)
               refine pu 4 39 (bits 19 0x1f) HT_ (h := ?_)
               refine pu 7 42 (bits 19 0x9f) HT_ (h := ?_)
               refine pu 8 43 (bits 19 0x19f) HT_ (h := ?_)
               refine pu 11 46 (bits 19 0x99f) HT_ (h := ?_)
               refine tk 5 40 (bits 19 0x9bf) HT_ HW_ hHeld (hy := by rintro w' ⟨s0, s1⟩; go_simp; with_reducible rfl) (h := ?_)
               refine pu 6 41 (bits 19 0x9ff) HT_ (h := ?_)
               refine pu 9 44 (bits 19 0xbff) HT_ (h := ?_)
               refine pu 10 45 (bits 19 0xfff) HT_ (h := ?_)
               refine tk 12 47 (bits 19 0x1fff) HT_ HW_ hHeld (hy := by rintro w' ⟨s0, s1⟩; go_simp; with_reducible rfl) (h := ?_)
               refine pu 13 48 (bits 19 0x3fff) HT_ (h := ?_)
               refine pu 14 49 (bits 19 0x7fff) HT_ (h := ?_)
               refine pu 15 50 (bits 19 0xffff) HT_ (h := ?_)
               refine pu 16 51 (bits 19 0x1ffff) HT_ (h := ?_)
               refine one_ (i := 17) (N := some 8) #[true, true, true, true, true, true, true, true, true, true, true, true, true, true, true, true, true, true, false] rfl rfl (one_of HT_.out (by kernel_rfl)) (by decide) (fun K hK => ?_)
               refine box_step ?hg (N := 8) ?hd (cs := #[.string (⟨#[]⟩ : ByteArray), .int .i64 0, .bool false, .slice none 0 0]) (t := 68) ?hr ?_; (case hd => rfl); (case hg => rfl); (case hr => first | (go_simp; done) | (go_simp; rfl))
               intro gb417 hg w81 hbox hb
               replace HO_415000 := Aside0.mk (Kd.N_below (Kd.N_elderB (kN HO_415000) gb417 (Nat.le_of_eq hg.symm)) hb)
               have BK417 := Aside0.mk (hbox)
               have GW417 := bsz HB hg
               have GE417 := bsz HB hg
               replace HB := bstep HB hb
               have NB413_417 := blt BK413 hg
               have NB417_413 := bgt BK413 hg
               replace BK413 := bkb BK413 hb
               have NB414_417 := blt BK414 hg
               have NB417_414 := bgt BK414 hg
               replace BK414 := bkb BK414 hb
               have NB415_417 := blt BK415 hg
               have NB417_415 := bgt BK415 hg
               replace BK415 := bkb BK415 hb
               clear hb hbox hg
               refine hK.out _ _ ⟨(blk_cell BK415.out 0).trans rfl, (blk_cell BK415.out 1).trans rfl⟩ (fun hHeld => ?_)
               clear hK K
               refine norm_ (a' := ?_) ?_ ?_
               rotate_left
               ·show Act.put _ (some 8) _ = _
                simp only [Act.put, List.setIfInBounds_toArray, List.set_cons_zero, List.set_cons_succ, i64_w, i32_w]
                rfl
               refine one_ (i := 18) (N := none) #[true, true, true, true, true, true, true, true, true, true, true, true, true, true, true, true, true, true, true] rfl rfl (one_of HT_.out (by kernel_rfl)) (by decide) (fun K hK => ?_)
               have hs82 : w81.cell? ⟨gb417, 0, none⟩ = some (.string (⟨#[]⟩ : ByteArray)) := (blk_cell BK417.out 0).trans rfl
               have hfs82 := blk_frozen BK417.out 0
               have hns82_0 := NB413_417.out
               have hns82_1 := NB414_417.out
               have hns82_2 := NB415_417.out
               have hms82_0 := NB417_413.out
               have hms82_1 := NB417_414.out
               have hms82_2 := NB417_415.out
               have hs83 : w81.cell? ⟨gb417, 1, none⟩ = some (.int .i64 0) := (blk_cell BK417.out 1).trans rfl
               have hfs83 := blk_frozen BK417.out 1
               have hns83_0 := NB413_417.out
               have hns83_1 := NB414_417.out
               have hns83_2 := NB415_417.out
               have hms83_0 := NB417_413.out
               have hms83_1 := NB417_414.out
               have hms83_2 := NB417_415.out
               have hs84 : w81.cell? ⟨gb417, 2, none⟩ = some (.bool false) := (blk_cell BK417.out 2).trans rfl
               have hfs84 := blk_frozen BK417.out 2
               have hns84_0 := NB413_417.out
               have hns84_1 := NB414_417.out
               have hns84_2 := NB415_417.out
               have hms84_0 := NB417_413.out
               have hms84_1 := NB417_414.out
               have hms84_2 := NB417_415.out
               have hs85 : w81.cell? ⟨gb417, 3, none⟩ = some (.slice none 0 0) := (blk_cell BK417.out 3).trans rfl
               have hfs85 := blk_frozen BK417.out 3
               have hns85_0 := NB413_417.out
               have hns85_1 := NB414_417.out
               have hns85_2 := NB415_417.out
               have hms85_0 := NB417_413.out
               have hms85_1 := NB417_414.out
               have hms85_2 := NB417_415.out
               refine skip_ (w1 := ?_) (by rfl) rfl ?_ ?_
               rotate_left
               ·go_simp
                rfl
               refine hK.out _ _ ⟨((cell_far (p := ⟨gb417, _, none⟩) NB415_417.out _).trans (((cell_far (p := ⟨gb417, _, none⟩) NB415_417.out _).trans (((cell_far (p := ⟨gb417, _, none⟩) NB415_417.out _).trans (((cell_far (p := ⟨gb417, _, none⟩) NB415_417.out _).trans (hHeld.1)))))))), ((cell_far (p := ⟨gb417, _, none⟩) NB415_417.out _).trans (((cell_far (p := ⟨gb417, _, none⟩) NB415_417.out _).trans (((cell_far (p := ⟨gb417, _, none⟩) NB415_417.out _).trans (((cell_far (p := ⟨gb417, _, none⟩) NB415_417.out _).trans (hHeld.2))))))))⟩ (fun hHeld => ?_)
               clear hK K
               refine done_ (done_of HT_.out (by kernel_rfl)) ?_
               have hnb86 := NB415_413.out
               have hnc86 := NB413_415.out
               have hnb87 := NB415_414.out
               have hnc87 := NB414_415.out
               have hnb88 := NB415_417.out
               have hnc88 := NB417_415.out
               obtain ⟨hcz89_0, hcz89_1, hfz89_0, hfz89_1⟩ := cz2 BK415
               have hnb90 := NB414_413.out
               have hnc90 := NB413_414.out
               have hnb91 := NB414_417.out
               have hnc91 := NB417_414.out
               obtain ⟨hcz92_0, hcz92_1, hfz92_0, hfz92_1⟩ := cz2 BK414
               have hnb93 := NB417_413.out
               have hnc93 := NB413_417.out
               obtain ⟨hcz94_0, hcz94_1, hcz94_2, hcz94_3, hfz94_0, hfz94_1, hfz94_2, hfz94_3⟩ := cz4 BK417
               try go_wp2_with (first | ((with_reducible refine gate_builtin (b := .append) (xs := #[.tmp 79, .tmp 81]) rfl ?_); (try (refine gate_guard (by rfl) ?_; dsimp only)); at_builtin; refine Kd.N_append k68 (w0 := w) w.heap.size rfl (.tmp 79) (.tmp 81) 22 68 (.agg #[(.string ⟨#[]⟩), (.int .i64 0), (.bool false), (.slice none 0 0)]) 56 rfl Try.underlying22 info68 rfl (by decide) (by omega) u415000 x415000_1 (⟨(⟨#[65, 66, 67, 68, 69, 70]⟩ : ByteArray).extract (x6_1 : Int).toNat ((wrap64 (x6_1 + 1)) : Int).toNat, wrap64 ((Int.tmod (wrap64 (x416000_8)) (wrap64 (x6_1 + 1))) - 1), (((Int.tdiv x416000_8 16) % 4) == 3), ([] : List (S77))⟩ : S68) [.string ((⟨#[65, 66, 67, 68, 69, 70]⟩ : ByteArray).extract (x6_1 : Int).toNat ((wrap64 (x6_1 + 1)) : Int).toNat), .int .i64 (wrap64 ((Int.tmod (wrap64 (x416000_8)) (wrap64 (x6_1 + 1))) - 1)), .bool (((Int.tdiv x416000_8 16) % 4) == 3), .slice none 0 0] (fun k_ => (w.heap.size ≤ k_) ∧ k_ ≠ gb413 ∧ k_ ≠ gb414 ∧ k_ ≠ gb415 ∧ k_ ≠ gb417) (fun k_ => ((fun k_ => (w.heap.size ≤ k_) ∧ k_ ≠ gb413 ∧ k_ ≠ gb414 ∧ k_ ≠ gb415 ∧ k_ ≠ gb417)) k_ ∧ some k_ ≠ (u415000 : Value).ownBlock) rfl (by first | (go_simp; done) | (go_simp; rfl)) ?aP (fun _ hk => hk) ?aF ?aO ?aB ?aS ?aL ?_; (case aP => exact (k68_mkF _ _ (⟨(⟨#[65, 66, 67, 68, 69, 70]⟩ : ByteArray).extract (x6_1 : Int).toNat ((wrap64 (x6_1 + 1)) : Int).toNat, wrap64 ((Int.tmod (wrap64 (x416000_8)) (wrap64 (x6_1 + 1))) - 1), (((Int.tdiv x416000_8 16) % 4) == 3), ([] : List (S77))⟩ : S68) (Nat.le_refl _) (Kd.F_nil _ _ _))); (case aB => exact (bb HB)); (case aF => exact (fun k_ hk => ⟨(Nat.le_trans (below_size (bb HB)) hk), Kd.freshB (g := gb413) (o := .cells #[.slice none 0 0, .slice none 0 0] 25 (0, 0)) (by (with_reducible repeat (first | refine blk_drewN ?_ _ | refine blk_drew ?_ | refine blk_alloc ?_ _)); refine blk_far ?_ NB413_417.out _; (with_reducible repeat (first | refine blk_drewN ?_ _ | refine blk_drew ?_ | refine blk_alloc ?_ _)); refine blk_far ?_ NB413_417.out _; (with_reducible repeat (first | refine blk_drewN ?_ _ | refine blk_drew ?_ | refine blk_alloc ?_ _)); refine blk_far ?_ NB413_417.out _; (with_reducible repeat (first | refine blk_drewN ?_ _ | refine blk_drew ?_ | refine blk_alloc ?_ _)); refine blk_far ?_ NB413_417.out _; (with_reducible repeat (first | refine blk_drewN ?_ _ | refine blk_drew ?_ | refine blk_alloc ?_ _)); exact BK413.out) k_ hk, Kd.freshB (g := gb414) (o := .cells #[u415000, .slice none 0 0] 25 (0, 0)) (by (with_reducible repeat (first | refine blk_drewN ?_ _ | refine blk_drew ?_ | refine blk_alloc ?_ _)); refine blk_far ?_ NB414_417.out _; (with_reducible repeat (first | refine blk_drewN ?_ _ | refine blk_drew ?_ | refine blk_alloc ?_ _)); refine blk_far ?_ NB414_417.out _; (with_reducible repeat (first | refine blk_drewN ?_ _ | refine blk_drew ?_ | refine blk_alloc ?_ _)); refine blk_far ?_ NB414_417.out _; (with_reducible repeat (first | refine blk_drewN ?_ _ | refine blk_drew ?_ | refine blk_alloc ?_ _)); refine blk_far ?_ NB414_417.out _; (with_reducible repeat (first | refine blk_drewN ?_ _ | refine blk_drew ?_ | refine blk_alloc ?_ _)); exact BK414.out) k_ hk, Kd.freshB (g := gb415) (o := .cells #[.int .u8 x416000_8, .int .u8 x416001_8] 81 (0, 0)) (by (with_reducible repeat (first | refine blk_drewN ?_ _ | refine blk_drew ?_ | refine blk_alloc ?_ _)); refine blk_far ?_ NB415_417.out _; (with_reducible repeat (first | refine blk_drewN ?_ _ | refine blk_drew ?_ | refine blk_alloc ?_ _)); refine blk_far ?_ NB415_417.out _; (with_reducible repeat (first | refine blk_drewN ?_ _ | refine blk_drew ?_ | refine blk_alloc ?_ _)); refine blk_far ?_ NB415_417.out _; (with_reducible repeat (first | refine blk_drewN ?_ _ | refine blk_drew ?_ | refine blk_alloc ?_ _)); refine blk_far ?_ NB415_417.out _; (with_reducible repeat (first | refine blk_drewN ?_ _ | refine blk_drew ?_ | refine blk_alloc ?_ _)); exact BK415.out) k_ hk, Kd.freshB (g := gb417) (o := .cells #[.string ((⟨#[65, 66, 67, 68, 69, 70]⟩ : ByteArray).extract (x6_1 : Int).toNat ((wrap64 (x6_1 + 1)) : Int).toNat), .int .i64 (wrap64 ((Int.tmod (wrap64 (x416000_8)) (wrap64 (x6_1 + 1))) - 1)), .bool (((Int.tdiv x416000_8 16) % 4) == 3), .slice none 0 0] 68 (0, 0)) (by (with_reducible repeat (first | refine blk_drewN ?_ _ | refine blk_drew ?_ | refine blk_alloc ?_ _)); refine blk_put (cs := #[.string ((⟨#[65, 66, 67, 68, 69, 70]⟩ : ByteArray).extract (x6_1 : Int).toNat ((wrap64 (x6_1 + 1)) : Int).toNat), .int .i64 (wrap64 ((Int.tmod (wrap64 (x416000_8)) (wrap64 (x6_1 + 1))) - 1)), .bool (((Int.tdiv x416000_8 16) % 4) == 3), .slice none 0 0]) ?_ 3 _ rfl; (with_reducible repeat (first | refine blk_drewN ?_ _ | refine blk_drew ?_ | refine blk_alloc ?_ _)); refine blk_put (cs := #[.string ((⟨#[65, 66, 67, 68, 69, 70]⟩ : ByteArray).extract (x6_1 : Int).toNat ((wrap64 (x6_1 + 1)) : Int).toNat), .int .i64 (wrap64 ((Int.tmod (wrap64 (x416000_8)) (wrap64 (x6_1 + 1))) - 1)), .bool false, .slice none 0 0]) ?_ 2 _ rfl; (with_reducible repeat (first | refine blk_drewN ?_ _ | refine blk_drew ?_ | refine blk_alloc ?_ _)); refine blk_put (cs := #[.string ((⟨#[65, 66, 67, 68, 69, 70]⟩ : ByteArray).extract (x6_1 : Int).toNat ((wrap64 (x6_1 + 1)) : Int).toNat), .int .i64 0, .bool false, .slice none 0 0]) ?_ 1 _ rfl; (with_reducible repeat (first | refine blk_drewN ?_ _ | refine blk_drew ?_ | refine blk_alloc ?_ _)); refine blk_put (cs := #[.string (⟨#[]⟩ : ByteArray), .int .i64 0, .bool false, .slice none 0 0]) ?_ 0 _ rfl; (with_reducible repeat (first | refine blk_drewN ?_ _ | refine blk_drew ?_ | refine blk_alloc ?_ _)); exact BK417.out) k_ hk⟩)); (case aO => exact (by (with_reducible repeat (first | apply Kd.N_alloc | apply Kd.N_drewN | apply Kd.N_drew)); exact Kd.N_mono (Kd.N_far (p := ⟨gb417, 3, none⟩) (Kd.N_far (p := ⟨gb417, 2, none⟩) (Kd.N_far (p := ⟨gb417, 1, none⟩) (Kd.N_far (p := ⟨gb417, 0, none⟩) (Kd.N_mono HO_415000.out (fun k_ hk => (⟨hk, hk.2⟩ : _ ∧ k_ ≠ gb417))) (fun _ hk => hk.2) (.string ((⟨#[65, 66, 67, 68, 69, 70]⟩ : ByteArray).extract (x6_1 : Int).toNat ((wrap64 (x6_1 + 1)) : Int).toNat))) (fun _ hk => hk.2) (.int .i64 (wrap64 ((Int.tmod (wrap64 (x416000_8)) (wrap64 (x6_1 + 1))) - 1)))) (fun _ hk => hk.2) (.bool (((Int.tdiv x416000_8 16) % 4) == 3))) (fun _ hk => hk.2) (.slice none 0 0)) (fun _ hk => ⟨hk.1.1.1, ⟨hk.1.1.2.1, ⟨hk.1.1.2.2.1, ⟨hk.1.1.2.2.2, hk.1.2⟩⟩⟩⟩))); (case aS => exact (below_size (bb HB))); (case aL => have := LMc79.out; omega); intro v434 w95 ho hb hg hat; rw [← Ny433.out] at ho; replace BK413 := Aside0.mk (blk_grown (g := gb413) (o := .cells #[.slice none 0 0, .slice none 0 0] 25 (0, 0)) (by (with_reducible repeat (first | refine blk_drewN ?_ _ | refine blk_drew ?_ | refine blk_alloc ?_ _)); refine blk_far ?_ NB413_417.out _; (with_reducible repeat (first | refine blk_drewN ?_ _ | refine blk_drew ?_ | refine blk_alloc ?_ _)); refine blk_far ?_ NB413_417.out _; (with_reducible repeat (first | refine blk_drewN ?_ _ | refine blk_drew ?_ | refine blk_alloc ?_ _)); refine blk_far ?_ NB413_417.out _; (with_reducible repeat (first | refine blk_drewN ?_ _ | refine blk_drew ?_ | refine blk_alloc ?_ _)); refine blk_far ?_ NB413_417.out _; (with_reducible repeat (first | refine blk_drewN ?_ _ | refine blk_drew ?_ | refine blk_alloc ?_ _)); exact BK413.out) hg (Kd.N_ne HO_415000.out BK413.out (by decide))); replace BK414 := Aside0.mk (blk_grown (g := gb414) (o := .cells #[u415000, .slice none 0 0] 25 (0, 0)) (by (with_reducible repeat (first | refine blk_drewN ?_ _ | refine blk_drew ?_ | refine blk_alloc ?_ _)); refine blk_far ?_ NB414_417.out _; (with_reducible repeat (first | refine blk_drewN ?_ _ | refine blk_drew ?_ | refine blk_alloc ?_ _)); refine blk_far ?_ NB414_417.out _; (with_reducible repeat (first | refine blk_drewN ?_ _ | refine blk_drew ?_ | refine blk_alloc ?_ _)); refine blk_far ?_ NB414_417.out _; (with_reducible repeat (first | refine blk_drewN ?_ _ | refine blk_drew ?_ | refine blk_alloc ?_ _)); refine blk_far ?_ NB414_417.out _; (with_reducible repeat (first | refine blk_drewN ?_ _ | refine blk_drew ?_ | refine blk_alloc ?_ _)); exact BK414.out) hg (Kd.N_ne HO_415000.out BK414.out (by decide))); replace BK415 := Aside0.mk (blk_grown (g := gb415) (o := .cells #[.int .u8 x416000_8, .int .u8 x416001_8] 81 (0, 0)) (by (with_reducible repeat (first | refine blk_drewN ?_ _ | refine blk_drew ?_ | refine blk_alloc ?_ _)); refine blk_far ?_ NB415_417.out _; (with_reducible repeat (first | refine blk_drewN ?_ _ | refine blk_drew ?_ | refine blk_alloc ?_ _)); refine blk_far ?_ NB415_417.out _; (with_reducible repeat (first | refine blk_drewN ?_ _ | refine blk_drew ?_ | refine blk_alloc ?_ _)); refine blk_far ?_ NB415_417.out _; (with_reducible repeat (first | refine blk_drewN ?_ _ | refine blk_drew ?_ | refine blk_alloc ?_ _)); refine blk_far ?_ NB415_417.out _; (with_reducible repeat (first | refine blk_drewN ?_ _ | refine blk_drew ?_ | refine blk_alloc ?_ _)); exact BK415.out) hg (Kd.N_ne HO_415000.out BK415.out (by decide))); replace BK417 := Aside0.mk (blk_grown (g := gb417) (o := .cells #[.string ((⟨#[65, 66, 67, 68, 69, 70]⟩ : ByteArray).extract (x6_1 : Int).toNat ((wrap64 (x6_1 + 1)) : Int).toNat), .int .i64 (wrap64 ((Int.tmod (wrap64 (x416000_8)) (wrap64 (x6_1 + 1))) - 1)), .bool (((Int.tdiv x416000_8 16) % 4) == 3), .slice none 0 0] 68 (0, 0)) (by (with_reducible repeat (first | refine blk_drewN ?_ _ | refine blk_drew ?_ | refine blk_alloc ?_ _)); refine blk_put (cs := #[.string ((⟨#[65, 66, 67, 68, 69, 70]⟩ : ByteArray).extract (x6_1 : Int).toNat ((wrap64 (x6_1 + 1)) : Int).toNat), .int .i64 (wrap64 ((Int.tmod (wrap64 (x416000_8)) (wrap64 (x6_1 + 1))) - 1)), .bool (((Int.tdiv x416000_8 16) % 4) == 3), .slice none 0 0]) ?_ 3 _ rfl; (with_reducible repeat (first | refine blk_drewN ?_ _ | refine blk_drew ?_ | refine blk_alloc ?_ _)); refine blk_put (cs := #[.string ((⟨#[65, 66, 67, 68, 69, 70]⟩ : ByteArray).extract (x6_1 : Int).toNat ((wrap64 (x6_1 + 1)) : Int).toNat), .int .i64 (wrap64 ((Int.tmod (wrap64 (x416000_8)) (wrap64 (x6_1 + 1))) - 1)), .bool false, .slice none 0 0]) ?_ 2 _ rfl; (with_reducible repeat (first | refine blk_drewN ?_ _ | refine blk_drew ?_ | refine blk_alloc ?_ _)); refine blk_put (cs := #[.string ((⟨#[65, 66, 67, 68, 69, 70]⟩ : ByteArray).extract (x6_1 : Int).toNat ((wrap64 (x6_1 + 1)) : Int).toNat), .int .i64 0, .bool false, .slice none 0 0]) ?_ 1 _ rfl; (with_reducible repeat (first | refine blk_drewN ?_ _ | refine blk_drew ?_ | refine blk_alloc ?_ _)); refine blk_put (cs := #[.string (⟨#[]⟩ : ByteArray), .int .i64 0, .bool false, .slice none 0 0]) ?_ 0 _ rfl; (with_reducible repeat (first | refine blk_drewN ?_ _ | refine blk_drew ?_ | refine blk_alloc ?_ _)); exact BK417.out) hg (Kd.N_away HO_415000.out (fun _ hk => hk.2))); replace HB := Aside0.mk (hb); have HO435 := Aside0.mk (ho); clear HO_415000 ho hb hg hat; obtain ⟨Ao96, co96, eo96⟩ := Kd.N_slice HO435.out; subst eo96; obtain ⟨hcz97_0, hcz97_1, hfz97_0, hfz97_1⟩ := cz2 BK414))
               go_roundg kj8
               case measure => have := HK1.out; have := HJ4.out; have := HJ8.out; omega
               case rel => exact ⟨(wrap64 (x6_1 + 1)), (y433), (.slice Ao96 y433.length co96), eqs, H', ⟨by have := HK1.out; have := HJ4.out; have := HJ8.out; omega⟩, ⟨by (with_reducible repeat (first | apply Kd.N_alloc | apply Kd.N_drewN | apply Kd.N_drew)); exact Kd.N_mono (Kd.N_far (p := ⟨gb414, 0, none⟩) (Kd.N_mono HO435.out (fun k_ hk => (⟨hk, hk.2.2.1⟩ : _ ∧ k_ ≠ gb414))) (fun _ hk => hk.2) (.slice Ao96 y433.length co96)) (fun _ hk => ⟨hk.1.1, ⟨hk.1.2.1, hk.1.2.2.1⟩⟩)⟩, ⟨by (with_reducible repeat (first | refine blk_drewN ?_ _ | refine blk_drew ?_ | refine blk_alloc ?_ _)); refine blk_far ?_ NB413_414.out _; (with_reducible repeat (first | refine blk_drewN ?_ _ | refine blk_drew ?_ | refine blk_alloc ?_ _)); exact BK413.out⟩, ⟨by (with_reducible repeat (first | refine blk_drewN ?_ _ | refine blk_drew ?_ | refine blk_alloc ?_ _)); refine blk_put (cs := #[u415000, .slice none 0 0]) ?_ 0 _ rfl; (with_reducible repeat (first | refine blk_drewN ?_ _ | refine blk_drew ?_ | refine blk_alloc ?_ _)); exact BK414.out⟩, ⟨bb HB⟩⟩
              ·rw [if_neg c79] at H
               exact absurd H (by simp)
          ·rw [if_neg c21] at H
           exact absurd H (by simp)
         ·rw [if_neg c20] at H
          exact absurd H (by simp)
        ·rw [if_neg c19] at H
         exact absurd H (by simp)
     ·replace c8 := Bool.eq_false_iff.mpr c8
      subst c8
      replace H := iff_ H
      have H' := Aside0.mk H
      clear H
      go_wp2
      go_loopg [10] kj4 (fun kq v10 w' => ∃ (x10_3 : Int) (x415001_3 : List (S71)) (u415001 : Value), v10 = .int .i64 x10_3 ∧ Aside0 (q4_Made.l1 kq l1 x10_3 x415000_1 x415001_3 = some (r1, r2)) ∧ Aside0 (kq ≤ kj4) ∧ Aside0 (Kd.N k68 68 w' w.heap.size (fun k_ => (w.heap.size ≤ k_) ∧ some k_ ≠ (u415001 : Value).ownBlock ∧ k_ ≠ gb413 ∧ k_ ≠ gb414) u415000 x415000_1) ∧ Aside0 (Kd.R k71 71 w' w.heap.size (fun k_ => (w.heap.size ≤ k_)) u415001 x415001_3) ∧ Aside0 (w'.heap[gb413]? = some (.cells #[(.slice none 0 0), (.slice none 0 0)] 25 (0, 0))) ∧ Aside0 (w'.heap[gb414]? = some (.cells #[u415000, u415001] 25 (0, 0))) ∧ Aside0 (Below w.heap.size w w'))
      case atStart => exact ⟨(0), (([] : List (S71))), (.slice none 0 0), eqs, H', ⟨Nat.le_refl _⟩, ⟨by (with_reducible repeat (first | apply Kd.N_alloc | apply Kd.N_drewN | apply Kd.N_drew)); exact Kd.N_mono HO_415000.out (fun _ hk => ⟨hk.1, ⟨(by simp [Value.ownBlock]), ⟨hk.2.1, hk.2.2⟩⟩⟩)⟩, ⟨by first | exact Kd.R_nil _ _ _ _ _ | exact Kd.N_nil _ _ _ _ _ | exact Kd.V_nil _ _ _ _ _ | exact Kd.Q_nil _ _ _ _ _ | exact Kd.S_nil _ _ _ _ _⟩, ⟨bk BK413⟩, ⟨bk BK414⟩, ⟨bb HB⟩⟩
      case round =>
       clear H'
       try clear c1
       try clear c2
       try clear p2
       try clear c3
       try clear c4
       try clear c5
       try clear c6
       try clear p6
       try clear c7
       try clear c8
       try clear c9
       try clear c19
       try clear c20
       try clear c21
       try clear c26
       try clear c26b0
       try clear c26b1
       try clear c27
       try clear c36
       try clear c41
       try clear c42
       try clear c45
       try clear c51
       try clear c51b0
       try clear c51b1
       try clear c52
       try clear c59
       try clear c60
       try clear c61
       try clear p64
       try clear c69
       try clear c70
       try clear c73
       try clear c79
       try clear c86
       try clear c87
       try clear c88
       try clear c90
       try clear c91
       try clear c93
       try clear hcz37_0
       try clear hcz37_1
       try clear hcz43_0
       try clear hcz43_1
       try clear hcz43_2
       try clear hcz43_3
       try clear hcz46_0
       try clear hcz46_1
       try clear hcz47_0
       try clear hcz47_1
       try clear hcz47_2
       try clear hcz47_3
       try clear hcz50_0
       try clear hcz50_1
       try clear hcz62_0
       try clear hcz62_1
       try clear hcz71_0
       try clear hcz71_1
       try clear hcz71_2
       try clear hcz71_3
       try clear hcz74_0
       try clear hcz74_1
       try clear hcz75_0
       try clear hcz75_1
       try clear hcz75_2
       try clear hcz75_3
       try clear hcz78_0
       try clear hcz78_1
       try clear hcz89_0
       try clear hcz89_1
       try clear hcz92_0
       try clear hcz92_1
       try clear hcz94_0
       try clear hcz94_1
       try clear hcz94_2
       try clear hcz94_3
       try clear hcz97_0
       try clear hcz97_1
       try clear hfz37_0
       try clear hfz37_1
       try clear hfz43_0
       try clear hfz43_1
       try clear hfz43_2
       try clear hfz43_3
       try clear hfz46_0
       try clear hfz46_1
       try clear hfz47_0
       try clear hfz47_1
       try clear hfz47_2
       try clear hfz47_3
       try clear hfz50_0
       try clear hfz50_1
       try clear hfz62_0
       try clear hfz62_1
       try clear hfz71_0
       try clear hfz71_1
       try clear hfz71_2
       try clear hfz71_3
       try clear hfz74_0
       try clear hfz74_1
       try clear hfz75_0
       try clear hfz75_1
       try clear hfz75_2
       try clear hfz75_3
       try clear hfz78_0
       try clear hfz78_1
       try clear hfz89_0
       try clear hfz89_1
       try clear hfz92_0
       try clear hfz92_1
       try clear hfz94_0
       try clear hfz94_1
       try clear hfz94_2
       try clear hfz94_3
       try clear hfz97_0
       try clear hfz97_1
       obtain ⟨x10_3, x415001_3, u415001, rfl, HA, HK3, HO_415000, HO_415001, BK413, BK414, HB⟩ := hrel
       cases gk with
       | zero => exact absurd HA.out (by simp [q4_Made.l1])
       | succ k3 =>
        have H := HA.out
        clear HA
        simp only [q4_Made.l1] at H
        by_cases c98 : x10_3 < (l1.length : Int)
        ·rw [if_pos c98] at H
         have c98b0 : decide (x10_3 < (l1.length : Int)) = true := decide_eq_true c98
         clear c98
         by_cases c99 : x10_3 < 5
         ·rw [if_pos c99] at H
          have c99b0 : decide (x10_3 < 5) = true := decide_eq_true c99
          clear c99
          by_cases c100 : 0 ≤ x10_3
          ·rw [if_pos c100] at H
           have c100b0 := eq_true c100
           have c100b1 : decide (0 ≤ x10_3) = true := decide_eq_true c100
           clear c100
           by_cases c101 : x10_3 ≤ (wrap64 (x10_3 + 1))
           ·rw [if_pos c101] at H
            have c101b0 := eq_true c101
            have c101b1 : decide (x10_3 ≤ (wrap64 (x10_3 + 1))) = true := decide_eq_true c101
            by_cases c102 : (wrap64 (x10_3 + 1)) ≤ 5
            ·rw [if_pos c102] at H
             have c102b0 := eq_true c102
             have c102b1 : decide ((wrap64 (x10_3 + 1)) ≤ 5) = true := decide_eq_true c102
             by_cases c103 : (x415000_1.length : Int) = 0
             ·rw [if_pos c103] at H
              exact absurd H (by simp)
             ·rw [if_neg c103] at H
              have c103b0 : ((x415000_1.length : Int) == 0) = false := beq_eq_false_iff_ne.mpr c103
              have c103b1 : ((x415000_1.length : Int) != 0) = true := bne_iff_ne.mpr c103
              have c103b2 : ¬ (x415000_1 = []) := fun h_ => c103 (by rw [h_]; rfl)
              by_cases c104 : x415001_3.length < 2199023255552
              ·rw [if_pos c104] at H
               have LMc104 := Aside0.mk c104
               clear c104
               obtain ⟨y438, hy438⟩ : ∃ y_ : List (S71), y_ = (x415001_3 ++ [(⟨(⟨#[101, 102, 103, 104, 105]⟩ : ByteArray).extract (x10_3 : Int).toNat ((wrap64 (x10_3 + 1)) : Int).toNat, Int.tmod (wrap64 ((rd_T81 l1 x10_3).f0)) (x415000_1.length : Int), Int.tmod (wrap64 ((rd_T81 l1 x10_3).f1)) (x415000_1.length : Int), 0, (-1), 0, (-1)⟩ : S71)]) := ⟨_, rfl⟩
               replace H : (q4_Made.l1 k3 l1 (wrap64 (x10_3 + 1)) x415000_1 y438) = some (r1, r2) := by first | (rw [hy438]; with_reducible exact H) | (have H2_ := (Option.bind_some _ _).symm.trans H; rw [hy438]; with_reducible exact H2_) | (have H2_ := (Option.bind_some _ _).symm.trans H; with_reducible exact H2_) | with_reducible exact H | (rw [hy438]; exact H) | exact H
               have Ny438 := Aside0.mk hy438
               clear hy438
               have H' := Aside0.mk H
               clear H
               have hnb105 := NB414_413.out
               have hnc105 := NB413_414.out
               obtain ⟨hcz106_0, hcz106_1, hfz106_0, hfz106_1⟩ := cz2 BK414
               obtain ⟨Ao107, co107, eo107⟩ := Kd.N_slice HO_415000.out
               subst eo107
               try go_wp2
               replace HO_415000 := Aside0.mk (Kd.N_drew HO_415000.out)
               replace HO_415001 := Aside0.mk (Kd.R_drew HO_415001.out)
               replace BK413 := Aside0.mk (blk_drew BK413.out)
               replace BK414 := Aside0.mk (blk_drew BK414.out)
               replace HB := Aside0.mk (below_drew1 HB.out)
               have p436 : 0 ≤ x10_3 := odt
               have q436 : x10_3 < (l1.length : Int) := odt
               obtain ⟨ad436, e436, hx436_0, hx436_1⟩ := at_T81 HR1.out x10_3 p436 q436
               have hw436_1 := hx436_1
               have hw436_0 := hx436_0
               cases e436
               replace hx436_0 := hxc HB hx436_0
               replace hx436_1 := hxc HB hx436_1
               replace p436 := eq_true p436
               replace q436 := eq_true q436
               have p437 : 0 ≤ x10_3 := odt
               have q437 : x10_3 < (l1.length : Int) := odt
               obtain ⟨ad437, e437, hx437_0, hx437_1⟩ := at_T81 HR1.out x10_3 p437 q437
               have hw437_1 := hx437_1
               have hw437_0 := hx437_0
               obtain rfl : ad436 = ad437 := (by injection e437)
               replace hx437_0 := hxc HB hx437_0
               replace hx437_1 := hxc HB hx437_1
               replace p437 := eq_true p437
               replace q437 := eq_true q437
               refine start_ (n := 27) (S := fun w' => w'.cell? ⟨gb414, 0, none⟩ = some (.slice Ao107 x415000_1.length co107) ∧ w'.cell? ⟨gb414, 1, none⟩ = some (u415001) ∧ w'.cell? (ad436.add ((x10_3).toNat * 2)) = some (.int .u8 ((rd_T81 l1 x10_3).f0)) ∧ w'.cell? ⟨(ad436.add ((x10_3).toNat * 2)).block, (ad436.add ((x10_3).toNat * 2)).off + 1, none⟩ = some (.int .u8 ((rd_T81 l1 x10_3).f1)) ∧ w'.cell? (ad436.add ((x10_3).toNat * 2)) = some (.int .u8 ((rd_T81 l1 x10_3).f0)) ∧ w'.cell? ⟨(ad436.add ((x10_3).toNat * 2)).block, (ad436.add ((x10_3).toNat * 2)).off + 1, none⟩ = some (.int .u8 ((rd_T81 l1 x10_3).f1))) (ds := [26]) #[false, false, false, false, false, false, false, false, false, false, false, false, false, false, false, false, false, false, false, false, false, false, false, false, false, false, false] (by kernel_rfl) rfl rfl ⟨(blk_cell BK414.out 0).trans rfl, (blk_cell BK414.out 1).trans rfl, ((HB.out.cell (World.block_lt_of_cell? w _ hw436_0)).trans hw436_0), ((HB.out.cell (World.block_lt_of_cell? w _ hw436_1)).trans hw436_1), ((HB.out.cell (World.block_lt_of_cell? w _ hw437_0)).trans hw437_0), ((HB.out.cell (World.block_lt_of_cell? w _ hw437_1)).trans hw437_1)⟩ (fun hHeld => ?_); refine with_tabW q4_Made.tab20 q4_Made.bits20 (fun HT_ HW_ => ?_)
               generalize wr.drew = w108 at HO_415000 HO_415001 BK413 BK414 HB hx436_0 hx436_1 hx437_0 hx437_1 hHeld ⊢
               refine pu 0 97 (bits 27 0x1) HT_ (h := ?_)
               refine pu 2 99 (bits 27 0x5) HT_ (h := ?_)
               refine pu 3 100 (bits 27 0xd) HT_ (h := ?_)
               refine pu 4 101 (bits 27 0x1d) HT_ (h := ?_)
               refine pu 5 102 (bits 27 0x3d) HT_ (h := ?_)
               refine pu 6 103 (bits 27 0x7d) HT_ (h := ?_)
               refine pu 7 104 (bits 27 0xfd) HT_ (h := ?_)
               refine pu 8 105 (bits 27 0x1fd) HT_ (h := ?_)
               refine pu 9 106 (bits 27 0x3fd) HT_ (h := ?_)
               refine pu 12 109 (bits 27 0x13fd) HT_ (h := ?_)
               refine pu 14 111 (bits 27 0x53fd) HT_ (h := ?_)
               refine pu 15 112 (bits 27 0xd3fd) HT_ (h := ?_)
               refine pu 16 113 (bits 27 0x1d3fd) HT_ (h := ?_)
               refine pu 17 114 (bits 27 0x3d3fd) HT_ (h := ?_)
               refine pu 20 117 (bits 27 0x13d3fd) HT_ (h := ?_)
               refine tk 1 98 (bits 27 0x13d3ff) HT_ HW_ hHeld (hy := by rintro w' ⟨s0, s1, s2, s3, s4, s5⟩; go_simp; with_reducible rfl) (h := ?_)
               refine tk 10 107 (bits 27 0x13d7ff) HT_ HW_ hHeld (hy := by rintro w' ⟨s0, s1, s2, s3, s4, s5⟩; go_simp; with_reducible rfl) (h := ?_)
               refine pu 11 108 (bits 27 0x13dfff) HT_ (h := ?_)
               refine pu 13 110 (bits 27 0x13ffff) HT_ (h := ?_)
               refine tk 18 115 (bits 27 0x17ffff) HT_ HW_ hHeld (hy := by rintro w' ⟨s0, s1, s2, s3, s4, s5⟩; go_simp; with_reducible rfl) (h := ?_)
               refine pu 19 116 (bits 27 0x1fffff) HT_ (h := ?_)
               refine pu 21 118 (bits 27 0x3fffff) HT_ (h := ?_)
               refine pu 22 119 (bits 27 0x7fffff) HT_ (h := ?_)
               refine one_ (i := 23) (N := some 120) #[true, true, true, true, true, true, true, true, true, true, true, true, true, true, true, true, true, true, true, true, true, true, true, true, false, false, false] rfl rfl (one_of HT_.out (by kernel_rfl)) (by decide) (fun K hK => ?_)
               refine value_ (w1 := ?_) (v := ?_) (by rfl) rfl ?_ ?_
               rotate_left 2
               ·go_simp
                constructor
                ·rfl
                ·rfl
               refine hK.out _ _ ⟨(blk_cell (blk_alloc BK414.out _) 0).trans rfl, (blk_cell (blk_alloc BK414.out _) 1).trans rfl, (World.cell?_alloc_lt _ _ _ (World.block_lt_of_cell? _ _ (((HB.out.cell (World.block_lt_of_cell? w _ hw436_0)).trans hw436_0)))).trans (((HB.out.cell (World.block_lt_of_cell? w _ hw436_0)).trans hw436_0)), (World.cell?_alloc_lt _ _ _ (World.block_lt_of_cell? _ _ (((HB.out.cell (World.block_lt_of_cell? w _ hw436_1)).trans hw436_1)))).trans (((HB.out.cell (World.block_lt_of_cell? w _ hw436_1)).trans hw436_1)), (World.cell?_alloc_lt _ _ _ (World.block_lt_of_cell? _ _ (((HB.out.cell (World.block_lt_of_cell? w _ hw437_0)).trans hw437_0)))).trans (((HB.out.cell (World.block_lt_of_cell? w _ hw437_0)).trans hw437_0)), (World.cell?_alloc_lt _ _ _ (World.block_lt_of_cell? _ _ (((HB.out.cell (World.block_lt_of_cell? w _ hw437_1)).trans hw437_1)))).trans (((HB.out.cell (World.block_lt_of_cell? w _ hw437_1)).trans hw437_1))⟩ (fun hHeld => ?_)
               clear hK K
               refine norm_ (a' := ?_) ?_ ?_
               rotate_left
               ·show Act.put _ (some 120) _ = _
                simp only [Act.put, List.setIfInBounds_toArray, List.set_cons_zero, List.set_cons_succ, i64_w, i32_w]
                rfl
               refine one_ (i := 24) (N := some 121) #[true, true, true, true, true, true, true, true, true, true, true, true, true, true, true, true, true, true, true, true, true, true, true, true, true, false, false] rfl rfl (one_of HT_.out (by kernel_rfl)) (by decide) (fun K hK => ?_)
               refine Kd.R_append_step k71 (w0 := w) w.heap.size (by rfl) (.tmp 98) (.tmp 120) 23 71 (.agg #[(.string ⟨#[]⟩), (.int .i64 0), (.int .i64 0), (.int .i64 0), (.int .i64 0), (.int .i64 0), (.int .i64 0)]) 64 rfl Try.underlying23 info71 rfl (by decide) (by omega) u415001 x415001_3 (⟨(⟨#[101, 102, 103, 104, 105]⟩ : ByteArray).extract (x10_3 : Int).toNat ((wrap64 (x10_3 + 1)) : Int).toNat, Int.tmod (wrap64 ((rd_T81 l1 x10_3).f0)) (x415000_1.length : Int), Int.tmod (wrap64 ((rd_T81 l1 x10_3).f1)) (x415000_1.length : Int), 0, (-1), 0, (-1)⟩ : S71) [.string ((⟨#[101, 102, 103, 104, 105]⟩ : ByteArray).extract (x10_3 : Int).toNat ((wrap64 (x10_3 + 1)) : Int).toNat), .int .i64 (Int.tmod (wrap64 ((rd_T81 l1 x10_3).f0)) (x415000_1.length : Int)), .int .i64 (Int.tmod (wrap64 ((rd_T81 l1 x10_3).f1)) (x415000_1.length : Int)), .int .i64 0, .int .i64 (-1), .int .i64 0, .int .i64 (-1)] (fun k_ => (w.heap.size ≤ k_)) (fun _ => False) rfl rfl ?aP (fun _ hk => hk.elim) ?aF ?aO ?aB ?aS ?aL ?_
               (case aP => exact k71_mkM _ _ _ (⟨(⟨#[101, 102, 103, 104, 105]⟩ : ByteArray).extract (x10_3 : Int).toNat ((wrap64 (x10_3 + 1)) : Int).toNat, Int.tmod (wrap64 ((rd_T81 l1 x10_3).f0)) (x415000_1.length : Int), Int.tmod (wrap64 ((rd_T81 l1 x10_3).f1)) (x415000_1.length : Int), 0, (-1), 0, (-1)⟩ : S71))
               (case aB => exact (bb HB))
               (case aF => exact (fun k_ hk => (Nat.le_trans (below_size (bb HB)) hk)))
               (case aO => exact (kR HO_415001))
               (case aS => exact (below_size (bb HB)))
               (case aL => have := LMc104.out; omega)
               intro v439 w109 ho hb hg hat
               rw [← Ny438.out] at ho
               replace HO_415000 := Aside0.mk (Kd.N_afterv (ok := (fun k_ => (w.heap.size ≤ k_) ∧ k_ ≠ gb413 ∧ k_ ≠ gb414)) (by (with_reducible repeat (first | apply Kd.N_alloc | apply Kd.N_drewN | apply Kd.N_drew)); exact Kd.N_mono HO_415000.out (fun _ hk => ⟨⟨hk.1, ⟨hk.2.2.1, hk.2.2.2⟩⟩, hk.2.1⟩)) hg hat)
               replace BK413 := Aside0.mk (blk_grown (g := gb413) (o := .cells #[.slice none 0 0, .slice none 0 0] 25 (0, 0)) (bk BK413) hg (Kd.R_ne HO_415001.out BK413.out (by decide)))
               replace BK414 := Aside0.mk (blk_grown (g := gb414) (o := .cells #[.slice Ao107 x415000_1.length co107, u415001] 25 (0, 0)) (bk BK414) hg (Kd.R_ne HO_415001.out BK414.out (by decide)))
               replace HB := Aside0.mk (hb)
               have HO440 := Aside0.mk (ho)
               clear HO_415001 ho hb hg hat
               obtain ⟨Ao110, co110, eo110⟩ := Kd.R_slice HO440.out
               (first | subst eo110 | (injection eo110 with f1_ f2_ f3_; have f4_ := f1_.symm; have f5_ := f3_.symm; clear f1_ f2_ f3_; subst f4_; subst f5_))
               refine hK.out _ _ ⟨(blk_cell BK414.out 0).trans rfl, (blk_cell BK414.out 1).trans rfl, ((HB.out.cell (World.block_lt_of_cell? w _ hw436_0)).trans hw436_0), ((HB.out.cell (World.block_lt_of_cell? w _ hw436_1)).trans hw436_1), ((HB.out.cell (World.block_lt_of_cell? w _ hw437_0)).trans hw437_0), ((HB.out.cell (World.block_lt_of_cell? w _ hw437_1)).trans hw437_1)⟩ (fun hHeld => ?_)
               clear hK K
               refine norm_ (a' := ?_) ?_ ?_
               rotate_left
               ·show Act.put _ (some 121) _ = _
                simp only [Act.put, List.setIfInBounds_toArray, List.set_cons_zero, List.set_cons_succ, i64_w, i32_w]
                rfl
               refine pu 25 122 (bits 27 0x3ffffff) HT_ (h := ?_)
               refine last_ (i := 26) (N := none) #[true, true, true, true, true, true, true, true, true, true, true, true, true, true, true, true, true, true, true, true, true, true, true, true, true, true, true] rfl rfl (one_of HT_.out (by kernel_rfl)) (by decide) (fun K hK => ?_)
               have hs111 : w109.cell? ⟨gb414, 1, none⟩ = some (u415001) := (blk_cell BK414.out 1).trans rfl
               have hfs111 := blk_frozen BK414.out 1
               have hns111_0 := NB413_414.out
               have hms111_0 := NB414_413.out
               refine skip_ (w1 := ?_) (by rfl) rfl ?_ ?_
               rotate_left
               ·go_simp
                rfl
               refine hK.out _ _ ?_
               clear hK K
               refine done_ (done_of HT_.out (by kernel_rfl)) ?_
               try go_wp2
               go_roundg k3
               case measure => have := HK1.out; have := HJ4.out; have := HK3.out; omega
               case rel => exact ⟨(wrap64 (x10_3 + 1)), (y438), (.slice Ao110 y438.length co110), eqs, H', ⟨by have := HK1.out; have := HJ4.out; have := HK3.out; omega⟩, ⟨by (with_reducible repeat (first | apply Kd.N_alloc | apply Kd.N_drewN | apply Kd.N_drew)); exact Kd.N_mono (Kd.N_far (p := ⟨gb414, 1, none⟩) (Kd.N_mono HO_415000.out (fun k_ hk => (⟨hk, hk.1.2.2⟩ : _ ∧ k_ ≠ gb414))) (fun _ hk => hk.2) (.slice Ao110 y438.length co110)) (fun _ hk => ⟨hk.1.1.1, ⟨hk.1.2, ⟨hk.1.1.2.1, hk.1.1.2.2⟩⟩⟩)⟩, ⟨by (with_reducible repeat (first | apply Kd.R_alloc | apply Kd.R_drewN | apply Kd.R_drew)); exact Kd.R_mono (Kd.R_far (p := ⟨gb414, 1, none⟩) (Kd.R_types HO440.out BK414.out (by decide)) (fun _ hk => hk.2) (.slice Ao110 y438.length co110)) (fun _ hk => hk.1)⟩, ⟨by (with_reducible repeat (first | refine blk_drewN ?_ _ | refine blk_drew ?_ | refine blk_alloc ?_ _)); refine blk_far ?_ NB413_414.out _; (with_reducible repeat (first | refine blk_drewN ?_ _ | refine blk_drew ?_ | refine blk_alloc ?_ _)); exact BK413.out⟩, ⟨by (with_reducible repeat (first | refine blk_drewN ?_ _ | refine blk_drew ?_ | refine blk_alloc ?_ _)); refine blk_put (cs := #[.slice Ao107 x415000_1.length co107, u415001]) ?_ 1 _ rfl; (with_reducible repeat (first | refine blk_drewN ?_ _ | refine blk_drew ?_ | refine blk_alloc ?_ _)); exact BK414.out⟩, ⟨bb HB⟩⟩
              ·rw [if_neg c104] at H
               exact absurd H (by simp)
            ·rw [if_neg c102] at H
             exact absurd H (by simp)
           ·rw [if_neg c101] at H
            exact absurd H (by simp)
          ·rw [if_neg c100] at H
           exact absurd H (by simp)
         ·rw [if_neg c99] at H
          have c99b0 : decide (x10_3 < 5) = false := decide_eq_false c99
          clear c99
          simp only [Option.some.injEq, Prod.mk.injEq] at H
          obtain ⟨rfl, rfl⟩ := H
          have hnb112 := NB414_413.out
          have hnc112 := NB413_414.out
          obtain ⟨hcz113_0, hcz113_1, hfz113_0, hfz113_1⟩ := cz2 BK414
          obtain ⟨Ao114, co114, eo114⟩ := Kd.N_slice HO_415000.out
          subst eo114
          obtain ⟨hcz115_0, hcz115_1, hfz115_0, hfz115_1⟩ := cz2 BK413
          obtain ⟨Ao116, co116, eo116⟩ := Kd.R_slice HO_415001.out
          subst eo116
          go_wp2
          refine bodyPost_ret (results_cell_row rfl _ _ gb413 25 #[.slice Ao114 x415000_1.length co114, .slice Ao116 x415001_3.length co116] (0, 0) _ rfl (by (with_reducible repeat (first | refine blk_drewN ?_ _ | refine blk_drew ?_ | refine blk_alloc ?_ _)); refine blk_put (cs := #[.slice Ao114 x415000_1.length co114, .slice none 0 0]) ?_ 1 _ rfl; (with_reducible repeat (first | refine blk_drewN ?_ _ | refine blk_drew ?_ | refine blk_alloc ?_ _)); refine blk_put (cs := #[.slice none 0 0, .slice none 0 0]) ?_ 0 _ rfl; (with_reducible repeat (first | refine blk_drewN ?_ _ | refine blk_drew ?_ | refine blk_alloc ?_ _)); exact BK413.out) Try.underlying25 rfl (by kernel_rfl)) rfl ?_
          exact ⟨_, _, erf, by (with_reducible repeat (first | apply Kd.N_alloc | apply Kd.N_drewN | apply Kd.N_drew)); exact Kd.N_mono (Kd.N_far (p := ⟨gb413, 1, none⟩) (Kd.N_far (p := ⟨gb413, 0, none⟩) (Kd.N_mono HO_415000.out (fun k_ hk => (⟨hk, hk.2.2.1⟩ : _ ∧ k_ ≠ gb413))) (fun _ hk => hk.2) (.slice Ao114 x415000_1.length co114)) (fun _ hk => hk.2) (.slice Ao116 x415001_3.length co116)) (fun _ hk => ⟨hk.1.1, hk.1.2.1⟩), by (with_reducible repeat (first | apply Kd.R_alloc | apply Kd.R_drewN | apply Kd.R_drew)); exact Kd.R_mono (Kd.R_far (p := ⟨gb413, 1, none⟩) (Kd.R_far (p := ⟨gb413, 0, none⟩) (Kd.R_types HO_415001.out BK413.out (by decide)) (fun _ hk => hk.2) (.slice Ao114 x415000_1.length co114)) (fun _ hk => hk.2) (.slice Ao116 x415001_3.length co116)) (fun _ hk => hk.1), bb HB⟩
        ·rw [if_neg c98] at H
         have c98b0 : decide (x10_3 < (l1.length : Int)) = false := decide_eq_false c98
         clear c98
         simp only [Option.some.injEq, Prod.mk.injEq] at H
         obtain ⟨rfl, rfl⟩ := H
         have hnb117 := NB414_413.out
         have hnc117 := NB413_414.out
         obtain ⟨hcz118_0, hcz118_1, hfz118_0, hfz118_1⟩ := cz2 BK414
         obtain ⟨Ao119, co119, eo119⟩ := Kd.N_slice HO_415000.out
         subst eo119
         obtain ⟨hcz120_0, hcz120_1, hfz120_0, hfz120_1⟩ := cz2 BK413
         obtain ⟨Ao121, co121, eo121⟩ := Kd.R_slice HO_415001.out
         subst eo121
         go_wp2
         refine bodyPost_ret (results_cell_row rfl _ _ gb413 25 #[.slice Ao119 x415000_1.length co119, .slice Ao121 x415001_3.length co121] (0, 0) _ rfl (by (with_reducible repeat (first | refine blk_drewN ?_ _ | refine blk_drew ?_ | refine blk_alloc ?_ _)); refine blk_put (cs := #[.slice Ao119 x415000_1.length co119, .slice none 0 0]) ?_ 1 _ rfl; (with_reducible repeat (first | refine blk_drewN ?_ _ | refine blk_drew ?_ | refine blk_alloc ?_ _)); refine blk_put (cs := #[.slice none 0 0, .slice none 0 0]) ?_ 0 _ rfl; (with_reducible repeat (first | refine blk_drewN ?_ _ | refine blk_drew ?_ | refine blk_alloc ?_ _)); exact BK413.out) Try.underlying25 rfl (by kernel_rfl)) rfl ?_
         exact ⟨_, _, erf, by (with_reducible repeat (first | apply Kd.N_alloc | apply Kd.N_drewN | apply Kd.N_drew)); exact Kd.N_mono (Kd.N_far (p := ⟨gb413, 1, none⟩) (Kd.N_far (p := ⟨gb413, 0, none⟩) (Kd.N_mono HO_415000.out (fun k_ hk => (⟨hk, hk.2.2.1⟩ : _ ∧ k_ ≠ gb413))) (fun _ hk => hk.2) (.slice Ao119 x415000_1.length co119)) (fun _ hk => hk.2) (.slice Ao121 x415001_3.length co121)) (fun _ hk => ⟨hk.1.1, hk.1.2.1⟩), by (with_reducible repeat (first | apply Kd.R_alloc | apply Kd.R_drewN | apply Kd.R_drew)); exact Kd.R_mono (Kd.R_far (p := ⟨gb413, 1, none⟩) (Kd.R_far (p := ⟨gb413, 0, none⟩) (Kd.R_types HO_415001.out BK413.out (by decide)) (fun _ hk => hk.2) (.slice Ao119 x415000_1.length co119)) (fun _ hk => hk.2) (.slice Ao121 x415001_3.length co121)) (fun _ hk => hk.1), bb HB⟩
end Go.Proofs.Ytfpianecohobjaa.P
