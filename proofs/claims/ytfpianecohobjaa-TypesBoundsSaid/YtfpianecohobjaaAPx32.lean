/- typesOrder_holds, typesBounds_holds, typesInherit_holds: a part of the proof that the law returns true for every input. No condition. -/
import Derived.Test.YtfpianecohobjaaAPx0
import Derived.Test.YtfpianecohobjaaAPx31
namespace Go.Proofs.Ytfpianecohobjaa.P
open Go.RowKit Go.Proofs.YtfpianecohobjaaW.PrintWords Go.Proofs.YtfpianecohobjaaW.PrintLast Go.Proofs.YtfpianecohobjaaW.PrintMore
set_option linter.unusedVariables false
set_option linter.unusedSimpArgs false
def q4_SameAttrs.l0 : Nat → List (S77) → List (S77) → Int → Option (Bool)
 | 0, _, _, _ => none
 | k + 1, x0, x1, x5 => if x5 < (x0.length : Int) then (if 0 ≤ x5 then (if x5 < (x1.length : Int) then (if ((rd_T77 x0 x5).f0).toList = ((rd_T77 x1 x5).f0).toList then (if ((rd_T77 x0 x5).f1) = ((rd_T77 x1 x5).f1) then (if ((rd_T77 x0 x5).f2) = ((rd_T77 x1 x5).f2) then ((q4_Strings.f k ((rd_T77 x0 x5).f3) ((rd_T77 x1 x5).f3)).bind fun t561 => (if t561 = true then (q4_SameAttrs.l0 k x0 x1 (wrap64 (x5 + 1))) else (some false))) else (some false)) else (some false)) else (some false)) else (none)) else (none)) else (some true)
def q4_SameAttrs.f (k : Nat) (l0 : List (S77)) (l1 : List (S77)) : Option (Bool) := if (l0.length : Int) = (l1.length : Int) then (q4_SameAttrs.l0 k l0 l1 0) else (some false)
def q4_SameAttrs.T6 : Bool × List (List Nat × List Nat) := (true, [([], []), ([], []), ([0, 1], [0, 1]), ([2], [2]), ([3], [3]), ([], []), ([], []), ([5, 6], [5, 6]), ([7], [7]), ([8], [8]), ([4, 9], [4, 9]), ([10], [10]), ([11], [11]), ([11], [11]), ([12, 13, 11], [11, 12, 13]), ([14, 11], [11, 14]), ([15, 11], [11, 15]), ([11], [11]), ([11], [11]), ([17, 18, 11], [11, 17, 18]), ([19, 11], [11, 19]), ([20, 11], [11, 20]), ([16, 21, 11], [11, 16, 21]), ([11, 22], [11, 22]), ([23, 11], [23]), ([24], [24]), ([24], [24]), ([25, 26, 24], [24, 25, 26]), ([27, 24], [24, 27]), ([28, 24], [24, 28]), ([24], [24]), ([24], [24]), ([30, 31, 24], [24, 30, 31]), ([32, 24], [24, 32]), ([33, 24], [24, 33]), ([29, 34, 24], [24, 29, 34]), ([24, 35], [24, 35]), ([36, 24], [36]), ([37], [37]), ([37], [37]), ([38, 39, 37], [37, 38, 39]), ([40, 37], [37, 40]), ([41, 37], [37, 41]), ([37], [37]), ([37], [37]), ([43, 44, 37], [37, 43, 44]), ([45, 37], [37, 45]), ([46, 37], [37, 46]), ([42, 47, 37, 37], [37, 42, 47]), ([48, 37], [37, 48]), ([37, 49], [37, 49])])
def q4_SameAttrs.B6 : List Nat := [0, 0, 3, 7, 15, 0, 0, 96, 224, 480, 1023, 2047, 4095, 4095, 16383, 32767, 65535, 4095, 4095, 397311, 921599, 1970175, 4194303, 8388607, 16777215, 33554431, 33554431, 134217727, 268435455, 536870911, 33554431, 33554431, 3254779903, 7549747199, 16139681791, 34359738367, 68719476735, 137438953471, 274877906943, 274877906943, 1099511627775, 2199023255551, 4398046511103, 274877906943, 274877906943, 26663156973567, 61847529062399, 132216273240063, 281474976710655, 562949953421311, 1125899906842623]
theorem q4_SameAttrs.tab6 : rtab .any (opsOf Try.f32 6) = q4_SameAttrs.T6 := by kernel_rfl
theorem q4_SameAttrs.bits6 : waitsOk q4_SameAttrs.T6.2 q4_SameAttrs.B6 = true := by kernel_rfl
set_option maxHeartbeats 8000000 in
set_option maxRecDepth 100000 in
theorem q4_SameAttrs.calls (k : Nat) (A0 : Option Addr) (c0 : Nat) (l0 : List (S77)) (A1 : Option Addr) (c1 : Nat) (l1 : List (S77)) (r : Bool) (w : World) (hr0 : Kd.C k77 w A0 l0.length l0) (hc0 : l0.length ≤ c0) (hr1 : Kd.C k77 w A1 l1.length l1) (hc1 : l1.length ≤ c1) (h : q4_SameAttrs.f k l0 l1 = some r) :
  Calls Try.prog 32 #[.slice A0 l0.length c0, .slice A1 l1.length c1] w fun e w' => e = .returned (.bool r) ∧ Below w.heap.size w w' := by
 have HR0 := Aside0.mk hr0
 have HC0 := Aside0.mk hc0
 clear hr0 hc0
 have HR1 := Aside0.mk hr1
 have HC1 := Aside0.mk hc1
 clear hr1 hc1
 have HB := Aside0.mk (Below.refl w.heap.size w)
 have H : (if (l0.length : Int) = (l1.length : Int) then (q4_SameAttrs.l0 k l0 l1 0) else (some false)) = some r := h
 clear h
 by_cases c3 : (l0.length : Int) = (l1.length : Int)
 ·rw [if_pos c3] at H
  have c3b0 : ((l0.length : Int) == (l1.length : Int)) = true := beq_iff_eq.mpr c3
  have c3b1 : ((l0.length : Int) != (l1.length : Int)) = false := bne_eq_false_iff_eq.mpr c3
  have c3b2 : (l0.length == l1.length) = true := by first | simpa using c3 | (simp at c3 ⊢; omega)
  clear c3
  have H' := Aside0.mk H
  clear H
  go_enter Try.func32, Try.ntmps32
  go_wp2
  go_loopg [5] k (fun kq v5 w' => ∃ (x5_1 : Int), v5 = .int .i64 x5_1 ∧ Aside0 (q4_SameAttrs.l0 kq l0 l1 x5_1 = some r) ∧ Aside0 (kq ≤ k) ∧ Aside0 (Below w.heap.size w w'))
  case atStart => exact ⟨(0), eqs, H', ⟨Nat.le_refl _⟩, ⟨bb HB⟩⟩
  case round =>
   clear H'
   try clear c1
   try clear p2
   try clear c3
   try clear c3b0
   try clear c3b1
   try clear c3b2
   obtain ⟨x5_1, rfl, HA, HK1, HB⟩ := hrel
   cases gk with
   | zero => exact absurd HA.out (by simp [q4_SameAttrs.l0])
   | succ k1 =>
    have H := HA.out
    clear HA
    simp only [q4_SameAttrs.l0] at H
    by_cases c4 : x5_1 < (l0.length : Int)
    ·rw [if_pos c4] at H
     have c4b0 : decide (x5_1 < (l0.length : Int)) = true := decide_eq_true c4
     clear c4
     by_cases c5 : 0 ≤ x5_1
     ·rw [if_pos c5] at H
      have c5b0 : decide (0 ≤ x5_1) = true := decide_eq_true c5
      clear c5
      by_cases c6 : x5_1 < (l1.length : Int)
      ·rw [if_pos c6] at H
       have c6b0 : decide (x5_1 < (l1.length : Int)) = true := decide_eq_true c6
       clear c6
       by_cases c7 : ((rd_T77 l0 x5_1).f0).toList = ((rd_T77 l1 x5_1).f0).toList
       ·rw [if_pos c7] at H
        have c7b0 : (((rd_T77 l0 x5_1).f0).toList == ((rd_T77 l1 x5_1).f0).toList) = true := beq_iff_eq.mpr c7
        have c7b1 : (((rd_T77 l0 x5_1).f0).toList != ((rd_T77 l1 x5_1).f0).toList) = false := bne_eq_false_iff_eq.mpr c7
        clear c7
        by_cases c8 : ((rd_T77 l0 x5_1).f1) = ((rd_T77 l1 x5_1).f1)
        ·rw [if_pos c8] at H
         have c8b0 : (((rd_T77 l0 x5_1).f1) == ((rd_T77 l1 x5_1).f1)) = true := beq_iff_eq.mpr c8
         have c8b1 : (((rd_T77 l0 x5_1).f1) != ((rd_T77 l1 x5_1).f1)) = false := bne_eq_false_iff_eq.mpr c8
         clear c8
         by_cases c9 : ((rd_T77 l0 x5_1).f2) = ((rd_T77 l1 x5_1).f2)
         ·rw [if_pos c9] at H
          have c9b0 : (((rd_T77 l0 x5_1).f2) == ((rd_T77 l1 x5_1).f2)) = true := beq_iff_eq.mpr c9
          have c9b1 : (((rd_T77 l0 x5_1).f2) != ((rd_T77 l1 x5_1).f2)) = false := bne_eq_false_iff_eq.mpr c9
          clear c9
          replace H := Option.bind_eq_some_iff.mp H
          obtain ⟨t561, A100, H⟩ := H
          replace H : (if t561 = true then (q4_SameAttrs.l0 k1 l0 l1 (wrap64 (x5_1 + 1))) else (some false)) = some r := H
          have A10 := Aside0.mk A100
          clear A100
          by_cases c11 : t561 = true
          ·subst c11
           replace H := ift H
           have H' := Aside0.mk H
           clear H
           try go_wp2
           replace HB := Aside0.mk (below_drew1 HB.out)
           have p553 : 0 ≤ x5_1 := odt
           have q553 : x5_1 < (l0.length : Int) := odt
           obtain ⟨ad553, A553_3, c553_3, e553, hx553_0, hx553_1, hx553_2, hx553_3, hl553_3, hi553_3⟩ := at_T77 HR0.out x5_1 p553 q553
           have hw553_3 := hx553_3
           have hw553_2 := hx553_2
           have hw553_1 := hx553_1
           have hw553_0 := hx553_0
           cases e553
           replace hx553_0 := hxc HB hx553_0
           replace hx553_1 := hxc HB hx553_1
           replace hx553_2 := hxc HB hx553_2
           replace hx553_3 := hxc HB hx553_3
           have HR553_3 := Aside0.mk hi553_3
           have HC553_3 := Aside0.mk hl553_3
           clear hi553_3 hl553_3
           replace p553 := eq_true p553
           replace q553 := eq_true q553
           have p554 : 0 ≤ x5_1 := odt
           have q554 : x5_1 < (l1.length : Int) := odt
           obtain ⟨ad554, A554_3, c554_3, e554, hx554_0, hx554_1, hx554_2, hx554_3, hl554_3, hi554_3⟩ := at_T77 HR1.out x5_1 p554 q554
           have hw554_3 := hx554_3
           have hw554_2 := hx554_2
           have hw554_1 := hx554_1
           have hw554_0 := hx554_0
           cases e554
           replace hx554_0 := hxc HB hx554_0
           replace hx554_1 := hxc HB hx554_1
           replace hx554_2 := hxc HB hx554_2
           replace hx554_3 := hxc HB hx554_3
           have HR554_3 := Aside0.mk hi554_3
           have HC554_3 := Aside0.mk hl554_3
           clear hi554_3 hl554_3
           replace p554 := eq_true p554
           replace q554 := eq_true q554
           have p555 : 0 ≤ x5_1 := odt
           have q555 : x5_1 < (l0.length : Int) := odt
           obtain ⟨ad555, A555_3, c555_3, e555, hx555_0, hx555_1, hx555_2, hx555_3, hl555_3, hi555_3⟩ := at_T77 HR0.out x5_1 p555 q555
           have hw555_3 := hx555_3
           have hw555_2 := hx555_2
           have hw555_1 := hx555_1
           have hw555_0 := hx555_0
           obtain rfl : ad553 = ad555 := (by injection e555)
           replace hx555_0 := hxc HB hx555_0
           replace hx555_1 := hxc HB hx555_1
           replace hx555_2 := hxc HB hx555_2
           replace hx555_3 := hxc HB hx555_3
           have HR555_3 := Aside0.mk hi555_3
           have HC555_3 := Aside0.mk hl555_3
           clear hi555_3 hl555_3
           replace p555 := eq_true p555
           replace q555 := eq_true q555
           have ea_ := Option.some.inj (hx553_3.symm.trans hx555_3)
           injection ea_ with ea_ en_ ec_
           subst ea_
           subst ec_
           clear en_
           have p556 : 0 ≤ x5_1 := odt
           have q556 : x5_1 < (l1.length : Int) := odt
           obtain ⟨ad556, A556_3, c556_3, e556, hx556_0, hx556_1, hx556_2, hx556_3, hl556_3, hi556_3⟩ := at_T77 HR1.out x5_1 p556 q556
           have hw556_3 := hx556_3
           have hw556_2 := hx556_2
           have hw556_1 := hx556_1
           have hw556_0 := hx556_0
           obtain rfl : ad554 = ad556 := (by injection e556)
           replace hx556_0 := hxc HB hx556_0
           replace hx556_1 := hxc HB hx556_1
           replace hx556_2 := hxc HB hx556_2
           replace hx556_3 := hxc HB hx556_3
           have HR556_3 := Aside0.mk hi556_3
           have HC556_3 := Aside0.mk hl556_3
           clear hi556_3 hl556_3
           replace p556 := eq_true p556
           replace q556 := eq_true q556
           have ea_ := Option.some.inj (hx554_3.symm.trans hx556_3)
           injection ea_ with ea_ en_ ec_
           subst ea_
           subst ec_
           clear en_
           have p557 : 0 ≤ x5_1 := odt
           have q557 : x5_1 < (l0.length : Int) := odt
           obtain ⟨ad557, A557_3, c557_3, e557, hx557_0, hx557_1, hx557_2, hx557_3, hl557_3, hi557_3⟩ := at_T77 HR0.out x5_1 p557 q557
           have hw557_3 := hx557_3
           have hw557_2 := hx557_2
           have hw557_1 := hx557_1
           have hw557_0 := hx557_0
           obtain rfl : ad553 = ad557 := (by injection e557)
           replace hx557_0 := hxc HB hx557_0
           replace hx557_1 := hxc HB hx557_1
           replace hx557_2 := hxc HB hx557_2
           replace hx557_3 := hxc HB hx557_3
           have HR557_3 := Aside0.mk hi557_3
           have HC557_3 := Aside0.mk hl557_3
           clear hi557_3 hl557_3
           replace p557 := eq_true p557
           replace q557 := eq_true q557
           have ea_ := Option.some.inj (hx553_3.symm.trans hx557_3)
           injection ea_ with ea_ en_ ec_
           subst ea_
           subst ec_
           clear en_
           have p558 : 0 ≤ x5_1 := odt
           have q558 : x5_1 < (l1.length : Int) := odt
           obtain ⟨ad558, A558_3, c558_3, e558, hx558_0, hx558_1, hx558_2, hx558_3, hl558_3, hi558_3⟩ := at_T77 HR1.out x5_1 p558 q558
           have hw558_3 := hx558_3
           have hw558_2 := hx558_2
           have hw558_1 := hx558_1
           have hw558_0 := hx558_0
           obtain rfl : ad554 = ad558 := (by injection e558)
           replace hx558_0 := hxc HB hx558_0
           replace hx558_1 := hxc HB hx558_1
           replace hx558_2 := hxc HB hx558_2
           replace hx558_3 := hxc HB hx558_3
           have HR558_3 := Aside0.mk hi558_3
           have HC558_3 := Aside0.mk hl558_3
           clear hi558_3 hl558_3
           replace p558 := eq_true p558
           replace q558 := eq_true q558
           have ea_ := Option.some.inj (hx554_3.symm.trans hx558_3)
           injection ea_ with ea_ en_ ec_
           subst ea_
           subst ec_
           clear en_
           have p559 : 0 ≤ x5_1 := odt
           have q559 : x5_1 < (l0.length : Int) := odt
           obtain ⟨ad559, A559_3, c559_3, e559, hx559_0, hx559_1, hx559_2, hx559_3, hl559_3, hi559_3⟩ := at_T77 HR0.out x5_1 p559 q559
           have hw559_3 := hx559_3
           have hw559_2 := hx559_2
           have hw559_1 := hx559_1
           have hw559_0 := hx559_0
           obtain rfl : ad553 = ad559 := (by injection e559)
           replace hx559_0 := hxc HB hx559_0
           replace hx559_1 := hxc HB hx559_1
           replace hx559_2 := hxc HB hx559_2
           replace hx559_3 := hxc HB hx559_3
           have HR559_3 := Aside0.mk hi559_3
           have HC559_3 := Aside0.mk hl559_3
           clear hi559_3 hl559_3
           replace p559 := eq_true p559
           replace q559 := eq_true q559
           have ea_ := Option.some.inj (hx553_3.symm.trans hx559_3)
           injection ea_ with ea_ en_ ec_
           subst ea_
           subst ec_
           clear en_
           have p560 : 0 ≤ x5_1 := odt
           have q560 : x5_1 < (l1.length : Int) := odt
           obtain ⟨ad560, A560_3, c560_3, e560, hx560_0, hx560_1, hx560_2, hx560_3, hl560_3, hi560_3⟩ := at_T77 HR1.out x5_1 p560 q560
           have hw560_3 := hx560_3
           have hw560_2 := hx560_2
           have hw560_1 := hx560_1
           have hw560_0 := hx560_0
           obtain rfl : ad554 = ad560 := (by injection e560)
           replace hx560_0 := hxc HB hx560_0
           replace hx560_1 := hxc HB hx560_1
           replace hx560_2 := hxc HB hx560_2
           replace hx560_3 := hxc HB hx560_3
           have HR560_3 := Aside0.mk hi560_3
           have HC560_3 := Aside0.mk hl560_3
           clear hi560_3 hl560_3
           replace p560 := eq_true p560
           replace q560 := eq_true q560
           have ea_ := Option.some.inj (hx554_3.symm.trans hx560_3)
           injection ea_ with ea_ en_ ec_
           subst ea_
           subst ec_
           clear en_
           refine start_ (n := 51) (S := fun w' => w'.cell? (ad553.add ((x5_1).toNat * 4)) = some (.string ((rd_T77 l0 x5_1).f0)) ∧ w'.cell? ⟨(ad553.add ((x5_1).toNat * 4)).block, (ad553.add ((x5_1).toNat * 4)).off + 1, none⟩ = some (.int .i64 ((rd_T77 l0 x5_1).f1)) ∧ w'.cell? ⟨(ad553.add ((x5_1).toNat * 4)).block, (ad553.add ((x5_1).toNat * 4)).off + 2, none⟩ = some (.int .i64 ((rd_T77 l0 x5_1).f2)) ∧ w'.cell? ⟨(ad553.add ((x5_1).toNat * 4)).block, (ad553.add ((x5_1).toNat * 4)).off + 3, none⟩ = some (.slice A553_3 ((rd_T77 l0 x5_1).f3).length c553_3) ∧ w'.cell? (ad554.add ((x5_1).toNat * 4)) = some (.string ((rd_T77 l1 x5_1).f0)) ∧ w'.cell? ⟨(ad554.add ((x5_1).toNat * 4)).block, (ad554.add ((x5_1).toNat * 4)).off + 1, none⟩ = some (.int .i64 ((rd_T77 l1 x5_1).f1)) ∧ w'.cell? ⟨(ad554.add ((x5_1).toNat * 4)).block, (ad554.add ((x5_1).toNat * 4)).off + 2, none⟩ = some (.int .i64 ((rd_T77 l1 x5_1).f2)) ∧ w'.cell? ⟨(ad554.add ((x5_1).toNat * 4)).block, (ad554.add ((x5_1).toNat * 4)).off + 3, none⟩ = some (.slice A554_3 ((rd_T77 l1 x5_1).f3).length c554_3) ∧ w'.cell? (ad553.add ((x5_1).toNat * 4)) = some (.string ((rd_T77 l0 x5_1).f0)) ∧ w'.cell? ⟨(ad553.add ((x5_1).toNat * 4)).block, (ad553.add ((x5_1).toNat * 4)).off + 1, none⟩ = some (.int .i64 ((rd_T77 l0 x5_1).f1)) ∧ w'.cell? ⟨(ad553.add ((x5_1).toNat * 4)).block, (ad553.add ((x5_1).toNat * 4)).off + 2, none⟩ = some (.int .i64 ((rd_T77 l0 x5_1).f2)) ∧ w'.cell? ⟨(ad553.add ((x5_1).toNat * 4)).block, (ad553.add ((x5_1).toNat * 4)).off + 3, none⟩ = some (.slice A553_3 ((rd_T77 l0 x5_1).f3).length c553_3) ∧ w'.cell? (ad554.add ((x5_1).toNat * 4)) = some (.string ((rd_T77 l1 x5_1).f0)) ∧ w'.cell? ⟨(ad554.add ((x5_1).toNat * 4)).block, (ad554.add ((x5_1).toNat * 4)).off + 1, none⟩ = some (.int .i64 ((rd_T77 l1 x5_1).f1)) ∧ w'.cell? ⟨(ad554.add ((x5_1).toNat * 4)).block, (ad554.add ((x5_1).toNat * 4)).off + 2, none⟩ = some (.int .i64 ((rd_T77 l1 x5_1).f2)) ∧ w'.cell? ⟨(ad554.add ((x5_1).toNat * 4)).block, (ad554.add ((x5_1).toNat * 4)).off + 3, none⟩ = some (.slice A554_3 ((rd_T77 l1 x5_1).f3).length c554_3) ∧ w'.cell? (ad553.add ((x5_1).toNat * 4)) = some (.string ((rd_T77 l0 x5_1).f0)) ∧ w'.cell? ⟨(ad553.add ((x5_1).toNat * 4)).block, (ad553.add ((x5_1).toNat * 4)).off + 1, none⟩ = some (.int .i64 ((rd_T77 l0 x5_1).f1)) ∧ w'.cell? ⟨(ad553.add ((x5_1).toNat * 4)).block, (ad553.add ((x5_1).toNat * 4)).off + 2, none⟩ = some (.int .i64 ((rd_T77 l0 x5_1).f2)) ∧ w'.cell? ⟨(ad553.add ((x5_1).toNat * 4)).block, (ad553.add ((x5_1).toNat * 4)).off + 3, none⟩ = some (.slice A553_3 ((rd_T77 l0 x5_1).f3).length c553_3) ∧ w'.cell? (ad554.add ((x5_1).toNat * 4)) = some (.string ((rd_T77 l1 x5_1).f0)) ∧ w'.cell? ⟨(ad554.add ((x5_1).toNat * 4)).block, (ad554.add ((x5_1).toNat * 4)).off + 1, none⟩ = some (.int .i64 ((rd_T77 l1 x5_1).f1)) ∧ w'.cell? ⟨(ad554.add ((x5_1).toNat * 4)).block, (ad554.add ((x5_1).toNat * 4)).off + 2, none⟩ = some (.int .i64 ((rd_T77 l1 x5_1).f2)) ∧ w'.cell? ⟨(ad554.add ((x5_1).toNat * 4)).block, (ad554.add ((x5_1).toNat * 4)).off + 3, none⟩ = some (.slice A554_3 ((rd_T77 l1 x5_1).f3).length c554_3) ∧ w'.cell? (ad553.add ((x5_1).toNat * 4)) = some (.string ((rd_T77 l0 x5_1).f0)) ∧ w'.cell? ⟨(ad553.add ((x5_1).toNat * 4)).block, (ad553.add ((x5_1).toNat * 4)).off + 1, none⟩ = some (.int .i64 ((rd_T77 l0 x5_1).f1)) ∧ w'.cell? ⟨(ad553.add ((x5_1).toNat * 4)).block, (ad553.add ((x5_1).toNat * 4)).off + 2, none⟩ = some (.int .i64 ((rd_T77 l0 x5_1).f2)) ∧ w'.cell? ⟨(ad553.add ((x5_1).toNat * 4)).block, (ad553.add ((x5_1).toNat * 4)).off + 3, none⟩ = some (.slice A553_3 ((rd_T77 l0 x5_1).f3).length c553_3) ∧ w'.cell? (ad554.add ((x5_1).toNat * 4)) = some (.string ((rd_T77 l1 x5_1).f0)) ∧ w'.cell? ⟨(ad554.add ((x5_1).toNat * 4)).block, (ad554.add ((x5_1).toNat * 4)).off + 1, none⟩ = some (.int .i64 ((rd_T77 l1 x5_1).f1)) ∧ w'.cell? ⟨(ad554.add ((x5_1).toNat * 4)).block, (ad554.add ((x5_1).toNat * 4)).off + 2, none⟩ = some (.int .i64 ((rd_T77 l1 x5_1).f2)) ∧ w'.cell? ⟨(ad554.add ((x5_1).toNat * 4)).block, (ad554.add ((x5_1).toNat * 4)).off + 3, none⟩ = some (.slice A554_3 ((rd_T77 l1 x5_1).f3).length c554_3)) (ds := []) #[false, false, false, false, false, false, false, false, false, false, false, false, false, false, false, false, false, false, false, false, false, false, false, false, false, false, false, false, false, false, false, false, false, false, false, false, false, false, false, false, false, false, false, false, false, false, false, false, false, false, false] (by kernel_rfl) rfl rfl ⟨((HB.out.cell (World.block_lt_of_cell? w _ hw553_0)).trans hw553_0), ((HB.out.cell (World.block_lt_of_cell? w _ hw553_1)).trans hw553_1), ((HB.out.cell (World.block_lt_of_cell? w _ hw553_2)).trans hw553_2), ((HB.out.cell (World.block_lt_of_cell? w _ hw553_3)).trans hw553_3), ((HB.out.cell (World.block_lt_of_cell? w _ hw554_0)).trans hw554_0), ((HB.out.cell (World.block_lt_of_cell? w _ hw554_1)).trans hw554_1), ((HB.out.cell (World.block_lt_of_cell? w _ hw554_2)).trans hw554_2), ((HB.out.cell (World.block_lt_of_cell? w _ hw554_3)).trans hw554_3), ((HB.out.cell (World.block_lt_of_cell? w _ hw555_0)).trans hw555_0), ((HB.out.cell (World.block_lt_of_cell? w _ hw555_1)).trans hw555_1), ((HB.out.cell (World.block_lt_of_cell? w _ hw555_2)).trans hw555_2), ((HB.out.cell (World.block_lt_of_cell? w _ hw555_3)).trans hw555_3), ((HB.out.cell (World.block_lt_of_cell? w _ hw556_0)).trans hw556_0), ((HB.out.cell (World.block_lt_of_cell? w _ hw556_1)).trans hw556_1), ((HB.out.cell (World.block_lt_of_cell? w _ hw556_2)).trans hw556_2), ((HB.out.cell (World.block_lt_of_cell? w _ hw556_3)).trans hw556_3), ((HB.out.cell (World.block_lt_of_cell? w _ hw557_0)).trans hw557_0), ((HB.out.cell (World.block_lt_of_cell? w _ hw557_1)).trans hw557_1), ((HB.out.cell (World.block_lt_of_cell? w _ hw557_2)).trans hw557_2), ((HB.out.cell (World.block_lt_of_cell? w _ hw557_3)).trans hw557_3), ((HB.out.cell (World.block_lt_of_cell? w _ hw558_0)).trans hw558_0), ((HB.out.cell (World.block_lt_of_cell? w _ hw558_1)).trans hw558_1), ((HB.out.cell (World.block_lt_of_cell? w _ hw558_2)).trans hw558_2), ((HB.out.cell (World.block_lt_of_cell? w _ hw558_3)).trans hw558_3), ((HB.out.cell (World.block_lt_of_cell? w _ hw559_0)).trans hw559_0), ((HB.out.cell (World.block_lt_of_cell? w _ hw559_1)).trans hw559_1), ((HB.out.cell (World.block_lt_of_cell? w _ hw559_2)).trans hw559_2), ((HB.out.cell (World.block_lt_of_cell? w _ hw559_3)).trans hw559_3), ((HB.out.cell (World.block_lt_of_cell? w _ hw560_0)).trans hw560_0), ((HB.out.cell (World.block_lt_of_cell? w _ hw560_1)).trans hw560_1), ((HB.out.cell (World.block_lt_of_cell? w _ hw560_2)).trans hw560_2), ((HB.out.cell (World.block_lt_of_cell? w _ hw560_3)).trans hw560_3)⟩ (fun hHeld => ?_); refine with_tabW q4_SameAttrs.tab6 q4_SameAttrs.bits6 (fun HT_ HW_ => ?_)
           generalize wr.drew = w12 at HB HR553_3 HR554_3 HR555_3 HR556_3 HR557_3 HR558_3 HR559_3 HR560_3 hx553_0 hx553_1 hx553_2 hx553_3 hx554_0 hx554_1 hx554_2 hx554_3 hx555_0 hx555_1 hx555_2 hx555_3 hx556_0 hx556_1 hx556_2 hx556_3 hx557_0 hx557_1 hx557_2 hx557_3 hx558_0 hx558_1 hx558_2 hx558_3 hx559_0 hx559_1 hx559_2 hx559_3 hx560_0 hx560_1 hx560_2 hx560_3 hHeld ⊢
           refine pu 0 17 (bits 51 0x1) HT_ (h := ?_)
           refine pu 1 18 (bits 51 0x3) HT_ (h := ?_)
           refine pu 2 19 (bits 51 0x7) HT_ (h := ?_)
           refine pu 3 20 (bits 51 0xf) HT_ (h := ?_)
           refine pu 5 22 (bits 51 0x2f) HT_ (h := ?_)
           refine pu 6 23 (bits 51 0x6f) HT_ (h := ?_)
           refine pu 7 24 (bits 51 0xef) HT_ (h := ?_)
           refine pu 8 25 (bits 51 0x1ef) HT_ (h := ?_)
           refine tk 4 21 (bits 51 0x1ff) HT_ HW_ hHeld (hy := by rintro w' ⟨s0, s1, s2, s3, s4, s5, s6, s7, s8, s9, s10, s11, s12, s13, s14, s15, s16, s17, s18, s19, s20, s21, s22, s23, s24, s25, s26, s27, s28, s29, s30, s31⟩; go_simp; with_reducible rfl) (h := ?_)
           refine tk 9 26 (bits 51 0x3ff) HT_ HW_ hHeld (hy := by rintro w' ⟨s0, s1, s2, s3, s4, s5, s6, s7, s8, s9, s10, s11, s12, s13, s14, s15, s16, s17, s18, s19, s20, s21, s22, s23, s24, s25, s26, s27, s28, s29, s30, s31⟩; go_simp; with_reducible rfl) (h := ?_)
           refine pu 10 27 (bits 51 0x7ff) HT_ (h := ?_)
           refine pu 11 28 (bits 51 0xfff) HT_ (h := ?_)
           refine pu 12 29 (bits 51 0x1fff) HT_ (h := ?_)
           refine pu 13 30 (bits 51 0x3fff) HT_ (h := ?_)
           refine pu 14 31 (bits 51 0x7fff) HT_ (h := ?_)
           refine pu 15 32 (bits 51 0xffff) HT_ (h := ?_)
           refine pu 17 34 (bits 51 0x2ffff) HT_ (h := ?_)
           refine pu 18 35 (bits 51 0x6ffff) HT_ (h := ?_)
           refine pu 19 36 (bits 51 0xeffff) HT_ (h := ?_)
           refine pu 20 37 (bits 51 0x1effff) HT_ (h := ?_)
           refine tk 16 33 (bits 51 0x1fffff) HT_ HW_ hHeld (hy := by rintro w' ⟨s0, s1, s2, s3, s4, s5, s6, s7, s8, s9, s10, s11, s12, s13, s14, s15, s16, s17, s18, s19, s20, s21, s22, s23, s24, s25, s26, s27, s28, s29, s30, s31⟩; go_simp; with_reducible rfl) (h := ?_)
           refine tk 21 38 (bits 51 0x3fffff) HT_ HW_ hHeld (hy := by rintro w' ⟨s0, s1, s2, s3, s4, s5, s6, s7, s8, s9, s10, s11, s12, s13, s14, s15, s16, s17, s18, s19, s20, s21, s22, s23, s24, s25, s26, s27, s28, s29, s30, s31⟩; go_simp; with_reducible rfl) (h := ?_)
           refine pu 22 39 (bits 51 0x7fffff) HT_ (h := ?_)
           refine pu 23 40 (bits 51 0xffffff) HT_ (h := ?_)
           refine pu 24 41 (bits 51 0x1ffffff) HT_ (h := ?_)
           refine pu 25 42 (bits 51 0x3ffffff) HT_ (h := ?_)
           refine pu 26 43 (bits 51 0x7ffffff) HT_ (h := ?_)
           refine pu 27 44 (bits 51 0xfffffff) HT_ (h := ?_)
           refine pu 28 45 (bits 51 0x1fffffff) HT_ (h := ?_)
           refine pu 30 47 (bits 51 0x5fffffff) HT_ (h := ?_)
           refine pu 31 48 (bits 51 0xdfffffff) HT_ (h := ?_)
           refine pu 32 49 (bits 51 0x1dfffffff) HT_ (h := ?_)
           refine pu 33 50 (bits 51 0x3dfffffff) HT_ (h := ?_)
           refine tk 29 46 (bits 51 0x3ffffffff) HT_ HW_ hHeld (hy := by rintro w' ⟨s0, s1, s2, s3, s4, s5, s6, s7, s8, s9, s10, s11, s12, s13, s14, s15, s16, s17, s18, s19, s20, s21, s22, s23, s24, s25, s26, s27, s28, s29, s30, s31⟩; go_simp; with_reducible rfl) (h := ?_)
           refine tk 34 51 (bits 51 0x7ffffffff) HT_ HW_ hHeld (hy := by rintro w' ⟨s0, s1, s2, s3, s4, s5, s6, s7, s8, s9, s10, s11, s12, s13, s14, s15, s16, s17, s18, s19, s20, s21, s22, s23, s24, s25, s26, s27, s28, s29, s30, s31⟩; go_simp; with_reducible rfl) (h := ?_)
           refine pu 35 52 (bits 51 0xfffffffff) HT_ (h := ?_)
           refine pu 36 53 (bits 51 0x1fffffffff) HT_ (h := ?_)
           refine pu 37 54 (bits 51 0x3fffffffff) HT_ (h := ?_)
           refine pu 38 55 (bits 51 0x7fffffffff) HT_ (h := ?_)
           refine pu 39 56 (bits 51 0xffffffffff) HT_ (h := ?_)
           refine pu 40 57 (bits 51 0x1ffffffffff) HT_ (h := ?_)
           refine pu 41 58 (bits 51 0x3ffffffffff) HT_ (h := ?_)
           refine pu 43 60 (bits 51 0xbffffffffff) HT_ (h := ?_)
           refine pu 44 61 (bits 51 0x1bffffffffff) HT_ (h := ?_)
           refine pu 45 62 (bits 51 0x3bffffffffff) HT_ (h := ?_)
           refine pu 46 63 (bits 51 0x7bffffffffff) HT_ (h := ?_)
           refine tk 42 59 (bits 51 0x7fffffffffff) HT_ HW_ hHeld (hy := by rintro w' ⟨s0, s1, s2, s3, s4, s5, s6, s7, s8, s9, s10, s11, s12, s13, s14, s15, s16, s17, s18, s19, s20, s21, s22, s23, s24, s25, s26, s27, s28, s29, s30, s31⟩; go_simp; with_reducible rfl) (h := ?_)
           refine tk 47 64 (bits 51 0xffffffffffff) HT_ HW_ hHeld (hy := by rintro w' ⟨s0, s1, s2, s3, s4, s5, s6, s7, s8, s9, s10, s11, s12, s13, s14, s15, s16, s17, s18, s19, s20, s21, s22, s23, s24, s25, s26, s27, s28, s29, s30, s31⟩; go_simp; with_reducible rfl) (h := ?_)
           refine one_ (i := 48) (N := some 65) #[true, true, true, true, true, true, true, true, true, true, true, true, true, true, true, true, true, true, true, true, true, true, true, true, true, true, true, true, true, true, true, true, true, true, true, true, true, true, true, true, true, true, true, true, true, true, true, true, true, false, false] rfl rfl (one_of HT_.out (by kernel_rfl)) (by decide) (fun K hK => ?_)
           refine goes_ Try.func52 (by kernel_rfl) rfl #[.slice A553_3 ((rd_T77 l0 x5_1).f3).length c553_3, .slice A554_3 ((rd_T77 l1 x5_1).f3).length c554_3] (by rfl) rfl rfl (by (try simp only [List.map_toArray, List.map_cons, List.map_nil]); first | done | rfl | (simp only [List.length_drop, List.length_take]; rfl)) ?_
           with_reducible refine (q4_Strings.calls k1 _ _ ((rd_T77 l0 x5_1).f3) _ _ ((rd_T77 l1 x5_1).f3) true _ ?side1 ?side2 ?side3 ?side4 A10.out).mono ?_
           (case side1 => exact cb HR559_3 HB)
           (case side2 => exact HC559_3.out)
           (case side3 => exact cb HR560_3 HB)
           (case side4 => exact HC560_3.out)
           rintro e w' ⟨rfl, ⟨nd, rfl⟩⟩
           refine ⟨_, rfl, ?_⟩
           refine hK.out _ _ ⟨((HB.out.cell (World.block_lt_of_cell? w _ hw553_0)).trans hw553_0), ((HB.out.cell (World.block_lt_of_cell? w _ hw553_1)).trans hw553_1), ((HB.out.cell (World.block_lt_of_cell? w _ hw553_2)).trans hw553_2), ((HB.out.cell (World.block_lt_of_cell? w _ hw553_3)).trans hw553_3), ((HB.out.cell (World.block_lt_of_cell? w _ hw554_0)).trans hw554_0), ((HB.out.cell (World.block_lt_of_cell? w _ hw554_1)).trans hw554_1), ((HB.out.cell (World.block_lt_of_cell? w _ hw554_2)).trans hw554_2), ((HB.out.cell (World.block_lt_of_cell? w _ hw554_3)).trans hw554_3), ((HB.out.cell (World.block_lt_of_cell? w _ hw555_0)).trans hw555_0), ((HB.out.cell (World.block_lt_of_cell? w _ hw555_1)).trans hw555_1), ((HB.out.cell (World.block_lt_of_cell? w _ hw555_2)).trans hw555_2), ((HB.out.cell (World.block_lt_of_cell? w _ hw555_3)).trans hw555_3), ((HB.out.cell (World.block_lt_of_cell? w _ hw556_0)).trans hw556_0), ((HB.out.cell (World.block_lt_of_cell? w _ hw556_1)).trans hw556_1), ((HB.out.cell (World.block_lt_of_cell? w _ hw556_2)).trans hw556_2), ((HB.out.cell (World.block_lt_of_cell? w _ hw556_3)).trans hw556_3), ((HB.out.cell (World.block_lt_of_cell? w _ hw557_0)).trans hw557_0), ((HB.out.cell (World.block_lt_of_cell? w _ hw557_1)).trans hw557_1), ((HB.out.cell (World.block_lt_of_cell? w _ hw557_2)).trans hw557_2), ((HB.out.cell (World.block_lt_of_cell? w _ hw557_3)).trans hw557_3), ((HB.out.cell (World.block_lt_of_cell? w _ hw558_0)).trans hw558_0), ((HB.out.cell (World.block_lt_of_cell? w _ hw558_1)).trans hw558_1), ((HB.out.cell (World.block_lt_of_cell? w _ hw558_2)).trans hw558_2), ((HB.out.cell (World.block_lt_of_cell? w _ hw558_3)).trans hw558_3), ((HB.out.cell (World.block_lt_of_cell? w _ hw559_0)).trans hw559_0), ((HB.out.cell (World.block_lt_of_cell? w _ hw559_1)).trans hw559_1), ((HB.out.cell (World.block_lt_of_cell? w _ hw559_2)).trans hw559_2), ((HB.out.cell (World.block_lt_of_cell? w _ hw559_3)).trans hw559_3), ((HB.out.cell (World.block_lt_of_cell? w _ hw560_0)).trans hw560_0), ((HB.out.cell (World.block_lt_of_cell? w _ hw560_1)).trans hw560_1), ((HB.out.cell (World.block_lt_of_cell? w _ hw560_2)).trans hw560_2), ((HB.out.cell (World.block_lt_of_cell? w _ hw560_3)).trans hw560_3)⟩ (fun hHeld => ?_)
           clear hK K
           refine norm_ (a' := ?_) ?_ ?_
           rotate_left
           ·show Act.put _ (some 65) _ = _
            simp only [Act.put, List.setIfInBounds_toArray, List.set_cons_zero, List.set_cons_succ, i64_w, i32_w]
            rfl
           refine pu 49 66 (bits 51 0x3ffffffffffff) HT_ (h := ?_)
           refine pu 50 67 (bits 51 0x7ffffffffffff) HT_ (h := ?_)
           refine done_ (done_of HT_.out (by kernel_rfl)) ?_
           try go_wp2
           go_roundg k1
           case measure => have := HK1.out; omega
           case rel => exact ⟨(wrap64 (x5_1 + 1)), eqs, H', ⟨by have := HK1.out; omega⟩, ⟨bb HB⟩⟩
          ·replace c11 := Bool.eq_false_iff.mpr c11
           subst c11
           replace H := iff_ H
           obtain rfl := Option.some.inj H
           try go_wp2
           replace HB := Aside0.mk (below_drew1 HB.out)
           have p553 : 0 ≤ x5_1 := odt
           have q553 : x5_1 < (l0.length : Int) := odt
           obtain ⟨ad553, A553_3, c553_3, e553, hx553_0, hx553_1, hx553_2, hx553_3, hl553_3, hi553_3⟩ := at_T77 HR0.out x5_1 p553 q553
           have hw553_3 := hx553_3
           have hw553_2 := hx553_2
           have hw553_1 := hx553_1
           have hw553_0 := hx553_0
           cases e553
           replace hx553_0 := hxc HB hx553_0
           replace hx553_1 := hxc HB hx553_1
           replace hx553_2 := hxc HB hx553_2
           replace hx553_3 := hxc HB hx553_3
           have HR553_3 := Aside0.mk hi553_3
           have HC553_3 := Aside0.mk hl553_3
           clear hi553_3 hl553_3
           replace p553 := eq_true p553
           replace q553 := eq_true q553
           have p554 : 0 ≤ x5_1 := odt
           have q554 : x5_1 < (l1.length : Int) := odt
           obtain ⟨ad554, A554_3, c554_3, e554, hx554_0, hx554_1, hx554_2, hx554_3, hl554_3, hi554_3⟩ := at_T77 HR1.out x5_1 p554 q554
           have hw554_3 := hx554_3
           have hw554_2 := hx554_2
           have hw554_1 := hx554_1
           have hw554_0 := hx554_0
           cases e554
           replace hx554_0 := hxc HB hx554_0
           replace hx554_1 := hxc HB hx554_1
           replace hx554_2 := hxc HB hx554_2
           replace hx554_3 := hxc HB hx554_3
           have HR554_3 := Aside0.mk hi554_3
           have HC554_3 := Aside0.mk hl554_3
           clear hi554_3 hl554_3
           replace p554 := eq_true p554
           replace q554 := eq_true q554
           have p555 : 0 ≤ x5_1 := odt
           have q555 : x5_1 < (l0.length : Int) := odt
           obtain ⟨ad555, A555_3, c555_3, e555, hx555_0, hx555_1, hx555_2, hx555_3, hl555_3, hi555_3⟩ := at_T77 HR0.out x5_1 p555 q555
           have hw555_3 := hx555_3
           have hw555_2 := hx555_2
           have hw555_1 := hx555_1
           have hw555_0 := hx555_0
           obtain rfl : ad553 = ad555 := (by injection e555)
           replace hx555_0 := hxc HB hx555_0
           replace hx555_1 := hxc HB hx555_1
           replace hx555_2 := hxc HB hx555_2
           replace hx555_3 := hxc HB hx555_3
           have HR555_3 := Aside0.mk hi555_3
           have HC555_3 := Aside0.mk hl555_3
           clear hi555_3 hl555_3
           replace p555 := eq_true p555
           replace q555 := eq_true q555
           have ea_ := Option.some.inj (hx553_3.symm.trans hx555_3)
           injection ea_ with ea_ en_ ec_
           subst ea_
           subst ec_
           clear en_
           have p556 : 0 ≤ x5_1 := odt
           have q556 : x5_1 < (l1.length : Int) := odt
           obtain ⟨ad556, A556_3, c556_3, e556, hx556_0, hx556_1, hx556_2, hx556_3, hl556_3, hi556_3⟩ := at_T77 HR1.out x5_1 p556 q556
           have hw556_3 := hx556_3
           have hw556_2 := hx556_2
           have hw556_1 := hx556_1
           have hw556_0 := hx556_0
           obtain rfl : ad554 = ad556 := (by injection e556)
           replace hx556_0 := hxc HB hx556_0
           replace hx556_1 := hxc HB hx556_1
           replace hx556_2 := hxc HB hx556_2
           replace hx556_3 := hxc HB hx556_3
           have HR556_3 := Aside0.mk hi556_3
           have HC556_3 := Aside0.mk hl556_3
           clear hi556_3 hl556_3
           replace p556 := eq_true p556
           replace q556 := eq_true q556
           have ea_ := Option.some.inj (hx554_3.symm.trans hx556_3)
           injection ea_ with ea_ en_ ec_
           subst ea_
           subst ec_
           clear en_
           have p557 : 0 ≤ x5_1 := odt
           have q557 : x5_1 < (l0.length : Int) := odt
           obtain ⟨ad557, A557_3, c557_3, e557, hx557_0, hx557_1, hx557_2, hx557_3, hl557_3, hi557_3⟩ := at_T77 HR0.out x5_1 p557 q557
           have hw557_3 := hx557_3
           have hw557_2 := hx557_2
           have hw557_1 := hx557_1
           have hw557_0 := hx557_0
           obtain rfl : ad553 = ad557 := (by injection e557)
           replace hx557_0 := hxc HB hx557_0
           replace hx557_1 := hxc HB hx557_1
           replace hx557_2 := hxc HB hx557_2
           replace hx557_3 := hxc HB hx557_3
           have HR557_3 := Aside0.mk hi557_3
           have HC557_3 := Aside0.mk hl557_3
           clear hi557_3 hl557_3
           replace p557 := eq_true p557
           replace q557 := eq_true q557
           have ea_ := Option.some.inj (hx553_3.symm.trans hx557_3)
           injection ea_ with ea_ en_ ec_
           subst ea_
           subst ec_
           clear en_
           have p558 : 0 ≤ x5_1 := odt
           have q558 : x5_1 < (l1.length : Int) := odt
           obtain ⟨ad558, A558_3, c558_3, e558, hx558_0, hx558_1, hx558_2, hx558_3, hl558_3, hi558_3⟩ := at_T77 HR1.out x5_1 p558 q558
           have hw558_3 := hx558_3
           have hw558_2 := hx558_2
           have hw558_1 := hx558_1
           have hw558_0 := hx558_0
           obtain rfl : ad554 = ad558 := (by injection e558)
           replace hx558_0 := hxc HB hx558_0
           replace hx558_1 := hxc HB hx558_1
           replace hx558_2 := hxc HB hx558_2
           replace hx558_3 := hxc HB hx558_3
           have HR558_3 := Aside0.mk hi558_3
           have HC558_3 := Aside0.mk hl558_3
           clear hi558_3 hl558_3
           replace p558 := eq_true p558
           replace q558 := eq_true q558
           have ea_ := Option.some.inj (hx554_3.symm.trans hx558_3)
           injection ea_ with ea_ en_ ec_
           subst ea_
           subst ec_
           clear en_
           have p559 : 0 ≤ x5_1 := odt
           have q559 : x5_1 < (l0.length : Int) := odt
           obtain ⟨ad559, A559_3, c559_3, e559, hx559_0, hx559_1, hx559_2, hx559_3, hl559_3, hi559_3⟩ := at_T77 HR0.out x5_1 p559 q559
           have hw559_3 := hx559_3
           have hw559_2 := hx559_2
           have hw559_1 := hx559_1
           have hw559_0 := hx559_0
           obtain rfl : ad553 = ad559 := (by injection e559)
           replace hx559_0 := hxc HB hx559_0
           replace hx559_1 := hxc HB hx559_1
           replace hx559_2 := hxc HB hx559_2
           replace hx559_3 := hxc HB hx559_3
           have HR559_3 := Aside0.mk hi559_3
           have HC559_3 := Aside0.mk hl559_3
           clear hi559_3 hl559_3
           replace p559 := eq_true p559
           replace q559 := eq_true q559
           have ea_ := Option.some.inj (hx553_3.symm.trans hx559_3)
           injection ea_ with ea_ en_ ec_
           subst ea_
           subst ec_
           clear en_
           have p560 : 0 ≤ x5_1 := odt
           have q560 : x5_1 < (l1.length : Int) := odt
           obtain ⟨ad560, A560_3, c560_3, e560, hx560_0, hx560_1, hx560_2, hx560_3, hl560_3, hi560_3⟩ := at_T77 HR1.out x5_1 p560 q560
           have hw560_3 := hx560_3
           have hw560_2 := hx560_2
           have hw560_1 := hx560_1
           have hw560_0 := hx560_0
           obtain rfl : ad554 = ad560 := (by injection e560)
           replace hx560_0 := hxc HB hx560_0
           replace hx560_1 := hxc HB hx560_1
           replace hx560_2 := hxc HB hx560_2
           replace hx560_3 := hxc HB hx560_3
           have HR560_3 := Aside0.mk hi560_3
           have HC560_3 := Aside0.mk hl560_3
           clear hi560_3 hl560_3
           replace p560 := eq_true p560
           replace q560 := eq_true q560
           have ea_ := Option.some.inj (hx554_3.symm.trans hx560_3)
           injection ea_ with ea_ en_ ec_
           subst ea_
           subst ec_
           clear en_
           refine start_ (n := 51) (S := fun w' => w'.cell? (ad553.add ((x5_1).toNat * 4)) = some (.string ((rd_T77 l0 x5_1).f0)) ∧ w'.cell? ⟨(ad553.add ((x5_1).toNat * 4)).block, (ad553.add ((x5_1).toNat * 4)).off + 1, none⟩ = some (.int .i64 ((rd_T77 l0 x5_1).f1)) ∧ w'.cell? ⟨(ad553.add ((x5_1).toNat * 4)).block, (ad553.add ((x5_1).toNat * 4)).off + 2, none⟩ = some (.int .i64 ((rd_T77 l0 x5_1).f2)) ∧ w'.cell? ⟨(ad553.add ((x5_1).toNat * 4)).block, (ad553.add ((x5_1).toNat * 4)).off + 3, none⟩ = some (.slice A553_3 ((rd_T77 l0 x5_1).f3).length c553_3) ∧ w'.cell? (ad554.add ((x5_1).toNat * 4)) = some (.string ((rd_T77 l1 x5_1).f0)) ∧ w'.cell? ⟨(ad554.add ((x5_1).toNat * 4)).block, (ad554.add ((x5_1).toNat * 4)).off + 1, none⟩ = some (.int .i64 ((rd_T77 l1 x5_1).f1)) ∧ w'.cell? ⟨(ad554.add ((x5_1).toNat * 4)).block, (ad554.add ((x5_1).toNat * 4)).off + 2, none⟩ = some (.int .i64 ((rd_T77 l1 x5_1).f2)) ∧ w'.cell? ⟨(ad554.add ((x5_1).toNat * 4)).block, (ad554.add ((x5_1).toNat * 4)).off + 3, none⟩ = some (.slice A554_3 ((rd_T77 l1 x5_1).f3).length c554_3) ∧ w'.cell? (ad553.add ((x5_1).toNat * 4)) = some (.string ((rd_T77 l0 x5_1).f0)) ∧ w'.cell? ⟨(ad553.add ((x5_1).toNat * 4)).block, (ad553.add ((x5_1).toNat * 4)).off + 1, none⟩ = some (.int .i64 ((rd_T77 l0 x5_1).f1)) ∧ w'.cell? ⟨(ad553.add ((x5_1).toNat * 4)).block, (ad553.add ((x5_1).toNat * 4)).off + 2, none⟩ = some (.int .i64 ((rd_T77 l0 x5_1).f2)) ∧ w'.cell? ⟨(ad553.add ((x5_1).toNat * 4)).block, (ad553.add ((x5_1).toNat * 4)).off + 3, none⟩ = some (.slice A553_3 ((rd_T77 l0 x5_1).f3).length c553_3) ∧ w'.cell? (ad554.add ((x5_1).toNat * 4)) = some (.string ((rd_T77 l1 x5_1).f0)) ∧ w'.cell? ⟨(ad554.add ((x5_1).toNat * 4)).block, (ad554.add ((x5_1).toNat * 4)).off + 1, none⟩ = some (.int .i64 ((rd_T77 l1 x5_1).f1)) ∧ w'.cell? ⟨(ad554.add ((x5_1).toNat * 4)).block, (ad554.add ((x5_1).toNat * 4)).off + 2, none⟩ = some (.int .i64 ((rd_T77 l1 x5_1).f2)) ∧ w'.cell? ⟨(ad554.add ((x5_1).toNat * 4)).block, (ad554.add ((x5_1).toNat * 4)).off + 3, none⟩ = some (.slice A554_3 ((rd_T77 l1 x5_1).f3).length c554_3) ∧ w'.cell? (ad553.add ((x5_1).toNat * 4)) = some (.string ((rd_T77 l0 x5_1).f0)) ∧ w'.cell? ⟨(ad553.add ((x5_1).toNat * 4)).block, (ad553.add ((x5_1).toNat * 4)).off + 1, none⟩ = some (.int .i64 ((rd_T77 l0 x5_1).f1)) ∧ w'.cell? ⟨(ad553.add ((x5_1).toNat * 4)).block, (ad553.add ((x5_1).toNat * 4)).off + 2, none⟩ = some (.int .i64 ((rd_T77 l0 x5_1).f2)) ∧ w'.cell? ⟨(ad553.add ((x5_1).toNat * 4)).block, (ad553.add ((x5_1).toNat * 4)).off + 3, none⟩ = some (.slice A553_3 ((rd_T77 l0 x5_1).f3).length c553_3) ∧ w'.cell? (ad554.add ((x5_1).toNat * 4)) = some (.string ((rd_T77 l1 x5_1).f0)) ∧ w'.cell? ⟨(ad554.add ((x5_1).toNat * 4)).block, (ad554.add ((x5_1).toNat * 4)).off + 1, none⟩ = some (.int .i64 ((rd_T77 l1 x5_1).f1)) ∧ w'.cell? ⟨(ad554.add ((x5_1).toNat * 4)).block, (ad554.add ((x5_1).toNat * 4)).off + 2, none⟩ = some (.int .i64 ((rd_T77 l1 x5_1).f2)) ∧ w'.cell? ⟨(ad554.add ((x5_1).toNat * 4)).block, (ad554.add ((x5_1).toNat * 4)).off + 3, none⟩ = some (.slice A554_3 ((rd_T77 l1 x5_1).f3).length c554_3) ∧ w'.cell? (ad553.add ((x5_1).toNat * 4)) = some (.string ((rd_T77 l0 x5_1).f0)) ∧ w'.cell? ⟨(ad553.add ((x5_1).toNat * 4)).block, (ad553.add ((x5_1).toNat * 4)).off + 1, none⟩ = some (.int .i64 ((rd_T77 l0 x5_1).f1)) ∧ w'.cell? ⟨(ad553.add ((x5_1).toNat * 4)).block, (ad553.add ((x5_1).toNat * 4)).off + 2, none⟩ = some (.int .i64 ((rd_T77 l0 x5_1).f2)) ∧ w'.cell? ⟨(ad553.add ((x5_1).toNat * 4)).block, (ad553.add ((x5_1).toNat * 4)).off + 3, none⟩ = some (.slice A553_3 ((rd_T77 l0 x5_1).f3).length c553_3) ∧ w'.cell? (ad554.add ((x5_1).toNat * 4)) = some (.string ((rd_T77 l1 x5_1).f0)) ∧ w'.cell? ⟨(ad554.add ((x5_1).toNat * 4)).block, (ad554.add ((x5_1).toNat * 4)).off + 1, none⟩ = some (.int .i64 ((rd_T77 l1 x5_1).f1)) ∧ w'.cell? ⟨(ad554.add ((x5_1).toNat * 4)).block, (ad554.add ((x5_1).toNat * 4)).off + 2, none⟩ = some (.int .i64 ((rd_T77 l1 x5_1).f2)) ∧ w'.cell? ⟨(ad554.add ((x5_1).toNat * 4)).block, (ad554.add ((x5_1).toNat * 4)).off + 3, none⟩ = some (.slice A554_3 ((rd_T77 l1 x5_1).f3).length c554_3)) (ds := []) #[false, false, false, false, false, false, false, false, false, false, false, false, false, false, false, false, false, false, false, false, false, false, false, false, false, false, false, false, false, false, false, false, false, false, false, false, false, false, false, false, false, false, false, false, false, false, false, false, false, false, false] (by kernel_rfl) rfl rfl ⟨((HB.out.cell (World.block_lt_of_cell? w _ hw553_0)).trans hw553_0), ((HB.out.cell (World.block_lt_of_cell? w _ hw553_1)).trans hw553_1), ((HB.out.cell (World.block_lt_of_cell? w _ hw553_2)).trans hw553_2), ((HB.out.cell (World.block_lt_of_cell? w _ hw553_3)).trans hw553_3), ((HB.out.cell (World.block_lt_of_cell? w _ hw554_0)).trans hw554_0), ((HB.out.cell (World.block_lt_of_cell? w _ hw554_1)).trans hw554_1), ((HB.out.cell (World.block_lt_of_cell? w _ hw554_2)).trans hw554_2), ((HB.out.cell (World.block_lt_of_cell? w _ hw554_3)).trans hw554_3), ((HB.out.cell (World.block_lt_of_cell? w _ hw555_0)).trans hw555_0), ((HB.out.cell (World.block_lt_of_cell? w _ hw555_1)).trans hw555_1), ((HB.out.cell (World.block_lt_of_cell? w _ hw555_2)).trans hw555_2), ((HB.out.cell (World.block_lt_of_cell? w _ hw555_3)).trans hw555_3), ((HB.out.cell (World.block_lt_of_cell? w _ hw556_0)).trans hw556_0), ((HB.out.cell (World.block_lt_of_cell? w _ hw556_1)).trans hw556_1), ((HB.out.cell (World.block_lt_of_cell? w _ hw556_2)).trans hw556_2), ((HB.out.cell (World.block_lt_of_cell? w _ hw556_3)).trans hw556_3), ((HB.out.cell (World.block_lt_of_cell? w _ hw557_0)).trans hw557_0), ((HB.out.cell (World.block_lt_of_cell? w _ hw557_1)).trans hw557_1), ((HB.out.cell (World.block_lt_of_cell? w _ hw557_2)).trans hw557_2), ((HB.out.cell (World.block_lt_of_cell? w _ hw557_3)).trans hw557_3), ((HB.out.cell (World.block_lt_of_cell? w _ hw558_0)).trans hw558_0), ((HB.out.cell (World.block_lt_of_cell? w _ hw558_1)).trans hw558_1), ((HB.out.cell (World.block_lt_of_cell? w _ hw558_2)).trans hw558_2), ((HB.out.cell (World.block_lt_of_cell? w _ hw558_3)).trans hw558_3), ((HB.out.cell (World.block_lt_of_cell? w _ hw559_0)).trans hw559_0), ((HB.out.cell (World.block_lt_of_cell? w _ hw559_1)).trans hw559_1), ((HB.out.cell (World.block_lt_of_cell? w _ hw559_2)).trans hw559_2), ((HB.out.cell (World.block_lt_of_cell? w _ hw559_3)).trans hw559_3), ((HB.out.cell (World.block_lt_of_cell? w _ hw560_0)).trans hw560_0), ((HB.out.cell (World.block_lt_of_cell? w _ hw560_1)).trans hw560_1), ((HB.out.cell (World.block_lt_of_cell? w _ hw560_2)).trans hw560_2), ((HB.out.cell (World.block_lt_of_cell? w _ hw560_3)).trans hw560_3)⟩ (fun hHeld => ?_); refine with_tabW q4_SameAttrs.tab6 q4_SameAttrs.bits6 (fun HT_ HW_ => ?_)
           generalize wr.drew = w13 at HB HR553_3 HR554_3 HR555_3 HR556_3 HR557_3 HR558_3 HR559_3 HR560_3 hx553_0 hx553_1 hx553_2 hx553_3 hx554_0 hx554_1 hx554_2 hx554_3 hx555_0 hx555_1 hx555_2 hx555_3 hx556_0 hx556_1 hx556_2 hx556_3 hx557_0 hx557_1 hx557_2 hx557_3 hx558_0 hx558_1 hx558_2 hx558_3 hx559_0 hx559_1 hx559_2 hx559_3 hx560_0 hx560_1 hx560_2 hx560_3 hHeld ⊢
           refine pu 0 17 (bits 51 0x1) HT_ (h := ?_)
           refine pu 1 18 (bits 51 0x3) HT_ (h := ?_)
           refine pu 2 19 (bits 51 0x7) HT_ (h := ?_)
           refine pu 3 20 (bits 51 0xf) HT_ (h := ?_)
           refine pu 5 22 (bits 51 0x2f) HT_ (h := ?_)
           refine pu 6 23 (bits 51 0x6f) HT_ (h := ?_)
           refine pu 7 24 (bits 51 0xef) HT_ (h := ?_)
           refine pu 8 25 (bits 51 0x1ef) HT_ (h := ?_)
           refine tk 4 21 (bits 51 0x1ff) HT_ HW_ hHeld (hy := by rintro w' ⟨s0, s1, s2, s3, s4, s5, s6, s7, s8, s9, s10, s11, s12, s13, s14, s15, s16, s17, s18, s19, s20, s21, s22, s23, s24, s25, s26, s27, s28, s29, s30, s31⟩; go_simp; with_reducible rfl) (h := ?_)
           refine tk 9 26 (bits 51 0x3ff) HT_ HW_ hHeld (hy := by rintro w' ⟨s0, s1, s2, s3, s4, s5, s6, s7, s8, s9, s10, s11, s12, s13, s14, s15, s16, s17, s18, s19, s20, s21, s22, s23, s24, s25, s26, s27, s28, s29, s30, s31⟩; go_simp; with_reducible rfl) (h := ?_)
           refine pu 10 27 (bits 51 0x7ff) HT_ (h := ?_)
           refine pu 11 28 (bits 51 0xfff) HT_ (h := ?_)
           refine pu 12 29 (bits 51 0x1fff) HT_ (h := ?_)
           refine pu 13 30 (bits 51 0x3fff) HT_ (h := ?_)
           refine pu 14 31 (bits 51 0x7fff) HT_ (h := ?_)
           refine pu 15 32 (bits 51 0xffff) HT_ (h := ?_)
           refine pu 17 34 (bits 51 0x2ffff) HT_ (h := ?_)
           refine pu 18 35 (bits 51 0x6ffff) HT_ (h := ?_)
           refine pu 19 36 (bits 51 0xeffff) HT_ (h := ?_)
           refine pu 20 37 (bits 51 0x1effff) HT_ (h := ?_)
           refine tk 16 33 (bits 51 0x1fffff) HT_ HW_ hHeld (hy := by rintro w' ⟨s0, s1, s2, s3, s4, s5, s6, s7, s8, s9, s10, s11, s12, s13, s14, s15, s16, s17, s18, s19, s20, s21, s22, s23, s24, s25, s26, s27, s28, s29, s30, s31⟩; go_simp; with_reducible rfl) (h := ?_)
           refine tk 21 38 (bits 51 0x3fffff) HT_ HW_ hHeld (hy := by rintro w' ⟨s0, s1, s2, s3, s4, s5, s6, s7, s8, s9, s10, s11, s12, s13, s14, s15, s16, s17, s18, s19, s20, s21, s22, s23, s24, s25, s26, s27, s28, s29, s30, s31⟩; go_simp; with_reducible rfl) (h := ?_)
           refine pu 22 39 (bits 51 0x7fffff) HT_ (h := ?_)
           refine pu 23 40 (bits 51 0xffffff) HT_ (h := ?_)
           refine pu 24 41 (bits 51 0x1ffffff) HT_ (h := ?_)
           refine pu 25 42 (bits 51 0x3ffffff) HT_ (h := ?_)
           refine pu 26 43 (bits 51 0x7ffffff) HT_ (h := ?_)
           refine pu 27 44 (bits 51 0xfffffff) HT_ (h := ?_)
           refine pu 28 45 (bits 51 0x1fffffff) HT_ (h := ?_)
           refine pu 30 47 (bits 51 0x5fffffff) HT_ (h := ?_)
           refine pu 31 48 (bits 51 0xdfffffff) HT_ (h := ?_)
           refine pu 32 49 (bits 51 0x1dfffffff) HT_ (h := ?_)
           refine pu 33 50 (bits 51 0x3dfffffff) HT_ (h := ?_)
           refine tk 29 46 (bits 51 0x3ffffffff) HT_ HW_ hHeld (hy := by rintro w' ⟨s0, s1, s2, s3, s4, s5, s6, s7, s8, s9, s10, s11, s12, s13, s14, s15, s16, s17, s18, s19, s20, s21, s22, s23, s24, s25, s26, s27, s28, s29, s30, s31⟩; go_simp; with_reducible rfl) (h := ?_)
           refine tk 34 51 (bits 51 0x7ffffffff) HT_ HW_ hHeld (hy := by rintro w' ⟨s0, s1, s2, s3, s4, s5, s6, s7, s8, s9, s10, s11, s12, s13, s14, s15, s16, s17, s18, s19, s20, s21, s22, s23, s24, s25, s26, s27, s28, s29, s30, s31⟩; go_simp; with_reducible rfl) (h := ?_)
           refine pu 35 52 (bits 51 0xfffffffff) HT_ (h := ?_)
           refine pu 36 53 (bits 51 0x1fffffffff) HT_ (h := ?_)
           refine pu 37 54 (bits 51 0x3fffffffff) HT_ (h := ?_)
           refine pu 38 55 (bits 51 0x7fffffffff) HT_ (h := ?_)
           refine pu 39 56 (bits 51 0xffffffffff) HT_ (h := ?_)
           refine pu 40 57 (bits 51 0x1ffffffffff) HT_ (h := ?_)
           refine pu 41 58 (bits 51 0x3ffffffffff) HT_ (h := ?_)
           refine pu 43 60 (bits 51 0xbffffffffff) HT_ (h := ?_)
           refine pu 44 61 (bits 51 0x1bffffffffff) HT_ (h := ?_)
           refine pu 45 62 (bits 51 0x3bffffffffff) HT_ (h := ?_)
           refine pu 46 63 (bits 51 0x7bffffffffff) HT_ (h := ?_)
           refine tk 42 59 (bits 51 0x7fffffffffff) HT_ HW_ hHeld (hy := by rintro w' ⟨s0, s1, s2, s3, s4, s5, s6, s7, s8, s9, s10, s11, s12, s13, s14, s15, s16, s17, s18, s19, s20, s21, s22, s23, s24, s25, s26, s27, s28, s29, s30, s31⟩; go_simp; with_reducible rfl) (h := ?_)
           refine tk 47 64 (bits 51 0xffffffffffff) HT_ HW_ hHeld (hy := by rintro w' ⟨s0, s1, s2, s3, s4, s5, s6, s7, s8, s9, s10, s11, s12, s13, s14, s15, s16, s17, s18, s19, s20, s21, s22, s23, s24, s25, s26, s27, s28, s29, s30, s31⟩; go_simp; with_reducible rfl) (h := ?_)
           refine one_ (i := 48) (N := some 65) #[true, true, true, true, true, true, true, true, true, true, true, true, true, true, true, true, true, true, true, true, true, true, true, true, true, true, true, true, true, true, true, true, true, true, true, true, true, true, true, true, true, true, true, true, true, true, true, true, true, false, false] rfl rfl (one_of HT_.out (by kernel_rfl)) (by decide) (fun K hK => ?_)
           refine goes_ Try.func52 (by kernel_rfl) rfl #[.slice A553_3 ((rd_T77 l0 x5_1).f3).length c553_3, .slice A554_3 ((rd_T77 l1 x5_1).f3).length c554_3] (by rfl) rfl rfl (by (try simp only [List.map_toArray, List.map_cons, List.map_nil]); first | done | rfl | (simp only [List.length_drop, List.length_take]; rfl)) ?_
           with_reducible refine (q4_Strings.calls k1 _ _ ((rd_T77 l0 x5_1).f3) _ _ ((rd_T77 l1 x5_1).f3) false _ ?side1 ?side2 ?side3 ?side4 A10.out).mono ?_
           (case side1 => exact cb HR559_3 HB)
           (case side2 => exact HC559_3.out)
           (case side3 => exact cb HR560_3 HB)
           (case side4 => exact HC560_3.out)
           rintro e w' ⟨rfl, ⟨nd, rfl⟩⟩
           refine ⟨_, rfl, ?_⟩
           refine hK.out _ _ ⟨((HB.out.cell (World.block_lt_of_cell? w _ hw553_0)).trans hw553_0), ((HB.out.cell (World.block_lt_of_cell? w _ hw553_1)).trans hw553_1), ((HB.out.cell (World.block_lt_of_cell? w _ hw553_2)).trans hw553_2), ((HB.out.cell (World.block_lt_of_cell? w _ hw553_3)).trans hw553_3), ((HB.out.cell (World.block_lt_of_cell? w _ hw554_0)).trans hw554_0), ((HB.out.cell (World.block_lt_of_cell? w _ hw554_1)).trans hw554_1), ((HB.out.cell (World.block_lt_of_cell? w _ hw554_2)).trans hw554_2), ((HB.out.cell (World.block_lt_of_cell? w _ hw554_3)).trans hw554_3), ((HB.out.cell (World.block_lt_of_cell? w _ hw555_0)).trans hw555_0), ((HB.out.cell (World.block_lt_of_cell? w _ hw555_1)).trans hw555_1), ((HB.out.cell (World.block_lt_of_cell? w _ hw555_2)).trans hw555_2), ((HB.out.cell (World.block_lt_of_cell? w _ hw555_3)).trans hw555_3), ((HB.out.cell (World.block_lt_of_cell? w _ hw556_0)).trans hw556_0), ((HB.out.cell (World.block_lt_of_cell? w _ hw556_1)).trans hw556_1), ((HB.out.cell (World.block_lt_of_cell? w _ hw556_2)).trans hw556_2), ((HB.out.cell (World.block_lt_of_cell? w _ hw556_3)).trans hw556_3), ((HB.out.cell (World.block_lt_of_cell? w _ hw557_0)).trans hw557_0), ((HB.out.cell (World.block_lt_of_cell? w _ hw557_1)).trans hw557_1), ((HB.out.cell (World.block_lt_of_cell? w _ hw557_2)).trans hw557_2), ((HB.out.cell (World.block_lt_of_cell? w _ hw557_3)).trans hw557_3), ((HB.out.cell (World.block_lt_of_cell? w _ hw558_0)).trans hw558_0), ((HB.out.cell (World.block_lt_of_cell? w _ hw558_1)).trans hw558_1), ((HB.out.cell (World.block_lt_of_cell? w _ hw558_2)).trans hw558_2), ((HB.out.cell (World.block_lt_of_cell? w _ hw558_3)).trans hw558_3), ((HB.out.cell (World.block_lt_of_cell? w _ hw559_0)).trans hw559_0), ((HB.out.cell (World.block_lt_of_cell? w _ hw559_1)).trans hw559_1), ((HB.out.cell (World.block_lt_of_cell? w _ hw559_2)).trans hw559_2), ((HB.out.cell (World.block_lt_of_cell? w _ hw559_3)).trans hw559_3), ((HB.out.cell (World.block_lt_of_cell? w _ hw560_0)).trans hw560_0), ((HB.out.cell (World.block_lt_of_cell? w _ hw560_1)).trans hw560_1), ((HB.out.cell (World.block_lt_of_cell? w _ hw560_2)).trans hw560_2), ((HB.out.cell (World.block_lt_of_cell? w _ hw560_3)).trans hw560_3)⟩ (fun hHeld => ?_)
           clear hK K
           refine norm_ (a' := ?_) ?_ ?_
           rotate_left
           ·show Act.put _ (some 65) _ = _
            simp only [Act.put, List.setIfInBounds_toArray, List.set_cons_zero, List.set_cons_succ, i64_w, i32_w]
            rfl
           refine pu 49 66 (bits 51 0x3ffffffffffff) HT_ (h := ?_)
           refine pu 50 67 (bits 51 0x7ffffffffffff) HT_ (h := ?_)
           refine done_ (done_of HT_.out (by kernel_rfl)) ?_
           try go_wp2
           go_ret
           exact ⟨erf, bb HB⟩
         ·rw [if_neg c9] at H
          have c9b0 : (((rd_T77 l0 x5_1).f2) == ((rd_T77 l1 x5_1).f2)) = false := beq_eq_false_iff_ne.mpr c9
          have c9b1 : (((rd_T77 l0 x5_1).f2) != ((rd_T77 l1 x5_1).f2)) = true := bne_iff_ne.mpr c9
          obtain rfl := Option.some.inj H
          try go_wp2
          replace HB := Aside0.mk (below_drew1 HB.out)
          have p553 : 0 ≤ x5_1 := odt
          have q553 : x5_1 < (l0.length : Int) := odt
          obtain ⟨ad553, A553_3, c553_3, e553, hx553_0, hx553_1, hx553_2, hx553_3, hl553_3, hi553_3⟩ := at_T77 HR0.out x5_1 p553 q553
          have hw553_3 := hx553_3
          have hw553_2 := hx553_2
          have hw553_1 := hx553_1
          have hw553_0 := hx553_0
          cases e553
          replace hx553_0 := hxc HB hx553_0
          replace hx553_1 := hxc HB hx553_1
          replace hx553_2 := hxc HB hx553_2
          replace hx553_3 := hxc HB hx553_3
          have HR553_3 := Aside0.mk hi553_3
          have HC553_3 := Aside0.mk hl553_3
          clear hi553_3 hl553_3
          replace p553 := eq_true p553
          replace q553 := eq_true q553
          have p554 : 0 ≤ x5_1 := odt
          have q554 : x5_1 < (l1.length : Int) := odt
          obtain ⟨ad554, A554_3, c554_3, e554, hx554_0, hx554_1, hx554_2, hx554_3, hl554_3, hi554_3⟩ := at_T77 HR1.out x5_1 p554 q554
          have hw554_3 := hx554_3
          have hw554_2 := hx554_2
          have hw554_1 := hx554_1
          have hw554_0 := hx554_0
          cases e554
          replace hx554_0 := hxc HB hx554_0
          replace hx554_1 := hxc HB hx554_1
          replace hx554_2 := hxc HB hx554_2
          replace hx554_3 := hxc HB hx554_3
          have HR554_3 := Aside0.mk hi554_3
          have HC554_3 := Aside0.mk hl554_3
          clear hi554_3 hl554_3
          replace p554 := eq_true p554
          replace q554 := eq_true q554
          have p555 : 0 ≤ x5_1 := odt
          have q555 : x5_1 < (l0.length : Int) := odt
          obtain ⟨ad555, A555_3, c555_3, e555, hx555_0, hx555_1, hx555_2, hx555_3, hl555_3, hi555_3⟩ := at_T77 HR0.out x5_1 p555 q555
          have hw555_3 := hx555_3
          have hw555_2 := hx555_2
          have hw555_1 := hx555_1
          have hw555_0 := hx555_0
          obtain rfl : ad553 = ad555 := (by injection e555)
          replace hx555_0 := hxc HB hx555_0
          replace hx555_1 := hxc HB hx555_1
          replace hx555_2 := hxc HB hx555_2
          replace hx555_3 := hxc HB hx555_3
          have HR555_3 := Aside0.mk hi555_3
          have HC555_3 := Aside0.mk hl555_3
          clear hi555_3 hl555_3
          replace p555 := eq_true p555
          replace q555 := eq_true q555
          have ea_ := Option.some.inj (hx553_3.symm.trans hx555_3)
          injection ea_ with ea_ en_ ec_
          subst ea_
          subst ec_
          clear en_
          have p556 : 0 ≤ x5_1 := odt
          have q556 : x5_1 < (l1.length : Int) := odt
          obtain ⟨ad556, A556_3, c556_3, e556, hx556_0, hx556_1, hx556_2, hx556_3, hl556_3, hi556_3⟩ := at_T77 HR1.out x5_1 p556 q556
          have hw556_3 := hx556_3
          have hw556_2 := hx556_2
          have hw556_1 := hx556_1
          have hw556_0 := hx556_0
          obtain rfl : ad554 = ad556 := (by injection e556)
          replace hx556_0 := hxc HB hx556_0
          replace hx556_1 := hxc HB hx556_1
          replace hx556_2 := hxc HB hx556_2
          replace hx556_3 := hxc HB hx556_3
          have HR556_3 := Aside0.mk hi556_3
          have HC556_3 := Aside0.mk hl556_3
          clear hi556_3 hl556_3
          replace p556 := eq_true p556
          replace q556 := eq_true q556
          have ea_ := Option.some.inj (hx554_3.symm.trans hx556_3)
          injection ea_ with ea_ en_ ec_
          subst ea_
          subst ec_
          clear en_
          have p557 : 0 ≤ x5_1 := odt
          have q557 : x5_1 < (l0.length : Int) := odt
          obtain ⟨ad557, A557_3, c557_3, e557, hx557_0, hx557_1, hx557_2, hx557_3, hl557_3, hi557_3⟩ := at_T77 HR0.out x5_1 p557 q557
          have hw557_3 := hx557_3
          have hw557_2 := hx557_2
          have hw557_1 := hx557_1
          have hw557_0 := hx557_0
          obtain rfl : ad553 = ad557 := (by injection e557)
          replace hx557_0 := hxc HB hx557_0
          replace hx557_1 := hxc HB hx557_1
          replace hx557_2 := hxc HB hx557_2
          replace hx557_3 := hxc HB hx557_3
          have HR557_3 := Aside0.mk hi557_3
          have HC557_3 := Aside0.mk hl557_3
          clear hi557_3 hl557_3
          replace p557 := eq_true p557
          replace q557 := eq_true q557
          have ea_ := Option.some.inj (hx553_3.symm.trans hx557_3)
          injection ea_ with ea_ en_ ec_
          subst ea_
          subst ec_
          clear en_
          have p558 : 0 ≤ x5_1 := odt
          have q558 : x5_1 < (l1.length : Int) := odt
          obtain ⟨ad558, A558_3, c558_3, e558, hx558_0, hx558_1, hx558_2, hx558_3, hl558_3, hi558_3⟩ := at_T77 HR1.out x5_1 p558 q558
          have hw558_3 := hx558_3
          have hw558_2 := hx558_2
          have hw558_1 := hx558_1
          have hw558_0 := hx558_0
          obtain rfl : ad554 = ad558 := (by injection e558)
          replace hx558_0 := hxc HB hx558_0
          replace hx558_1 := hxc HB hx558_1
          replace hx558_2 := hxc HB hx558_2
          replace hx558_3 := hxc HB hx558_3
          have HR558_3 := Aside0.mk hi558_3
          have HC558_3 := Aside0.mk hl558_3
          clear hi558_3 hl558_3
          replace p558 := eq_true p558
          replace q558 := eq_true q558
          have ea_ := Option.some.inj (hx554_3.symm.trans hx558_3)
          injection ea_ with ea_ en_ ec_
          subst ea_
          subst ec_
          clear en_
          refine start_ (n := 51) (S := fun w' => w'.cell? (ad553.add ((x5_1).toNat * 4)) = some (.string ((rd_T77 l0 x5_1).f0)) ∧ w'.cell? ⟨(ad553.add ((x5_1).toNat * 4)).block, (ad553.add ((x5_1).toNat * 4)).off + 1, none⟩ = some (.int .i64 ((rd_T77 l0 x5_1).f1)) ∧ w'.cell? ⟨(ad553.add ((x5_1).toNat * 4)).block, (ad553.add ((x5_1).toNat * 4)).off + 2, none⟩ = some (.int .i64 ((rd_T77 l0 x5_1).f2)) ∧ w'.cell? ⟨(ad553.add ((x5_1).toNat * 4)).block, (ad553.add ((x5_1).toNat * 4)).off + 3, none⟩ = some (.slice A553_3 ((rd_T77 l0 x5_1).f3).length c553_3) ∧ w'.cell? (ad554.add ((x5_1).toNat * 4)) = some (.string ((rd_T77 l1 x5_1).f0)) ∧ w'.cell? ⟨(ad554.add ((x5_1).toNat * 4)).block, (ad554.add ((x5_1).toNat * 4)).off + 1, none⟩ = some (.int .i64 ((rd_T77 l1 x5_1).f1)) ∧ w'.cell? ⟨(ad554.add ((x5_1).toNat * 4)).block, (ad554.add ((x5_1).toNat * 4)).off + 2, none⟩ = some (.int .i64 ((rd_T77 l1 x5_1).f2)) ∧ w'.cell? ⟨(ad554.add ((x5_1).toNat * 4)).block, (ad554.add ((x5_1).toNat * 4)).off + 3, none⟩ = some (.slice A554_3 ((rd_T77 l1 x5_1).f3).length c554_3) ∧ w'.cell? (ad553.add ((x5_1).toNat * 4)) = some (.string ((rd_T77 l0 x5_1).f0)) ∧ w'.cell? ⟨(ad553.add ((x5_1).toNat * 4)).block, (ad553.add ((x5_1).toNat * 4)).off + 1, none⟩ = some (.int .i64 ((rd_T77 l0 x5_1).f1)) ∧ w'.cell? ⟨(ad553.add ((x5_1).toNat * 4)).block, (ad553.add ((x5_1).toNat * 4)).off + 2, none⟩ = some (.int .i64 ((rd_T77 l0 x5_1).f2)) ∧ w'.cell? ⟨(ad553.add ((x5_1).toNat * 4)).block, (ad553.add ((x5_1).toNat * 4)).off + 3, none⟩ = some (.slice A553_3 ((rd_T77 l0 x5_1).f3).length c553_3) ∧ w'.cell? (ad554.add ((x5_1).toNat * 4)) = some (.string ((rd_T77 l1 x5_1).f0)) ∧ w'.cell? ⟨(ad554.add ((x5_1).toNat * 4)).block, (ad554.add ((x5_1).toNat * 4)).off + 1, none⟩ = some (.int .i64 ((rd_T77 l1 x5_1).f1)) ∧ w'.cell? ⟨(ad554.add ((x5_1).toNat * 4)).block, (ad554.add ((x5_1).toNat * 4)).off + 2, none⟩ = some (.int .i64 ((rd_T77 l1 x5_1).f2)) ∧ w'.cell? ⟨(ad554.add ((x5_1).toNat * 4)).block, (ad554.add ((x5_1).toNat * 4)).off + 3, none⟩ = some (.slice A554_3 ((rd_T77 l1 x5_1).f3).length c554_3) ∧ w'.cell? (ad553.add ((x5_1).toNat * 4)) = some (.string ((rd_T77 l0 x5_1).f0)) ∧ w'.cell? ⟨(ad553.add ((x5_1).toNat * 4)).block, (ad553.add ((x5_1).toNat * 4)).off + 1, none⟩ = some (.int .i64 ((rd_T77 l0 x5_1).f1)) ∧ w'.cell? ⟨(ad553.add ((x5_1).toNat * 4)).block, (ad553.add ((x5_1).toNat * 4)).off + 2, none⟩ = some (.int .i64 ((rd_T77 l0 x5_1).f2)) ∧ w'.cell? ⟨(ad553.add ((x5_1).toNat * 4)).block, (ad553.add ((x5_1).toNat * 4)).off + 3, none⟩ = some (.slice A553_3 ((rd_T77 l0 x5_1).f3).length c553_3) ∧ w'.cell? (ad554.add ((x5_1).toNat * 4)) = some (.string ((rd_T77 l1 x5_1).f0)) ∧ w'.cell? ⟨(ad554.add ((x5_1).toNat * 4)).block, (ad554.add ((x5_1).toNat * 4)).off + 1, none⟩ = some (.int .i64 ((rd_T77 l1 x5_1).f1)) ∧ w'.cell? ⟨(ad554.add ((x5_1).toNat * 4)).block, (ad554.add ((x5_1).toNat * 4)).off + 2, none⟩ = some (.int .i64 ((rd_T77 l1 x5_1).f2)) ∧ w'.cell? ⟨(ad554.add ((x5_1).toNat * 4)).block, (ad554.add ((x5_1).toNat * 4)).off + 3, none⟩ = some (.slice A554_3 ((rd_T77 l1 x5_1).f3).length c554_3)) (ds := []) #[false, false, false, false, false, false, false, false, false, false, false, false, false, false, false, false, false, false, false, false, false, false, false, false, false, false, false, false, false, false, false, false, false, false, false, false, false, false, false, false, false, false, false, false, false, false, false, false, false, false, false] (by kernel_rfl) rfl rfl ⟨((HB.out.cell (World.block_lt_of_cell? w _ hw553_0)).trans hw553_0), ((HB.out.cell (World.block_lt_of_cell? w _ hw553_1)).trans hw553_1), ((HB.out.cell (World.block_lt_of_cell? w _ hw553_2)).trans hw553_2), ((HB.out.cell (World.block_lt_of_cell? w _ hw553_3)).trans hw553_3), ((HB.out.cell (World.block_lt_of_cell? w _ hw554_0)).trans hw554_0), ((HB.out.cell (World.block_lt_of_cell? w _ hw554_1)).trans hw554_1), ((HB.out.cell (World.block_lt_of_cell? w _ hw554_2)).trans hw554_2), ((HB.out.cell (World.block_lt_of_cell? w _ hw554_3)).trans hw554_3), ((HB.out.cell (World.block_lt_of_cell? w _ hw555_0)).trans hw555_0), ((HB.out.cell (World.block_lt_of_cell? w _ hw555_1)).trans hw555_1), ((HB.out.cell (World.block_lt_of_cell? w _ hw555_2)).trans hw555_2), ((HB.out.cell (World.block_lt_of_cell? w _ hw555_3)).trans hw555_3), ((HB.out.cell (World.block_lt_of_cell? w _ hw556_0)).trans hw556_0), ((HB.out.cell (World.block_lt_of_cell? w _ hw556_1)).trans hw556_1), ((HB.out.cell (World.block_lt_of_cell? w _ hw556_2)).trans hw556_2), ((HB.out.cell (World.block_lt_of_cell? w _ hw556_3)).trans hw556_3), ((HB.out.cell (World.block_lt_of_cell? w _ hw557_0)).trans hw557_0), ((HB.out.cell (World.block_lt_of_cell? w _ hw557_1)).trans hw557_1), ((HB.out.cell (World.block_lt_of_cell? w _ hw557_2)).trans hw557_2), ((HB.out.cell (World.block_lt_of_cell? w _ hw557_3)).trans hw557_3), ((HB.out.cell (World.block_lt_of_cell? w _ hw558_0)).trans hw558_0), ((HB.out.cell (World.block_lt_of_cell? w _ hw558_1)).trans hw558_1), ((HB.out.cell (World.block_lt_of_cell? w _ hw558_2)).trans hw558_2), ((HB.out.cell (World.block_lt_of_cell? w _ hw558_3)).trans hw558_3)⟩ (fun hHeld => ?_); refine with_tabW q4_SameAttrs.tab6 q4_SameAttrs.bits6 (fun HT_ HW_ => ?_)
          generalize wr.drew = w14 at HB HR553_3 HR554_3 HR555_3 HR556_3 HR557_3 HR558_3 hx553_0 hx553_1 hx553_2 hx553_3 hx554_0 hx554_1 hx554_2 hx554_3 hx555_0 hx555_1 hx555_2 hx555_3 hx556_0 hx556_1 hx556_2 hx556_3 hx557_0 hx557_1 hx557_2 hx557_3 hx558_0 hx558_1 hx558_2 hx558_3 hHeld ⊢
          refine pu 0 17 (bits 51 0x1) HT_ (h := ?_)
          refine pu 1 18 (bits 51 0x3) HT_ (h := ?_)
          refine pu 2 19 (bits 51 0x7) HT_ (h := ?_)
          refine pu 3 20 (bits 51 0xf) HT_ (h := ?_)
          refine pu 5 22 (bits 51 0x2f) HT_ (h := ?_)
          refine pu 6 23 (bits 51 0x6f) HT_ (h := ?_)
          refine pu 7 24 (bits 51 0xef) HT_ (h := ?_)
          refine pu 8 25 (bits 51 0x1ef) HT_ (h := ?_)
          refine tk 4 21 (bits 51 0x1ff) HT_ HW_ hHeld (hy := by rintro w' ⟨s0, s1, s2, s3, s4, s5, s6, s7, s8, s9, s10, s11, s12, s13, s14, s15, s16, s17, s18, s19, s20, s21, s22, s23⟩; go_simp; with_reducible rfl) (h := ?_)
          refine tk 9 26 (bits 51 0x3ff) HT_ HW_ hHeld (hy := by rintro w' ⟨s0, s1, s2, s3, s4, s5, s6, s7, s8, s9, s10, s11, s12, s13, s14, s15, s16, s17, s18, s19, s20, s21, s22, s23⟩; go_simp; with_reducible rfl) (h := ?_)
          refine pu 10 27 (bits 51 0x7ff) HT_ (h := ?_)
          refine pu 11 28 (bits 51 0xfff) HT_ (h := ?_)
          refine pu 12 29 (bits 51 0x1fff) HT_ (h := ?_)
          refine pu 13 30 (bits 51 0x3fff) HT_ (h := ?_)
          refine pu 14 31 (bits 51 0x7fff) HT_ (h := ?_)
          refine pu 15 32 (bits 51 0xffff) HT_ (h := ?_)
          refine pu 17 34 (bits 51 0x2ffff) HT_ (h := ?_)
          refine pu 18 35 (bits 51 0x6ffff) HT_ (h := ?_)
          refine pu 19 36 (bits 51 0xeffff) HT_ (h := ?_)
          refine pu 20 37 (bits 51 0x1effff) HT_ (h := ?_)
          refine tk 16 33 (bits 51 0x1fffff) HT_ HW_ hHeld (hy := by rintro w' ⟨s0, s1, s2, s3, s4, s5, s6, s7, s8, s9, s10, s11, s12, s13, s14, s15, s16, s17, s18, s19, s20, s21, s22, s23⟩; go_simp; with_reducible rfl) (h := ?_)
          refine tk 21 38 (bits 51 0x3fffff) HT_ HW_ hHeld (hy := by rintro w' ⟨s0, s1, s2, s3, s4, s5, s6, s7, s8, s9, s10, s11, s12, s13, s14, s15, s16, s17, s18, s19, s20, s21, s22, s23⟩; go_simp; with_reducible rfl) (h := ?_)
          refine pu 22 39 (bits 51 0x7fffff) HT_ (h := ?_)
          refine pu 23 40 (bits 51 0xffffff) HT_ (h := ?_)
          refine pu 24 41 (bits 51 0x1ffffff) HT_ (h := ?_)
          refine pu 25 42 (bits 51 0x3ffffff) HT_ (h := ?_)
          refine pu 26 43 (bits 51 0x7ffffff) HT_ (h := ?_)
          refine pu 27 44 (bits 51 0xfffffff) HT_ (h := ?_)
          refine pu 28 45 (bits 51 0x1fffffff) HT_ (h := ?_)
          refine pu 30 47 (bits 51 0x5fffffff) HT_ (h := ?_)
          refine pu 31 48 (bits 51 0xdfffffff) HT_ (h := ?_)
          refine pu 32 49 (bits 51 0x1dfffffff) HT_ (h := ?_)
          refine pu 33 50 (bits 51 0x3dfffffff) HT_ (h := ?_)
          refine tk 29 46 (bits 51 0x3ffffffff) HT_ HW_ hHeld (hy := by rintro w' ⟨s0, s1, s2, s3, s4, s5, s6, s7, s8, s9, s10, s11, s12, s13, s14, s15, s16, s17, s18, s19, s20, s21, s22, s23⟩; go_simp; with_reducible rfl) (h := ?_)
          refine tk 34 51 (bits 51 0x7ffffffff) HT_ HW_ hHeld (hy := by rintro w' ⟨s0, s1, s2, s3, s4, s5, s6, s7, s8, s9, s10, s11, s12, s13, s14, s15, s16, s17, s18, s19, s20, s21, s22, s23⟩; go_simp; with_reducible rfl) (h := ?_)
          refine pu 35 52 (bits 51 0xfffffffff) HT_ (h := ?_)
          refine pu 36 53 (bits 51 0x1fffffffff) HT_ (h := ?_)
          refine pu 37 54 (bits 51 0x3fffffffff) HT_ (h := ?_)
          refine pn 38 55 (bits 51 0x7fffffffff) HT_ (h := ?_)
          refine pn 39 56 (bits 51 0xffffffffff) HT_ (h := ?_)
          refine pn 40 57 (bits 51 0x1ffffffffff) HT_ (h := ?_)
          refine pn 41 58 (bits 51 0x3ffffffffff) HT_ (h := ?_)
          refine pn 42 59 (bits 51 0x7ffffffffff) HT_ (h := ?_)
          refine pn 43 60 (bits 51 0xfffffffffff) HT_ (h := ?_)
          refine pn 44 61 (bits 51 0x1fffffffffff) HT_ (h := ?_)
          refine pn 45 62 (bits 51 0x3fffffffffff) HT_ (h := ?_)
          refine pn 46 63 (bits 51 0x7fffffffffff) HT_ (h := ?_)
          refine pn 47 64 (bits 51 0xffffffffffff) HT_ (h := ?_)
          refine pn 48 65 (bits 51 0x1ffffffffffff) HT_ (h := ?_)
          refine pn 49 66 (bits 51 0x3ffffffffffff) HT_ (h := ?_)
          refine pu 50 67 (bits 51 0x7ffffffffffff) HT_ (h := ?_)
          refine done_ (done_of HT_.out (by kernel_rfl)) ?_
          try go_wp2
          go_ret
          exact ⟨erf, bb HB⟩
        ·rw [if_neg c8] at H
         have c8b0 : (((rd_T77 l0 x5_1).f1) == ((rd_T77 l1 x5_1).f1)) = false := beq_eq_false_iff_ne.mpr c8
         have c8b1 : (((rd_T77 l0 x5_1).f1) != ((rd_T77 l1 x5_1).f1)) = true := bne_iff_ne.mpr c8
         obtain rfl := Option.some.inj H
         try go_wp2
         replace HB := Aside0.mk (below_drew1 HB.out)
         have p553 : 0 ≤ x5_1 := odt
         have q553 : x5_1 < (l0.length : Int) := odt
         obtain ⟨ad553, A553_3, c553_3, e553, hx553_0, hx553_1, hx553_2, hx553_3, hl553_3, hi553_3⟩ := at_T77 HR0.out x5_1 p553 q553
         have hw553_3 := hx553_3
         have hw553_2 := hx553_2
         have hw553_1 := hx553_1
         have hw553_0 := hx553_0
         cases e553
         replace hx553_0 := hxc HB hx553_0
         replace hx553_1 := hxc HB hx553_1
         replace hx553_2 := hxc HB hx553_2
         replace hx553_3 := hxc HB hx553_3
         have HR553_3 := Aside0.mk hi553_3
         have HC553_3 := Aside0.mk hl553_3
         clear hi553_3 hl553_3
         replace p553 := eq_true p553
         replace q553 := eq_true q553
         have p554 : 0 ≤ x5_1 := odt
         have q554 : x5_1 < (l1.length : Int) := odt
         obtain ⟨ad554, A554_3, c554_3, e554, hx554_0, hx554_1, hx554_2, hx554_3, hl554_3, hi554_3⟩ := at_T77 HR1.out x5_1 p554 q554
         have hw554_3 := hx554_3
         have hw554_2 := hx554_2
         have hw554_1 := hx554_1
         have hw554_0 := hx554_0
         cases e554
         replace hx554_0 := hxc HB hx554_0
         replace hx554_1 := hxc HB hx554_1
         replace hx554_2 := hxc HB hx554_2
         replace hx554_3 := hxc HB hx554_3
         have HR554_3 := Aside0.mk hi554_3
         have HC554_3 := Aside0.mk hl554_3
         clear hi554_3 hl554_3
         replace p554 := eq_true p554
         replace q554 := eq_true q554
         have p555 : 0 ≤ x5_1 := odt
         have q555 : x5_1 < (l0.length : Int) := odt
         obtain ⟨ad555, A555_3, c555_3, e555, hx555_0, hx555_1, hx555_2, hx555_3, hl555_3, hi555_3⟩ := at_T77 HR0.out x5_1 p555 q555
         have hw555_3 := hx555_3
         have hw555_2 := hx555_2
         have hw555_1 := hx555_1
         have hw555_0 := hx555_0
         obtain rfl : ad553 = ad555 := (by injection e555)
         replace hx555_0 := hxc HB hx555_0
         replace hx555_1 := hxc HB hx555_1
         replace hx555_2 := hxc HB hx555_2
         replace hx555_3 := hxc HB hx555_3
         have HR555_3 := Aside0.mk hi555_3
         have HC555_3 := Aside0.mk hl555_3
         clear hi555_3 hl555_3
         replace p555 := eq_true p555
         replace q555 := eq_true q555
         have ea_ := Option.some.inj (hx553_3.symm.trans hx555_3)
         injection ea_ with ea_ en_ ec_
         subst ea_
         subst ec_
         clear en_
         have p556 : 0 ≤ x5_1 := odt
         have q556 : x5_1 < (l1.length : Int) := odt
         obtain ⟨ad556, A556_3, c556_3, e556, hx556_0, hx556_1, hx556_2, hx556_3, hl556_3, hi556_3⟩ := at_T77 HR1.out x5_1 p556 q556
         have hw556_3 := hx556_3
         have hw556_2 := hx556_2
         have hw556_1 := hx556_1
         have hw556_0 := hx556_0
         obtain rfl : ad554 = ad556 := (by injection e556)
         replace hx556_0 := hxc HB hx556_0
         replace hx556_1 := hxc HB hx556_1
         replace hx556_2 := hxc HB hx556_2
         replace hx556_3 := hxc HB hx556_3
         have HR556_3 := Aside0.mk hi556_3
         have HC556_3 := Aside0.mk hl556_3
         clear hi556_3 hl556_3
         replace p556 := eq_true p556
         replace q556 := eq_true q556
         have ea_ := Option.some.inj (hx554_3.symm.trans hx556_3)
         injection ea_ with ea_ en_ ec_
         subst ea_
         subst ec_
         clear en_
         refine start_ (n := 51) (S := fun w' => w'.cell? (ad553.add ((x5_1).toNat * 4)) = some (.string ((rd_T77 l0 x5_1).f0)) ∧ w'.cell? ⟨(ad553.add ((x5_1).toNat * 4)).block, (ad553.add ((x5_1).toNat * 4)).off + 1, none⟩ = some (.int .i64 ((rd_T77 l0 x5_1).f1)) ∧ w'.cell? ⟨(ad553.add ((x5_1).toNat * 4)).block, (ad553.add ((x5_1).toNat * 4)).off + 2, none⟩ = some (.int .i64 ((rd_T77 l0 x5_1).f2)) ∧ w'.cell? ⟨(ad553.add ((x5_1).toNat * 4)).block, (ad553.add ((x5_1).toNat * 4)).off + 3, none⟩ = some (.slice A553_3 ((rd_T77 l0 x5_1).f3).length c553_3) ∧ w'.cell? (ad554.add ((x5_1).toNat * 4)) = some (.string ((rd_T77 l1 x5_1).f0)) ∧ w'.cell? ⟨(ad554.add ((x5_1).toNat * 4)).block, (ad554.add ((x5_1).toNat * 4)).off + 1, none⟩ = some (.int .i64 ((rd_T77 l1 x5_1).f1)) ∧ w'.cell? ⟨(ad554.add ((x5_1).toNat * 4)).block, (ad554.add ((x5_1).toNat * 4)).off + 2, none⟩ = some (.int .i64 ((rd_T77 l1 x5_1).f2)) ∧ w'.cell? ⟨(ad554.add ((x5_1).toNat * 4)).block, (ad554.add ((x5_1).toNat * 4)).off + 3, none⟩ = some (.slice A554_3 ((rd_T77 l1 x5_1).f3).length c554_3) ∧ w'.cell? (ad553.add ((x5_1).toNat * 4)) = some (.string ((rd_T77 l0 x5_1).f0)) ∧ w'.cell? ⟨(ad553.add ((x5_1).toNat * 4)).block, (ad553.add ((x5_1).toNat * 4)).off + 1, none⟩ = some (.int .i64 ((rd_T77 l0 x5_1).f1)) ∧ w'.cell? ⟨(ad553.add ((x5_1).toNat * 4)).block, (ad553.add ((x5_1).toNat * 4)).off + 2, none⟩ = some (.int .i64 ((rd_T77 l0 x5_1).f2)) ∧ w'.cell? ⟨(ad553.add ((x5_1).toNat * 4)).block, (ad553.add ((x5_1).toNat * 4)).off + 3, none⟩ = some (.slice A553_3 ((rd_T77 l0 x5_1).f3).length c553_3) ∧ w'.cell? (ad554.add ((x5_1).toNat * 4)) = some (.string ((rd_T77 l1 x5_1).f0)) ∧ w'.cell? ⟨(ad554.add ((x5_1).toNat * 4)).block, (ad554.add ((x5_1).toNat * 4)).off + 1, none⟩ = some (.int .i64 ((rd_T77 l1 x5_1).f1)) ∧ w'.cell? ⟨(ad554.add ((x5_1).toNat * 4)).block, (ad554.add ((x5_1).toNat * 4)).off + 2, none⟩ = some (.int .i64 ((rd_T77 l1 x5_1).f2)) ∧ w'.cell? ⟨(ad554.add ((x5_1).toNat * 4)).block, (ad554.add ((x5_1).toNat * 4)).off + 3, none⟩ = some (.slice A554_3 ((rd_T77 l1 x5_1).f3).length c554_3)) (ds := []) #[false, false, false, false, false, false, false, false, false, false, false, false, false, false, false, false, false, false, false, false, false, false, false, false, false, false, false, false, false, false, false, false, false, false, false, false, false, false, false, false, false, false, false, false, false, false, false, false, false, false, false] (by kernel_rfl) rfl rfl ⟨((HB.out.cell (World.block_lt_of_cell? w _ hw553_0)).trans hw553_0), ((HB.out.cell (World.block_lt_of_cell? w _ hw553_1)).trans hw553_1), ((HB.out.cell (World.block_lt_of_cell? w _ hw553_2)).trans hw553_2), ((HB.out.cell (World.block_lt_of_cell? w _ hw553_3)).trans hw553_3), ((HB.out.cell (World.block_lt_of_cell? w _ hw554_0)).trans hw554_0), ((HB.out.cell (World.block_lt_of_cell? w _ hw554_1)).trans hw554_1), ((HB.out.cell (World.block_lt_of_cell? w _ hw554_2)).trans hw554_2), ((HB.out.cell (World.block_lt_of_cell? w _ hw554_3)).trans hw554_3), ((HB.out.cell (World.block_lt_of_cell? w _ hw555_0)).trans hw555_0), ((HB.out.cell (World.block_lt_of_cell? w _ hw555_1)).trans hw555_1), ((HB.out.cell (World.block_lt_of_cell? w _ hw555_2)).trans hw555_2), ((HB.out.cell (World.block_lt_of_cell? w _ hw555_3)).trans hw555_3), ((HB.out.cell (World.block_lt_of_cell? w _ hw556_0)).trans hw556_0), ((HB.out.cell (World.block_lt_of_cell? w _ hw556_1)).trans hw556_1), ((HB.out.cell (World.block_lt_of_cell? w _ hw556_2)).trans hw556_2), ((HB.out.cell (World.block_lt_of_cell? w _ hw556_3)).trans hw556_3)⟩ (fun hHeld => ?_); refine with_tabW q4_SameAttrs.tab6 q4_SameAttrs.bits6 (fun HT_ HW_ => ?_)
         generalize wr.drew = w15 at HB HR553_3 HR554_3 HR555_3 HR556_3 hx553_0 hx553_1 hx553_2 hx553_3 hx554_0 hx554_1 hx554_2 hx554_3 hx555_0 hx555_1 hx555_2 hx555_3 hx556_0 hx556_1 hx556_2 hx556_3 hHeld ⊢
         refine pu 0 17 (bits 51 0x1) HT_ (h := ?_)
         refine pu 1 18 (bits 51 0x3) HT_ (h := ?_)
         refine pu 2 19 (bits 51 0x7) HT_ (h := ?_)
         refine pu 3 20 (bits 51 0xf) HT_ (h := ?_)
         refine pu 5 22 (bits 51 0x2f) HT_ (h := ?_)
         refine pu 6 23 (bits 51 0x6f) HT_ (h := ?_)
         refine pu 7 24 (bits 51 0xef) HT_ (h := ?_)
         refine pu 8 25 (bits 51 0x1ef) HT_ (h := ?_)
         refine tk 4 21 (bits 51 0x1ff) HT_ HW_ hHeld (hy := by rintro w' ⟨s0, s1, s2, s3, s4, s5, s6, s7, s8, s9, s10, s11, s12, s13, s14, s15⟩; go_simp; with_reducible rfl) (h := ?_)
         refine tk 9 26 (bits 51 0x3ff) HT_ HW_ hHeld (hy := by rintro w' ⟨s0, s1, s2, s3, s4, s5, s6, s7, s8, s9, s10, s11, s12, s13, s14, s15⟩; go_simp; with_reducible rfl) (h := ?_)
         refine pu 10 27 (bits 51 0x7ff) HT_ (h := ?_)
         refine pu 11 28 (bits 51 0xfff) HT_ (h := ?_)
         refine pu 12 29 (bits 51 0x1fff) HT_ (h := ?_)
         refine pu 13 30 (bits 51 0x3fff) HT_ (h := ?_)
         refine pu 14 31 (bits 51 0x7fff) HT_ (h := ?_)
         refine pu 15 32 (bits 51 0xffff) HT_ (h := ?_)
         refine pu 17 34 (bits 51 0x2ffff) HT_ (h := ?_)
         refine pu 18 35 (bits 51 0x6ffff) HT_ (h := ?_)
         refine pu 19 36 (bits 51 0xeffff) HT_ (h := ?_)
         refine pu 20 37 (bits 51 0x1effff) HT_ (h := ?_)
         refine tk 16 33 (bits 51 0x1fffff) HT_ HW_ hHeld (hy := by rintro w' ⟨s0, s1, s2, s3, s4, s5, s6, s7, s8, s9, s10, s11, s12, s13, s14, s15⟩; go_simp; with_reducible rfl) (h := ?_)
         refine tk 21 38 (bits 51 0x3fffff) HT_ HW_ hHeld (hy := by rintro w' ⟨s0, s1, s2, s3, s4, s5, s6, s7, s8, s9, s10, s11, s12, s13, s14, s15⟩; go_simp; with_reducible rfl) (h := ?_)
         refine pu 22 39 (bits 51 0x7fffff) HT_ (h := ?_)
         refine pu 23 40 (bits 51 0xffffff) HT_ (h := ?_)
         refine pu 24 41 (bits 51 0x1ffffff) HT_ (h := ?_)
         refine pn 25 42 (bits 51 0x3ffffff) HT_ (h := ?_)
         refine pn 26 43 (bits 51 0x7ffffff) HT_ (h := ?_)
         refine pn 27 44 (bits 51 0xfffffff) HT_ (h := ?_)
         refine pn 28 45 (bits 51 0x1fffffff) HT_ (h := ?_)
         refine pn 29 46 (bits 51 0x3fffffff) HT_ (h := ?_)
         refine pn 30 47 (bits 51 0x7fffffff) HT_ (h := ?_)
         refine pn 31 48 (bits 51 0xffffffff) HT_ (h := ?_)
         refine pn 32 49 (bits 51 0x1ffffffff) HT_ (h := ?_)
         refine pn 33 50 (bits 51 0x3ffffffff) HT_ (h := ?_)
         refine pn 34 51 (bits 51 0x7ffffffff) HT_ (h := ?_)
         refine pn 35 52 (bits 51 0xfffffffff) HT_ (h := ?_)
         refine pu 36 53 (bits 51 0x1fffffffff) HT_ (h := ?_)
         refine pu 37 54 (bits 51 0x3fffffffff) HT_ (h := ?_)
         refine pn 38 55 (bits 51 0x7fffffffff) HT_ (h := ?_)
         refine pn 39 56 (bits 51 0xffffffffff) HT_ (h := ?_)
         refine pn 40 57 (bits 51 0x1ffffffffff) HT_ (h := ?_)
         refine pn 41 58 (bits 51 0x3ffffffffff) HT_ (h := ?_)
         refine pn 42 59 (bits 51 0x7ffffffffff) HT_ (h := ?_)
         refine pn 43 60 (bits 51 0xfffffffffff) HT_ (h := ?_)
         refine pn 44 61 (bits 51 0x1fffffffffff) HT_ (h := ?_)
         refine pn 45 62 (bits 51 0x3fffffffffff) HT_ (h := ?_)
         refine pn 46 63 (bits 51 0x7fffffffffff) HT_ (h := ?_)
         refine pn 47 64 (bits 51 0xffffffffffff) HT_ (h := ?_)
         refine pn 48 65 (bits 51 0x1ffffffffffff) HT_ (h := ?_)
         refine pn 49 66 (bits 51 0x3ffffffffffff) HT_ (h := ?_)
         refine pu 50 67 (bits 51 0x7ffffffffffff) HT_ (h := ?_)
         refine done_ (done_of HT_.out (by kernel_rfl)) ?_
         try go_wp2
         go_ret
         exact ⟨erf, bb HB⟩
       ·rw [if_neg c7] at H
        have c7b0 : (((rd_T77 l0 x5_1).f0).toList == ((rd_T77 l1 x5_1).f0).toList) = false := beq_eq_false_iff_ne.mpr c7
        have c7b1 : (((rd_T77 l0 x5_1).f0).toList != ((rd_T77 l1 x5_1).f0).toList) = true := bne_iff_ne.mpr c7
        obtain rfl := Option.some.inj H
        try go_wp2
        replace HB := Aside0.mk (below_drew1 HB.out)
        have p553 : 0 ≤ x5_1 := odt
        have q553 : x5_1 < (l0.length : Int) := odt
        obtain ⟨ad553, A553_3, c553_3, e553, hx553_0, hx553_1, hx553_2, hx553_3, hl553_3, hi553_3⟩ := at_T77 HR0.out x5_1 p553 q553
        have hw553_3 := hx553_3
        have hw553_2 := hx553_2
        have hw553_1 := hx553_1
        have hw553_0 := hx553_0
        cases e553
        replace hx553_0 := hxc HB hx553_0
        replace hx553_1 := hxc HB hx553_1
        replace hx553_2 := hxc HB hx553_2
        replace hx553_3 := hxc HB hx553_3
        have HR553_3 := Aside0.mk hi553_3
        have HC553_3 := Aside0.mk hl553_3
        clear hi553_3 hl553_3
        replace p553 := eq_true p553
        replace q553 := eq_true q553
        have p554 : 0 ≤ x5_1 := odt
        have q554 : x5_1 < (l1.length : Int) := odt
        obtain ⟨ad554, A554_3, c554_3, e554, hx554_0, hx554_1, hx554_2, hx554_3, hl554_3, hi554_3⟩ := at_T77 HR1.out x5_1 p554 q554
        have hw554_3 := hx554_3
        have hw554_2 := hx554_2
        have hw554_1 := hx554_1
        have hw554_0 := hx554_0
        cases e554
        replace hx554_0 := hxc HB hx554_0
        replace hx554_1 := hxc HB hx554_1
        replace hx554_2 := hxc HB hx554_2
        replace hx554_3 := hxc HB hx554_3
        have HR554_3 := Aside0.mk hi554_3
        have HC554_3 := Aside0.mk hl554_3
        clear hi554_3 hl554_3
        replace p554 := eq_true p554
        replace q554 := eq_true q554
        refine start_ (n := 51) (S := fun w' => w'.cell? (ad553.add ((x5_1).toNat * 4)) = some (.string ((rd_T77 l0 x5_1).f0)) ∧ w'.cell? ⟨(ad553.add ((x5_1).toNat * 4)).block, (ad553.add ((x5_1).toNat * 4)).off + 1, none⟩ = some (.int .i64 ((rd_T77 l0 x5_1).f1)) ∧ w'.cell? ⟨(ad553.add ((x5_1).toNat * 4)).block, (ad553.add ((x5_1).toNat * 4)).off + 2, none⟩ = some (.int .i64 ((rd_T77 l0 x5_1).f2)) ∧ w'.cell? ⟨(ad553.add ((x5_1).toNat * 4)).block, (ad553.add ((x5_1).toNat * 4)).off + 3, none⟩ = some (.slice A553_3 ((rd_T77 l0 x5_1).f3).length c553_3) ∧ w'.cell? (ad554.add ((x5_1).toNat * 4)) = some (.string ((rd_T77 l1 x5_1).f0)) ∧ w'.cell? ⟨(ad554.add ((x5_1).toNat * 4)).block, (ad554.add ((x5_1).toNat * 4)).off + 1, none⟩ = some (.int .i64 ((rd_T77 l1 x5_1).f1)) ∧ w'.cell? ⟨(ad554.add ((x5_1).toNat * 4)).block, (ad554.add ((x5_1).toNat * 4)).off + 2, none⟩ = some (.int .i64 ((rd_T77 l1 x5_1).f2)) ∧ w'.cell? ⟨(ad554.add ((x5_1).toNat * 4)).block, (ad554.add ((x5_1).toNat * 4)).off + 3, none⟩ = some (.slice A554_3 ((rd_T77 l1 x5_1).f3).length c554_3)) (ds := []) #[false, false, false, false, false, false, false, false, false, false, false, false, false, false, false, false, false, false, false, false, false, false, false, false, false, false, false, false, false, false, false, false, false, false, false, false, false, false, false, false, false, false, false, false, false, false, false, false, false, false, false] (by kernel_rfl) rfl rfl ⟨((HB.out.cell (World.block_lt_of_cell? w _ hw553_0)).trans hw553_0), ((HB.out.cell (World.block_lt_of_cell? w _ hw553_1)).trans hw553_1), ((HB.out.cell (World.block_lt_of_cell? w _ hw553_2)).trans hw553_2), ((HB.out.cell (World.block_lt_of_cell? w _ hw553_3)).trans hw553_3), ((HB.out.cell (World.block_lt_of_cell? w _ hw554_0)).trans hw554_0), ((HB.out.cell (World.block_lt_of_cell? w _ hw554_1)).trans hw554_1), ((HB.out.cell (World.block_lt_of_cell? w _ hw554_2)).trans hw554_2), ((HB.out.cell (World.block_lt_of_cell? w _ hw554_3)).trans hw554_3)⟩ (fun hHeld => ?_); refine with_tabW q4_SameAttrs.tab6 q4_SameAttrs.bits6 (fun HT_ HW_ => ?_)
        generalize wr.drew = w16 at HB HR553_3 HR554_3 hx553_0 hx553_1 hx553_2 hx553_3 hx554_0 hx554_1 hx554_2 hx554_3 hHeld ⊢
        refine pu 0 17 (bits 51 0x1) HT_ (h := ?_)
        refine pu 1 18 (bits 51 0x3) HT_ (h := ?_)
        refine pu 2 19 (bits 51 0x7) HT_ (h := ?_)
        refine pu 3 20 (bits 51 0xf) HT_ (h := ?_)
        refine pu 5 22 (bits 51 0x2f) HT_ (h := ?_)
        refine pu 6 23 (bits 51 0x6f) HT_ (h := ?_)
        refine pu 7 24 (bits 51 0xef) HT_ (h := ?_)
        refine pu 8 25 (bits 51 0x1ef) HT_ (h := ?_)
        refine tk 4 21 (bits 51 0x1ff) HT_ HW_ hHeld (hy := by rintro w' ⟨s0, s1, s2, s3, s4, s5, s6, s7⟩; go_simp; with_reducible rfl) (h := ?_)
        refine tk 9 26 (bits 51 0x3ff) HT_ HW_ hHeld (hy := by rintro w' ⟨s0, s1, s2, s3, s4, s5, s6, s7⟩; go_simp; with_reducible rfl) (h := ?_)
        refine pu 10 27 (bits 51 0x7ff) HT_ (h := ?_)
        refine pu 11 28 (bits 51 0xfff) HT_ (h := ?_)
        refine pn 12 29 (bits 51 0x1fff) HT_ (h := ?_)
        refine pn 13 30 (bits 51 0x3fff) HT_ (h := ?_)
        refine pn 14 31 (bits 51 0x7fff) HT_ (h := ?_)
        refine pn 15 32 (bits 51 0xffff) HT_ (h := ?_)
        refine pn 16 33 (bits 51 0x1ffff) HT_ (h := ?_)
        refine pn 17 34 (bits 51 0x3ffff) HT_ (h := ?_)
        refine pn 18 35 (bits 51 0x7ffff) HT_ (h := ?_)
        refine pn 19 36 (bits 51 0xfffff) HT_ (h := ?_)
        refine pn 20 37 (bits 51 0x1fffff) HT_ (h := ?_)
        refine pn 21 38 (bits 51 0x3fffff) HT_ (h := ?_)
        refine pn 22 39 (bits 51 0x7fffff) HT_ (h := ?_)
        refine pu 23 40 (bits 51 0xffffff) HT_ (h := ?_)
        refine pu 24 41 (bits 51 0x1ffffff) HT_ (h := ?_)
        refine pn 25 42 (bits 51 0x3ffffff) HT_ (h := ?_)
        refine pn 26 43 (bits 51 0x7ffffff) HT_ (h := ?_)
        refine pn 27 44 (bits 51 0xfffffff) HT_ (h := ?_)
        refine pn 28 45 (bits 51 0x1fffffff) HT_ (h := ?_)
        refine pn 29 46 (bits 51 0x3fffffff) HT_ (h := ?_)
        refine pn 30 47 (bits 51 0x7fffffff) HT_ (h := ?_)
        refine pn 31 48 (bits 51 0xffffffff) HT_ (h := ?_)
        refine pn 32 49 (bits 51 0x1ffffffff) HT_ (h := ?_)
        refine pn 33 50 (bits 51 0x3ffffffff) HT_ (h := ?_)
        refine pn 34 51 (bits 51 0x7ffffffff) HT_ (h := ?_)
        refine pn 35 52 (bits 51 0xfffffffff) HT_ (h := ?_)
        refine pu 36 53 (bits 51 0x1fffffffff) HT_ (h := ?_)
        refine pu 37 54 (bits 51 0x3fffffffff) HT_ (h := ?_)
        refine pn 38 55 (bits 51 0x7fffffffff) HT_ (h := ?_)
        refine pn 39 56 (bits 51 0xffffffffff) HT_ (h := ?_)
        refine pn 40 57 (bits 51 0x1ffffffffff) HT_ (h := ?_)
        refine pn 41 58 (bits 51 0x3ffffffffff) HT_ (h := ?_)
        refine pn 42 59 (bits 51 0x7ffffffffff) HT_ (h := ?_)
        refine pn 43 60 (bits 51 0xfffffffffff) HT_ (h := ?_)
        refine pn 44 61 (bits 51 0x1fffffffffff) HT_ (h := ?_)
        refine pn 45 62 (bits 51 0x3fffffffffff) HT_ (h := ?_)
        refine pn 46 63 (bits 51 0x7fffffffffff) HT_ (h := ?_)
        refine pn 47 64 (bits 51 0xffffffffffff) HT_ (h := ?_)
        refine pn 48 65 (bits 51 0x1ffffffffffff) HT_ (h := ?_)
        refine pn 49 66 (bits 51 0x3ffffffffffff) HT_ (h := ?_)
        refine pu 50 67 (bits 51 0x7ffffffffffff) HT_ (h := ?_)
        refine done_ (done_of HT_.out (by kernel_rfl)) ?_
        try go_wp2
        go_ret
        exact ⟨erf, bb HB⟩
      ·rw [if_neg c6] at H
       exact absurd H (by simp)
     ·rw [if_neg c5] at H
      exact absurd H (by simp)
    ·rw [if_neg c4] at H
     have c4b0 : decide (x5_1 < (l0.length : Int)) = false := decide_eq_false c4
     clear c4
     obtain rfl := Option.some.inj H
     go_wp2
     go_ret
     exact ⟨erf, bb HB⟩
 ·rw [if_neg c3] at H
  have c3b0 : ((l0.length : Int) == (l1.length : Int)) = false := beq_eq_false_iff_ne.mpr c3
  have c3b1 : ((l0.length : Int) != (l1.length : Int)) = true := bne_iff_ne.mpr c3
  have c3b2 : (l0.length == l1.length) = false := by first | simpa using c3 | (simp at c3 ⊢; omega)
  obtain rfl := Option.some.inj H
  go_enter Try.func32, Try.ntmps32
  go_wp2
  go_ret
  exact ⟨erf, bb HB⟩
end Go.Proofs.Ytfpianecohobjaa.P
