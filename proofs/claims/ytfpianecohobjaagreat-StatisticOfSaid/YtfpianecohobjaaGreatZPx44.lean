/- StatisticOf: a part of its proof. No condition. -/
import Derived.Test.YtfpianecohobjaaGreatZPx0
import Derived.Test.YtfpianecohobjaaGreatZMa
namespace Go.Proofs.YtfpianecohobjaaGreat.P
open Go.RowKit Go.Proofs.YtfpianecohobjaaGreatW.PrintWords Go.Proofs.YtfpianecohobjaaGreatW.PrintLast Go.Proofs.YtfpianecohobjaaGreatW.PrintMore
set_option linter.unusedVariables false
set_option linter.unusedSimpArgs false
mutual
def q5_Valid.j0 : Nat → Bool → List Int → List (S56) → Option (Int)
 | 0, _, _, _ => none
 | k + 1, n0, a5, a4 => if n0 = true then (some 3) else (q5_Valid.l0 k 0 a5 a4)
def q5_Valid.l0 : Nat → Int → List Int → List (S56) → Option (Int)
 | 0, _, _, _ => none
 | k + 1, x3, a5, a4 => if x3 < (a5.length : Int) then (if 0 ≤ x3 then ((q5_kind.f (rd a5 x3)).bind fun e3 => (if e3 = true then (q5_Valid.l0 k (wrap64 (x3 + 1)) a5 a4) else (some 6))) else (none)) else (q5_Valid.l1 k 0 a5 a4)
def q5_Valid.l1 : Nat → Int → List Int → List (S56) → Option (Int)
 | 0, _, _, _ => none
 | k + 1, x4, a5, a4 => if x4 < (a4.length : Int) then (if 0 ≤ x4 then ((q5_right.f ((rd_T56 a4 x4).f0) ((rd_T56 a4 x4).f1) ((rd_T56 a4 x4).f2) (a5.length : Int)).bind fun e2 => (if e2 = true then (q5_Valid.l1 k (wrap64 (x4 + 1)) a5 a4) else (some 6))) else (none)) else (some 0)
end
def q5_Valid.f (k : Nat) (a3 : List Int) (a1 : List (S56)) : Option (Int) := if (a3.length : Int) > 40 then (q5_Valid.j0 k true a3 a1) else (q5_Valid.j0 k (decide ((a1.length : Int) > 80)) a3 a1)
def q5_Valid.T11 : Bool × List (List Nat × List Nat) := (true, [([], []), ([0], [0]), ([], []), ([1, 2], [1, 2]), ([3], [3]), ([], []), ([5], [5]), ([6], [6]), ([4, 7], [4, 7]), ([8], [8])])
def q5_Valid.B11 : List Nat := [0, 1, 0, 7, 15, 0, 32, 96, 255, 511]
theorem q5_Valid.tab11 : rtab .any (opsOf Tryz.f82 11) = q5_Valid.T11 := by kernel_rfl
theorem q5_Valid.bits11 : waitsOk q5_Valid.T11.2 q5_Valid.B11 = true := by kernel_rfl
set_option maxHeartbeats 8000000 in
set_option maxRecDepth 100000 in
theorem q5_Valid.calls (k : Nat) (c2 : Option Addr) (c0 : Nat) (a3 : List Int) (c6 : Option Addr) (b9 : Nat) (a1 : List (S56)) (r : Int) (w : World) (e7 : Kd.C (Kd.int .i64) w c2 a3.length a3) (e9 : a3.length ≤ c0) (e6 : Kd.C k56 w c6 a1.length a1) (e8 : a1.length ≤ b9) (h : q5_Valid.f k a3 a1 = some r) :
  Calls Tryz.prog 82 #[.agg #[.slice c2 a3.length c0, .slice c6 a1.length b9]] w fun e w' => e = .returned (.int .i64 r) ∧ Below w.heap.size w w' := by
 have hu35 := Tryz.underlying35
 have hu56 := Tryz.underlying56
 have g2 := Aside0.mk e7
 have n4 := Aside0.mk e9
 clear e7 e9
 have g1 := Aside0.mk e6
 have n3 := Aside0.mk e8
 clear e6 e8
 have HB := Aside0.mk (Below.refl w.heap.size w)
 have H : (if (a3.length : Int) > 40 then (q5_Valid.j0 k true a3 a1) else (q5_Valid.j0 k (decide ((a1.length : Int) > 80)) a3 a1)) = some r := h
 clear h
 have h8 := Aside0.mk H
 clear H
 go_enter Tryz.func82, Tryz.ntmps82
 go_upto_region 1 with (first | ((with_reducible refine gate_dst (N := 1) rfl ?_); (try (refine gate_guard (by rfl) ?_; dsimp only)); refine be 1 #[.slice c2 a3.length c0, .slice c6 a1.length b9] 35 ?_; intro b5 hg w3 hbox hb; have a0 := Aside0.mk (hbox); have n5 := bsz HB hg; replace HB := bstep HB hb; clear hb hbox hg))
 (try simp only [Act.put, List.setIfInBounds_toArray, List.set_cons_zero, List.set_cons_succ])
 go_cut [14] (fun n1 wc => ∃ (kq : Nat) (d0 : Bool), n1 = .bool d0 ∧ Aside0 (q5_Valid.j0 kq d0 a3 a1 = some r) ∧ Aside0 (kq ≤ k) ∧ Aside0 (wc.heap[b5]? = some (.cells #[(.slice c2 a3.length c0), (.slice c6 a1.length b9)] 35 (0, 0))) ∧ Aside0 (Below w.heap.size w wc))
 case first =>
  have H := h8.out
  clear h8
  by_cases c4 : (a3.length : Int) > 40
  rotate_left
  ·rw [if_neg c4] at H
   have b8 : decide (40 < (a3.length : Int)) = false := decide_eq_false c4
   have e0 : decide (40 < a3.length) = false := decide_eq_false (by omega)
   clear c4
   (first | rw [b8] | (simp only [i64_w, i32_w]; rw [b8]) | skip)
   have H' := Aside0.mk H
   clear H
   obtain ⟨d6, d5, d2, d1⟩ := cz2 a0
   go_wp2
   go_meet
   case rel => exact ⟨_, (decide ((a1.length : Int) > 80)), eqs, H', ⟨by first | omega | exact Nat.le_refl _⟩, ⟨bk a0⟩, ⟨bb HB⟩⟩
  rw [if_pos c4] at H
  have b8 : decide (40 < (a3.length : Int)) = true := decide_eq_true c4
  have e0 : decide (40 < a3.length) = true := decide_eq_true (by omega)
  clear c4
  (first | rw [b8] | (simp only [i64_w, i32_w]; rw [b8]) | skip)
  have H' := Aside0.mk H
  clear H
  obtain ⟨d8, d7, d4, d3⟩ := cz2 a0
  go_wp2
  go_meet
  case rel => exact ⟨_, (true), eqs, H', ⟨by first | omega | exact Nat.le_refl _⟩, ⟨bk a0⟩, ⟨bb HB⟩⟩
 case rest =>
  clear h8
  try clear p2
  try clear c4
  try clear b8
  try clear e0
  try clear d8
  try clear d7
  try clear d6
  try clear d5
  try clear d4
  try clear d3
  try clear d2
  try clear d1
  obtain ⟨kq, d0, rfl, HA, g4, a0, HB⟩ := hcut
  cases kq with
  | zero => exact absurd HA.out (by simp [q5_Valid.j0])
  | succ j2 =>
   have H := HA.out
   clear HA
   simp only [q5_Valid.j0] at H
   by_cases c7 : d0 = true
   ·subst c7
    replace H := ift H
    obtain rfl := Option.some.inj H
    go_wp2
    go_ret
    exact ⟨erf, bb HB⟩
   replace c7 := Bool.eq_false_iff.mpr c7
   subst c7
   replace H := iff_ H
   have H' := Aside0.mk H
   clear H
   go_wp2
   go_loopg [3] j2 (fun kq v3 w' => ∃ (b0 : Int), v3 = .int .i64 b0 ∧ Aside0 (q5_Valid.l0 kq b0 a3 a1 = some r) ∧ Aside0 (kq ≤ j2) ∧ Aside0 (w'.heap[b5]? = some (.cells #[(.slice c2 a3.length c0), (.slice c6 a1.length b9)] 35 (0, 0))) ∧ Aside0 (Below w.heap.size w w'))
   case atStart => exact ⟨(0), eqs, H', ⟨Nat.le_refl _⟩, ⟨bk a0⟩, ⟨bb HB⟩⟩
   case round =>
    clear H'
    try clear p2
    try clear c4
    try clear b8
    try clear e0
    try clear c7
    try clear d8
    try clear d7
    try clear d6
    try clear d5
    try clear d4
    try clear d3
    try clear d2
    try clear d1
    try clear p2
    obtain ⟨b0, rfl, HA, g3, a0, HB⟩ := hrel
    cases gk with
    | zero => exact absurd HA.out (by simp [q5_Valid.l0])
    | succ k2 =>
     have H := HA.out
     clear HA
     simp only [q5_Valid.l0] at H
     by_cases c8 : b0 < (a3.length : Int)
     ·rw [if_pos c8] at H
      have h7 := decide_eq_true c8
      clear c8
      obtain ⟨c9, H⟩ := itn H
      have j7 := decide_eq_true c9
      clear c9
      obtain ⟨e3, j6, H⟩ := obA H
      by_cases e1 : e3 = true
      rotate_left
      ·replace e1 := Bool.eq_false_iff.mpr e1
       subst e1
       replace H := iff_ H
       obtain rfl := Option.some.inj H
       obtain ⟨h4, h3, g8, g7⟩ := cz2 a0
       have b7 : 0 ≤ b0 := odt
       have b6 : b0 < (a3.length : Int) := odt
       obtain ⟨j1, e5, b1⟩ := Kd.at_int g2.out b0 b7 b6
       cases e5
       replace b1 := hxc HB b1
       replace b7 := eq_true b7
       replace b6 := eq_true b6
       go_wp2_with (first | ((with_reducible refine gate_callee (f := 98) rfl ?_); refine gl 27 Tryz.func98 #[.int .i64 (rd a3 b0)] (h := ?_); (with_reducible refine (q5_kind.calls (rd a3 b0) false _ j6.out).mono ?_); rintro e w' ⟨rfl, ⟨nd, rfl⟩⟩; refine ⟨_, rfl, ?_⟩))
       go_ret
       exact ⟨erf, bb HB⟩
      subst e1
      replace H := ift H
      have H' := Aside0.mk H
      clear H
      obtain ⟨h6, h5, h0, g9⟩ := cz2 a0
      have b7 : 0 ≤ b0 := odt
      have b6 : b0 < (a3.length : Int) := odt
      obtain ⟨j1, e5, b1⟩ := Kd.at_int g2.out b0 b7 b6
      cases e5
      replace b1 := hxc HB b1
      replace b7 := eq_true b7
      replace b6 := eq_true b6
      go_wp2_with (first | ((with_reducible refine gate_callee (f := 98) rfl ?_); refine gl 27 Tryz.func98 #[.int .i64 (rd a3 b0)] (h := ?_); (with_reducible refine (q5_kind.calls (rd a3 b0) true _ j6.out).mono ?_); rintro e w' ⟨rfl, ⟨nd, rfl⟩⟩; refine ⟨_, rfl, ?_⟩))
      go_roundg k2
      case measure => have := g4.out; have := g3.out; omega
      case rel => exact ⟨(wrap64 (b0 + 1)), eqs, H', ⟨by have := g4.out; have := g3.out; omega⟩, ⟨bk a0⟩, ⟨bb HB⟩⟩
     rw [if_neg c8] at H
     have h7 := decide_eq_false c8
     clear c8
     have H' := Aside0.mk H
     clear H
     obtain ⟨h2, h1, g6, g5⟩ := cz2 a0
     go_wp2
     go_loopg [4] k2 (fun kq v4 w' => ∃ (a2 : Int), v4 = .int .i64 a2 ∧ Aside0 (q5_Valid.l1 kq a2 a3 a1 = some r) ∧ Aside0 (kq ≤ k2) ∧ Aside0 (w'.heap[b5]? = some (.cells #[(.slice c2 a3.length c0), (.slice c6 a1.length b9)] 35 (0, 0))) ∧ Aside0 (Below w.heap.size w w'))
     case atStart => exact ⟨(0), eqs, H', ⟨Nat.le_refl _⟩, ⟨bk a0⟩, ⟨bb HB⟩⟩
     case round =>
      clear H'
      try clear c1
      try clear p2
      try clear c4
      try clear b8
      try clear e0
      try clear p6
      try clear c7
      try clear c8
      try clear h7
      try clear p8
      try clear q8
      try clear o0
      try clear c9
      try clear j7
      try clear e1
      try clear h6
      try clear h5
      try clear h4
      try clear h3
      try clear h2
      try clear h1
      try clear d8
      try clear d7
      try clear d6
      try clear d5
      try clear h0
      try clear g9
      try clear g8
      try clear g7
      try clear g6
      try clear g5
      try clear d4
      try clear d3
      try clear d2
      try clear d1
      try clear b1
      try clear p2
      try clear b7
      try clear b6
      obtain ⟨a2, rfl, HA, j4, a0, HB⟩ := hrel
      cases gk with
      | zero => exact absurd HA.out (by simp [q5_Valid.l1])
      | succ k3 =>
       have H := HA.out
       clear HA
       simp only [q5_Valid.l1] at H
       by_cases d9 : a2 < (a1.length : Int)
       rotate_left
       ·rw [if_neg d9] at H
        have h9 := decide_eq_false d9
        clear d9
        obtain rfl := Option.some.inj H
        obtain ⟨m5, m4, j9, j8⟩ := cz2 a0
        go_wp2
        go_ret
        exact ⟨erf, bb HB⟩
       rw [if_pos d9] at H
       have h9 := decide_eq_true d9
       clear d9
       obtain ⟨j3, H⟩ := itn H
       have n2 := decide_eq_true j3
       clear j3
       obtain ⟨e2, j5, H⟩ := obA H
       by_cases g0 : e2 = true
       rotate_left
       ·replace g0 := Bool.eq_false_iff.mpr g0
        subst g0
        replace H := iff_ H
        obtain rfl := Option.some.inj H
        obtain ⟨m7, m6, m1, m0⟩ := cz2 a0
        try go_wp2
        replace a0 := Aside0.mk (blk_drew a0.out)
        replace HB := Aside0.mk (below_drew1 HB.out)
        have c5 : 0 ≤ a2 := odt
        have c3 : a2 < (a1.length : Int) := odt
        obtain ⟨a9, e4, a8, a7, a6⟩ := at_T56 g1.out a2 c5 c3
        have b2 := a6
        have b3 := a7
        have b4 := a8
        cases e4
        replace a8 := hxc HB a8
        replace a7 := hxc HB a7
        replace a6 := hxc HB a6
        replace c5 := eq_true c5
        replace c3 := eq_true c3
        refine start_ (n := 10) (S := fun w' => w'.cell? ⟨b5, 0, none⟩ = some (.slice c2 a3.length c0) ∧ w'.cell? ⟨b5, 1, none⟩ = some (.slice (some a9) a1.length b9) ∧ w'.cell? (a9.add ((a2).toNat * 3)) = some (.int .i64 ((rd_T56 a1 a2).f0)) ∧ w'.cell? ⟨(a9.add ((a2).toNat * 3)).block, (a9.add ((a2).toNat * 3)).off + 1, none⟩ = some (.int .i64 ((rd_T56 a1 a2).f1)) ∧ w'.cell? ⟨(a9.add ((a2).toNat * 3)).block, (a9.add ((a2).toNat * 3)).off + 2, none⟩ = some (.int .i64 ((rd_T56 a1 a2).f2))) (ds := []) #[false, false, false, false, false, false, false, false, false, false] (by kernel_rfl) rfl rfl ⟨bc a0 0, bc a0 1, (hxc HB b4), (hxc HB b3), (hxc HB b2)⟩ (fun hHeld => ?_); refine with_tabW q5_Valid.tab11 q5_Valid.bits11 (fun HT_ HW_ => ?_)
        generalize wr.drew = n7 at a0 HB a8 a7 a6 hHeld ⊢
        refine pu 0 36 (bits 10 0x1) HT_ (h := ?_)
        refine pu 2 38 (bits 10 0x5) HT_ (h := ?_)
        refine pu 5 41 (bits 10 0x25) HT_ (h := ?_)
        refine tk 1 37 (bits 10 0x27) HT_ HW_ hHeld (hy := by rintro w' ⟨s0, s1, s2, s3, s4⟩; go_simp; with_reducible rfl) (h := ?_)
        refine pu 3 39 (bits 10 0x2f) HT_ (h := ?_)
        refine tk 4 40 (bits 10 0x3f) HT_ HW_ hHeld (hy := by rintro w' ⟨s0, s1, s2, s3, s4⟩; go_simp; with_reducible rfl) (h := ?_)
        refine tk 6 42 (bits 10 0x7f) HT_ HW_ hHeld (hy := by rintro w' ⟨s0, s1, s2, s3, s4⟩; go_simp; with_reducible rfl) (h := ?_)
        refine pu 7 43 (bits 10 0xff) HT_ (h := ?_)
        refine one_ (i := 8) (N := some 44) #[true, true, true, true, true, true, true, true, true, false] rfl rfl (one_of HT_.out (by kernel_rfl)) (by decide) (fun K hK => ?_)
        refine goes_ Tryz.func99 (by kernel_rfl) rfl #[.agg #[.int .i64 ((rd_T56 a1 a2).f0), .int .i64 ((rd_T56 a1 a2).f1), .int .i64 ((rd_T56 a1 a2).f2)], .int .i64 (a3.length : Int)] (by rfl) rfl rfl (by (try simp only [List.map_toArray, List.map_cons, List.map_nil]); first | done | rfl | (simp only [List.length_drop, List.length_take]; rfl)) ?_
        with_reducible refine (q5_right.calls ((rd_T56 a1 a2).f0) ((rd_T56 a1 a2).f1) ((rd_T56 a1 a2).f2) (a3.length : Int) false _ j5.out).mono ?_
        rintro e n6 ⟨rfl, hb⟩
        refine ⟨_, rfl, ?_⟩
        replace a0 := bkb a0 hb
        replace HB := bstep HB hb
        (try clear hb)
        (try clear hb2)
        (try clear hk)
        (try clear hi)
        refine hK.out _ _ ⟨bc a0 0, bc a0 1, (hxc HB b4), (hxc HB b3), (hxc HB b2)⟩ (fun hHeld => ?_)
        clear hK K
        refine norm_ (a' := ?_) ?_ ?_
        rotate_left
        ·show Act.put _ (some 44) _ = _
         simp only [Act.put, List.setIfInBounds_toArray, List.set_cons_zero, List.set_cons_succ, i64_w, i32_w]
         rfl
        refine pu 9 45 (bits 10 0x3ff) HT_ (h := ?_)
        refine done_ (done_of HT_.out (by kernel_rfl)) ?_
        try go_wp2
        go_ret
        exact ⟨erf, bb HB⟩
       subst g0
       replace H := ift H
       have H' := Aside0.mk H
       clear H
       obtain ⟨m9, m8, m3, m2⟩ := cz2 a0
       try go_wp2
       replace a0 := Aside0.mk (blk_drew a0.out)
       replace HB := Aside0.mk (below_drew1 HB.out)
       have c5 : 0 ≤ a2 := odt
       have c3 : a2 < (a1.length : Int) := odt
       obtain ⟨a9, e4, a8, a7, a6⟩ := at_T56 g1.out a2 c5 c3
       have b2 := a6
       have b3 := a7
       have b4 := a8
       cases e4
       replace a8 := hxc HB a8
       replace a7 := hxc HB a7
       replace a6 := hxc HB a6
       replace c5 := eq_true c5
       replace c3 := eq_true c3
       refine start_ (n := 10) (S := fun w' => w'.cell? ⟨b5, 0, none⟩ = some (.slice c2 a3.length c0) ∧ w'.cell? ⟨b5, 1, none⟩ = some (.slice (some a9) a1.length b9) ∧ w'.cell? (a9.add ((a2).toNat * 3)) = some (.int .i64 ((rd_T56 a1 a2).f0)) ∧ w'.cell? ⟨(a9.add ((a2).toNat * 3)).block, (a9.add ((a2).toNat * 3)).off + 1, none⟩ = some (.int .i64 ((rd_T56 a1 a2).f1)) ∧ w'.cell? ⟨(a9.add ((a2).toNat * 3)).block, (a9.add ((a2).toNat * 3)).off + 2, none⟩ = some (.int .i64 ((rd_T56 a1 a2).f2))) (ds := []) #[false, false, false, false, false, false, false, false, false, false] (by kernel_rfl) rfl rfl ⟨bc a0 0, bc a0 1, (hxc HB b4), (hxc HB b3), (hxc HB b2)⟩ (fun hHeld => ?_); refine with_tabW q5_Valid.tab11 q5_Valid.bits11 (fun HT_ HW_ => ?_)
       generalize wr.drew = n9 at a0 HB a8 a7 a6 hHeld ⊢
       refine pu 0 36 (bits 10 0x1) HT_ (h := ?_)
       refine pu 2 38 (bits 10 0x5) HT_ (h := ?_)
       refine pu 5 41 (bits 10 0x25) HT_ (h := ?_)
       refine tk 1 37 (bits 10 0x27) HT_ HW_ hHeld (hy := by rintro w' ⟨s0, s1, s2, s3, s4⟩; go_simp; with_reducible rfl) (h := ?_)
       refine pu 3 39 (bits 10 0x2f) HT_ (h := ?_)
       refine tk 4 40 (bits 10 0x3f) HT_ HW_ hHeld (hy := by rintro w' ⟨s0, s1, s2, s3, s4⟩; go_simp; with_reducible rfl) (h := ?_)
       refine tk 6 42 (bits 10 0x7f) HT_ HW_ hHeld (hy := by rintro w' ⟨s0, s1, s2, s3, s4⟩; go_simp; with_reducible rfl) (h := ?_)
       refine pu 7 43 (bits 10 0xff) HT_ (h := ?_)
       refine one_ (i := 8) (N := some 44) #[true, true, true, true, true, true, true, true, true, false] rfl rfl (one_of HT_.out (by kernel_rfl)) (by decide) (fun K hK => ?_)
       refine goes_ Tryz.func99 (by kernel_rfl) rfl #[.agg #[.int .i64 ((rd_T56 a1 a2).f0), .int .i64 ((rd_T56 a1 a2).f1), .int .i64 ((rd_T56 a1 a2).f2)], .int .i64 (a3.length : Int)] (by rfl) rfl rfl (by (try simp only [List.map_toArray, List.map_cons, List.map_nil]); first | done | rfl | (simp only [List.length_drop, List.length_take]; rfl)) ?_
       with_reducible refine (q5_right.calls ((rd_T56 a1 a2).f0) ((rd_T56 a1 a2).f1) ((rd_T56 a1 a2).f2) (a3.length : Int) true _ j5.out).mono ?_
       rintro e n8 ⟨rfl, hb⟩
       refine ⟨_, rfl, ?_⟩
       replace a0 := bkb a0 hb
       replace HB := bstep HB hb
       (try clear hb)
       (try clear hb2)
       (try clear hk)
       (try clear hi)
       refine hK.out _ _ ⟨bc a0 0, bc a0 1, (hxc HB b4), (hxc HB b3), (hxc HB b2)⟩ (fun hHeld => ?_)
       clear hK K
       refine norm_ (a' := ?_) ?_ ?_
       rotate_left
       ·show Act.put _ (some 44) _ = _
        simp only [Act.put, List.setIfInBounds_toArray, List.set_cons_zero, List.set_cons_succ, i64_w, i32_w]
        rfl
       refine pu 9 45 (bits 10 0x3ff) HT_ (h := ?_)
       refine done_ (done_of HT_.out (by kernel_rfl)) ?_
       try go_wp2
       go_roundg k3
       case measure => have := g4.out; have := g3.out; have := j4.out; omega
       case rel => exact ⟨(wrap64 (a2 + 1)), eqs, H', ⟨by have := g4.out; have := g3.out; have := j4.out; omega⟩, ⟨bk a0⟩, ⟨bb HB⟩⟩
end Go.Proofs.YtfpianecohobjaaGreat.P
