/- typesLists_holds: a part of the proof that the law returns true for every input. No condition. -/
import Derived.Test.YtfpianecohobjaaVPx0
namespace Go.Proofs.Ytfpianecohobjaa.P
open Go.RowKit Go.Proofs.YtfpianecohobjaaW.PrintWords Go.Proofs.YtfpianecohobjaaW.PrintLast Go.Proofs.YtfpianecohobjaaW.PrintMore
set_option linter.unusedVariables false
set_option linter.unusedSimpArgs false
mutual
def q4_Few.j0 : Nat → Bool → List (S68) → List (S71) → Option (Bool)
 | 0, _, _, _ => none
 | k + 1, x18, x270000, x270001 => if x18 = true then (some false) else (q4_Few.l0 k 0 0 x270000 x270001)
def q4_Few.l0 : Nat → Int → Int → List (S68) → List (S71) → Option (Bool)
 | 0, _, _, _, _ => none
 | k + 1, x3, x4, x270000, x270001 => if x4 < (x270000.length : Int) then (if 0 ≤ x4 then (if (wrap64 (x3 + (((rd_T68 x270000 x4).f3).length : Int))) > 30 then (q4_Few.j2 k (wrap64 (x3 + (((rd_T68 x270000 x4).f3).length : Int))) x4 true x270000 x270001) else (q4_Few.j2 k (wrap64 (x3 + (((rd_T68 x270000 x4).f3).length : Int))) x4 (decide ((((rd_T68 x270000 x4).f0).size : Int) > 40)) x270000 x270001)) else (none)) else (q4_Few.l3 k 0 x270000 x270001)
def q4_Few.j2 : Nat → Int → Int → Bool → List (S68) → List (S71) → Option (Bool)
 | 0, _, _, _, _, _ => none
 | k + 1, x3, x4, x46, x270000, x270001 => if x46 = true then (some false) else (q4_Few.l1 k x3 x4 0 x270000 x270001)
def q4_Few.l1 : Nat → Int → Int → Int → List (S68) → List (S71) → Option (Bool)
 | 0, _, _, _, _, _ => none
 | k + 1, x3, x4, x5, x270000, x270001 => if 0 ≤ x4 then (if x4 < (x270000.length : Int) then (if x5 < (((rd_T68 x270000 x4).f3).length : Int) then (if 0 ≤ x5 then (if (((rd_T77 ((rd_T68 x270000 x4).f3) x5).f0).size : Int) > 40 then (q4_Few.j4 k x3 x4 x5 true x270000 x270001 ((rd_T77 ((rd_T68 x270000 x4).f3) x5).f0) ((rd_T77 ((rd_T68 x270000 x4).f3) x5).f1) ((rd_T77 ((rd_T68 x270000 x4).f3) x5).f2) ((rd_T77 ((rd_T68 x270000 x4).f3) x5).f3)) else (q4_Few.j4 k x3 x4 x5 (decide ((((rd_T77 ((rd_T68 x270000 x4).f3) x5).f3).length : Int) > 25)) x270000 x270001 ((rd_T77 ((rd_T68 x270000 x4).f3) x5).f0) ((rd_T77 ((rd_T68 x270000 x4).f3) x5).f1) ((rd_T77 ((rd_T68 x270000 x4).f3) x5).f2) ((rd_T77 ((rd_T68 x270000 x4).f3) x5).f3))) else (none)) else (q4_Few.l0 k x3 (wrap64 (x4 + 1)) x270000 x270001)) else (none)) else (none)
def q4_Few.j4 : Nat → Int → Int → Int → Bool → List (S68) → List (S71) → ByteArray → Int → Int → List ByteArray → Option (Bool)
 | 0, _, _, _, _, _, _, _, _, _, _ => none
 | k + 1, x3, x4, x5, x76, x270000, x270001, x276000, x276001, x276002, x276003 => if x76 = true then (some false) else (q4_Few.l2 k x3 x4 x5 0 x270000 x270001 x276000 x276001 x276002 x276003)
def q4_Few.l2 : Nat → Int → Int → Int → Int → List (S68) → List (S71) → ByteArray → Int → Int → List ByteArray → Option (Bool)
 | 0, _, _, _, _, _, _, _, _, _, _ => none
 | k + 1, x3, x4, x5, x7, x270000, x270001, x276000, x276001, x276002, x276003 => if x7 < (x276003.length : Int) then (if 0 ≤ x7 then (if ((rdOf ByteArray.empty x276003 x7).size : Int) > 40 then (some false) else (q4_Few.l2 k x3 x4 x5 (wrap64 (x7 + 1)) x270000 x270001 x276000 x276001 x276002 x276003)) else (none)) else (q4_Few.l1 k x3 x4 (wrap64 (x5 + 1)) x270000 x270001)
def q4_Few.l3 : Nat → Int → List (S68) → List (S71) → Option (Bool)
 | 0, _, _, _ => none
 | k + 1, x8, x270000, x270001 => if x8 < (x270001.length : Int) then (if 0 ≤ x8 then (if (((rd_T71 x270001 x8).f0).size : Int) > 40 then (some false) else (q4_Few.l3 k (wrap64 (x8 + 1)) x270000 x270001)) else (none)) else (some true)
end
def q4_Few.f (k : Nat) (l0_0 : List (S68)) (l0_1 : List (S71)) : Option (Bool) := if (l0_0.length : Int) > 20 then (q4_Few.j0 k true l0_0 l0_1) else (q4_Few.j0 k (decide ((l0_1.length : Int) > 30)) l0_0 l0_1)
set_option maxHeartbeats 8000000 in
set_option maxRecDepth 100000 in
theorem q4_Few.calls (k : Nat) (A0_0 : Option Addr) (c0_0 : Nat) (l0_0 : List (S68)) (A0_1 : Option Addr) (c0_1 : Nat) (l0_1 : List (S71)) (r : Bool) (w : World) (hr0_0 : Kd.C k68 w A0_0 l0_0.length l0_0) (hc0_0 : l0_0.length ≤ c0_0) (hr0_1 : Kd.C k71 w A0_1 l0_1.length l0_1) (hc0_1 : l0_1.length ≤ c0_1) (h : q4_Few.f k l0_0 l0_1 = some r) :
  Calls Try.prog 13 #[.agg #[.slice A0_0 l0_0.length c0_0, .slice A0_1 l0_1.length c0_1]] w fun e w' => e = .returned (.bool r) ∧ Below w.heap.size w w' := by
 have hu25 := Try.underlying25
 have hu77 := Try.underlying77
 have HR0_0 := Aside0.mk hr0_0
 have HC0_0 := Aside0.mk hc0_0
 clear hr0_0 hc0_0
 have HR0_1 := Aside0.mk hr0_1
 have HC0_1 := Aside0.mk hc0_1
 clear hr0_1 hc0_1
 have HB := Aside0.mk (Below.refl w.heap.size w)
 have H : (if (l0_0.length : Int) > 20 then (q4_Few.j0 k true l0_0 l0_1) else (q4_Few.j0 k (decide ((l0_1.length : Int) > 30)) l0_0 l0_1)) = some r := h
 clear h
 have HC2 := Aside0.mk H
 clear H
 go_enter Try.func13, Try.ntmps13
 go_upto_region 1 with ((with_reducible refine gate_dst (N := 1) rfl ?_); (try (refine gate_guard (by rfl) ?_; dsimp only)); refine box_event ?hg (N := 1) ?hd (cs := #[.slice A0_0 l0_0.length c0_0, .slice A0_1 l0_1.length c0_1]) (t := 25) ?hr ?_; (case hd => rfl); (case hg => rfl); (case hr => first | (go_simp; done) | (go_simp; rfl)); intro gb269 hg w3 hbox hb; have BK269 := Aside0.mk (hbox); have GW269 := bsz HB hg; have GE269 := bsz HB hg; replace HB := bstep HB hb; clear hb hbox hg)
 (try simp only [Act.put, List.setIfInBounds_toArray, List.set_cons_zero, List.set_cons_succ])
 go_cut [18] (fun v18 wc => ∃ (kq : Nat) (x18_1 : Bool), v18 = .bool x18_1 ∧ Aside0 (q4_Few.j0 kq x18_1 l0_0 l0_1 = some r) ∧ Aside0 (kq ≤ k) ∧ Aside0 (wc.heap[gb269]? = some (.cells #[(.slice A0_0 l0_0.length c0_0), (.slice A0_1 l0_1.length c0_1)] 25 (0, 0))) ∧ Aside0 (Below w.heap.size w wc))
 case first =>
  have H := HC2.out
  clear HC2
  by_cases c4 : (l0_0.length : Int) > 20
  ·rw [if_pos c4] at H
   have c4b0 : decide (20 < (l0_0.length : Int)) = true := decide_eq_true c4
   have c4b1 : decide (20 < l0_0.length) = true := decide_eq_true (by omega)
   clear c4
   (first | rw [c4b0] | (simp only [i64_w, i32_w]; rw [c4b0]) | skip)
   have H' := Aside0.mk H
   clear H
   obtain ⟨hcz5_0, hcz5_1, hfz5_0, hfz5_1⟩ := cz2 BK269
   go_wp2
   go_meet
   case rel => exact ⟨_, (true), eqs, H', ⟨by first | omega | exact Nat.le_refl _⟩, ⟨bk BK269⟩, ⟨bb HB⟩⟩
  ·rw [if_neg c4] at H
   have c4b0 : decide (20 < (l0_0.length : Int)) = false := decide_eq_false c4
   have c4b1 : decide (20 < l0_0.length) = false := decide_eq_false (by omega)
   clear c4
   (first | rw [c4b0] | (simp only [i64_w, i32_w]; rw [c4b0]) | skip)
   have H' := Aside0.mk H
   clear H
   obtain ⟨hcz6_0, hcz6_1, hfz6_0, hfz6_1⟩ := cz2 BK269
   go_wp2
   go_meet
   case rel => exact ⟨_, (decide ((l0_1.length : Int) > 30)), eqs, H', ⟨by first | omega | exact Nat.le_refl _⟩, ⟨bk BK269⟩, ⟨bb HB⟩⟩
 case rest =>
  clear HC2
  obtain ⟨kq, x18_1, rfl, HA, HJ1, BK269, HB⟩ := hcut
  cases kq with
  | zero => exact absurd HA.out (by simp [q4_Few.j0])
  | succ kj1 =>
   have H := HA.out
   clear HA
   simp only [q4_Few.j0] at H
   by_cases c7 : x18_1 = true
   ·subst c7
    replace H := ift H
    obtain rfl := Option.some.inj H
    go_wp2
    go_ret
    exact ⟨erf, bb HB⟩
   ·replace c7 := Bool.eq_false_iff.mpr c7
    subst c7
    replace H := iff_ H
    have H' := Aside0.mk H
    clear H
    go_wp2
    go_loopg [3, 4] kj1 (fun kq v3 v4 w' => ∃ (x3_2 : Int) (x4_2 : Int), v3 = .int .i64 x3_2 ∧ v4 = .int .i64 x4_2 ∧ Aside0 (q4_Few.l0 kq x3_2 x4_2 l0_0 l0_1 = some r) ∧ Aside0 (kq ≤ kj1) ∧ Aside0 (w'.heap[gb269]? = some (.cells #[(.slice A0_0 l0_0.length c0_0), (.slice A0_1 l0_1.length c0_1)] 25 (0, 0))) ∧ Aside0 (Below w.heap.size w w'))
    case atStart => exact ⟨(0), (0), eqs, eqs, H', ⟨Nat.le_refl _⟩, ⟨bk BK269⟩, ⟨bb HB⟩⟩
    case round =>
     clear H'
     obtain ⟨x3_2, x4_2, rfl, rfl, HA, HK2, BK269, HB⟩ := hrel
     cases gk with
     | zero => exact absurd HA.out (by simp [q4_Few.l0])
     | succ k2 =>
      have H := HA.out
      clear HA
      simp only [q4_Few.l0] at H
      by_cases c8 : x4_2 < (l0_0.length : Int)
      ·rw [if_pos c8] at H
       have c8b0 : decide (x4_2 < (l0_0.length : Int)) = true := decide_eq_true c8
       clear c8
       by_cases c9 : 0 ≤ x4_2
       ·rw [if_pos c9] at H
        have c9b0 : decide (0 ≤ x4_2) = true := decide_eq_true c9
        clear c9
        have HC10 := Aside0.mk H
        clear H
        obtain ⟨hcz11_0, hcz11_1, hfz11_0, hfz11_1⟩ := cz2 BK269
        have p270 : 0 ≤ x4_2 := odt
        have q270 : x4_2 < (l0_0.length : Int) := odt
        obtain ⟨ad270, A270_3, c270_3, e270, hx270_0, hx270_1, hx270_2, hx270_3, hl270_3, hi270_3⟩ := at_T68 HR0_0.out x4_2 p270 q270
        cases e270
        replace hx270_0 := hxc HB hx270_0
        replace hx270_1 := hxc HB hx270_1
        replace hx270_2 := hxc HB hx270_2
        replace hx270_3 := hxc HB hx270_3
        have HR270_3 := Aside0.mk hi270_3
        have HC270_3 := Aside0.mk hl270_3
        clear hi270_3 hl270_3
        replace p270 := eq_true p270
        replace q270 := eq_true q270
        go_upto_region 8 with (fail)
        go_cut [46] (fun v46 wc => ∃ (kq : Nat) (x46_9 : Bool), v46 = .bool x46_9 ∧ Aside0 (q4_Few.j2 kq (wrap64 (x3_2 + (((rd_T68 l0_0 x4_2).f3).length : Int))) x4_2 x46_9 l0_0 l0_1 = some r) ∧ Aside0 (kq ≤ k2) ∧ Aside0 (wc.heap[gb269]? = some (.cells #[(.slice (some ad270) l0_0.length c0_0), (.slice A0_1 l0_1.length c0_1)] 25 (0, 0))) ∧ Aside0 (Below w.heap.size w wc))
        case first =>
         have H := HC10.out
         clear HC10
         by_cases c12 : (wrap64 (x3_2 + (((rd_T68 l0_0 x4_2).f3).length : Int))) > 30
         ·rw [if_pos c12] at H
          have c12b0 : decide (30 < (wrap64 (x3_2 + (((rd_T68 l0_0 x4_2).f3).length : Int)))) = true := decide_eq_true c12
          clear c12
          (first | rw [c12b0] | (simp only [i64_w, i32_w]; rw [c12b0]) | skip)
          have H' := Aside0.mk H
          clear H
          go_wp2
          go_meet
          case rel => exact ⟨_, (true), eqs, H', ⟨by have := HJ1.out; have := HK2.out; first | omega | exact Nat.le_refl _⟩, ⟨bk BK269⟩, ⟨bb HB⟩⟩
         ·rw [if_neg c12] at H
          have c12b0 : decide (30 < (wrap64 (x3_2 + (((rd_T68 l0_0 x4_2).f3).length : Int)))) = false := decide_eq_false c12
          clear c12
          (first | rw [c12b0] | (simp only [i64_w, i32_w]; rw [c12b0]) | skip)
          have H' := Aside0.mk H
          clear H
          obtain ⟨hcz13_0, hcz13_1, hfz13_0, hfz13_1⟩ := cz2 BK269
          have p271 : 0 ≤ x4_2 := odt
          have q271 : x4_2 < (l0_0.length : Int) := odt
          obtain ⟨ad271, A271_3, c271_3, e271, hx271_0, hx271_1, hx271_2, hx271_3, hl271_3, hi271_3⟩ := at_T68 HR0_0.out x4_2 p271 q271
          obtain rfl : ad270 = ad271 := (by injection e271)
          replace hx271_0 := hxc HB hx271_0
          replace hx271_1 := hxc HB hx271_1
          replace hx271_2 := hxc HB hx271_2
          replace hx271_3 := hxc HB hx271_3
          have HR271_3 := Aside0.mk hi271_3
          have HC271_3 := Aside0.mk hl271_3
          clear hi271_3 hl271_3
          replace p271 := eq_true p271
          replace q271 := eq_true q271
          go_wp2
          go_meet
          case rel => exact ⟨_, (decide ((((rd_T68 l0_0 x4_2).f0).size : Int) > 40)), eqs, H', ⟨by have := HJ1.out; have := HK2.out; first | omega | exact Nat.le_refl _⟩, ⟨bk BK269⟩, ⟨bb HB⟩⟩
        case rest =>
         clear HC10 c8b0 c9b0 hcz11_0 hcz11_1 hfz11_0 hfz11_1 hx270_0 hx270_1 hx270_2 hx270_3 p270 q270
         obtain ⟨kq, x46_9, rfl, HA, HJ9, BK269, HB⟩ := hcut
         cases kq with
         | zero => exact absurd HA.out (by simp [q4_Few.j2])
         | succ kj9 =>
          have H := HA.out
          clear HA
          simp only [q4_Few.j2] at H
          by_cases c14 : x46_9 = true
          ·subst c14
           replace H := ift H
           obtain rfl := Option.some.inj H
           go_wp2
           go_ret
           exact ⟨erf, bb HB⟩
          ·replace c14 := Bool.eq_false_iff.mpr c14
           subst c14
           replace H := iff_ H
           have H' := Aside0.mk H
           clear H
           go_wp2
           go_loopg [5] kj9 (fun kq v5 w' => ∃ (x5_4 : Int), v5 = .int .i64 x5_4 ∧ Aside0 (q4_Few.l1 kq (wrap64 (x3_2 + (((rd_T68 l0_0 x4_2).f3).length : Int))) x4_2 x5_4 l0_0 l0_1 = some r) ∧ Aside0 (kq ≤ kj9) ∧ Aside0 (w'.heap[gb269]? = some (.cells #[(.slice (some ad270) l0_0.length c0_0), (.slice A0_1 l0_1.length c0_1)] 25 (0, 0))) ∧ Aside0 (Below w.heap.size w w'))
           case atStart => exact ⟨(0), eqs, H', ⟨Nat.le_refl _⟩, ⟨bk BK269⟩, ⟨bb HB⟩⟩
           case round =>
            clear H'
            obtain ⟨x5_4, rfl, HA, HK4, BK269, HB⟩ := hrel
            cases gk with
            | zero => exact absurd HA.out (by simp [q4_Few.l1])
            | succ k4 =>
             have H := HA.out
             clear HA
             simp only [q4_Few.l1] at H
             by_cases c15 : 0 ≤ x4_2
             ·rw [if_pos c15] at H
              have c15b0 : decide (0 ≤ x4_2) = true := decide_eq_true c15
              clear c15
              by_cases c16 : x4_2 < (l0_0.length : Int)
              ·rw [if_pos c16] at H
               have c16b0 : decide (x4_2 < (l0_0.length : Int)) = true := decide_eq_true c16
               clear c16
               by_cases c17 : x5_4 < (((rd_T68 l0_0 x4_2).f3).length : Int)
               ·rw [if_pos c17] at H
                have c17b0 : decide (x5_4 < (((rd_T68 l0_0 x4_2).f3).length : Int)) = true := decide_eq_true c17
                clear c17
                by_cases c18 : 0 ≤ x5_4
                ·rw [if_pos c18] at H
                 have c18b0 : decide (0 ≤ x5_4) = true := decide_eq_true c18
                 clear c18
                 have HC19 := Aside0.mk H
                 clear H
                 obtain ⟨hcz20_0, hcz20_1, hfz20_0, hfz20_1⟩ := cz2 BK269
                 have p272 : 0 ≤ x4_2 := odt
                 have q272 : x4_2 < (l0_0.length : Int) := odt
                 obtain ⟨ad272, A272_3, c272_3, e272, hx272_0, hx272_1, hx272_2, hx272_3, hl272_3, hi272_3⟩ := at_T68 HR0_0.out x4_2 p272 q272
                 obtain rfl : ad270 = ad272 := (by injection e272)
                 replace hx272_0 := hxc HB hx272_0
                 replace hx272_1 := hxc HB hx272_1
                 replace hx272_2 := hxc HB hx272_2
                 replace hx272_3 := hxc HB hx272_3
                 have HR272_3 := Aside0.mk hi272_3
                 have HC272_3 := Aside0.mk hl272_3
                 clear hi272_3 hl272_3
                 replace p272 := eq_true p272
                 replace q272 := eq_true q272
                 have p273 : 0 ≤ x4_2 := odt
                 have q273 : x4_2 < (l0_0.length : Int) := odt
                 obtain ⟨ad273, A273_3, c273_3, e273, hx273_0, hx273_1, hx273_2, hx273_3, hl273_3, hi273_3⟩ := at_T68 HR0_0.out x4_2 p273 q273
                 obtain rfl : ad270 = ad273 := (by injection e273)
                 replace hx273_0 := hxc HB hx273_0
                 replace hx273_1 := hxc HB hx273_1
                 replace hx273_2 := hxc HB hx273_2
                 replace hx273_3 := hxc HB hx273_3
                 have HR273_3 := Aside0.mk hi273_3
                 have HC273_3 := Aside0.mk hl273_3
                 clear hi273_3 hl273_3
                 replace p273 := eq_true p273
                 replace q273 := eq_true q273
                 have ea_ := Option.some.inj (hx272_3.symm.trans hx273_3)
                 injection ea_ with ea_ en_ ec_
                 subst ea_
                 subst ec_
                 clear en_
                 have p274 : 0 ≤ x5_4 := odt
                 have q274 : x5_4 < (((rd_T68 l0_0 x4_2).f3).length : Int) := odt
                 obtain ⟨ad274, A274_3, c274_3, e274, hx274_0, hx274_1, hx274_2, hx274_3, hl274_3, hi274_3⟩ := at_T77 HR273_3.out x5_4 p274 q274
                 cases e274
                 replace hx274_0 := hxc HB hx274_0
                 replace hx274_1 := hxc HB hx274_1
                 replace hx274_2 := hxc HB hx274_2
                 replace hx274_3 := hxc HB hx274_3
                 have HR274_3 := Aside0.mk hi274_3
                 have HC274_3 := Aside0.mk hl274_3
                 clear hi274_3 hl274_3
                 replace p274 := eq_true p274
                 replace q274 := eq_true q274
                 go_upto_region 14 with ((with_reducible refine gate_dst (N := 6) rfl ?_); (try (refine gate_guard (by rfl) ?_; dsimp only)); refine box_event ?hg (N := 6) ?hd (cs := #[.string (⟨#[]⟩ : ByteArray), .int .i64 0, .int .i64 0, .slice none 0 0]) (t := 77) ?hr ?_; (case hd => rfl); (case hg => rfl); (case hr => first | (go_simp; done) | (go_simp; rfl)); intro gb275 hg w21 hbox hb; have BK275 := Aside0.mk (hbox); have GW275 := bsz HB hg; have GE275 := bsz HB hg; replace HB := bstep HB hb; have NB269_275 := blt BK269 hg; have NB275_269 := bgt BK269 hg; replace BK269 := bkb BK269 hb; clear hb hbox hg; have hnb22 := NB275_269.out; have hnc22 := NB269_275.out; obtain ⟨hcz23_0, hcz23_1, hcz23_2, hcz23_3, hfz23_0, hfz23_1, hfz23_2, hfz23_3⟩ := cz4 BK275)
                 (try simp only [Act.put, List.setIfInBounds_toArray, List.set_cons_zero, List.set_cons_succ])
                 go_cut [76] (fun v76 wc => ∃ (kq : Nat) (x76_18 : Bool), v76 = .bool x76_18 ∧ Aside0 (q4_Few.j4 kq (wrap64 (x3_2 + (((rd_T68 l0_0 x4_2).f3).length : Int))) x4_2 x5_4 x76_18 l0_0 l0_1 ((rd_T77 ((rd_T68 l0_0 x4_2).f3) x5_4).f0) ((rd_T77 ((rd_T68 l0_0 x4_2).f3) x5_4).f1) ((rd_T77 ((rd_T68 l0_0 x4_2).f3) x5_4).f2) ((rd_T77 ((rd_T68 l0_0 x4_2).f3) x5_4).f3) = some r) ∧ Aside0 (kq ≤ k4) ∧ Aside0 (wc.heap[gb269]? = some (.cells #[(.slice (some ad270) l0_0.length c0_0), (.slice A0_1 l0_1.length c0_1)] 25 (0, 0))) ∧ Aside0 (wc.heap[gb275]? = some (.cells #[.string ((rd_T77 ((rd_T68 l0_0 x4_2).f3) x5_4).f0), .int .i64 ((rd_T77 ((rd_T68 l0_0 x4_2).f3) x5_4).f1), .int .i64 ((rd_T77 ((rd_T68 l0_0 x4_2).f3) x5_4).f2), (.slice A274_3 ((rd_T77 ((rd_T68 l0_0 x4_2).f3) x5_4).f3).length c274_3)] 77 (0, 0))) ∧ Aside0 (Below w.heap.size w wc))
                 case first =>
                  have H := HC19.out
                  clear HC19
                  by_cases c24 : (((rd_T77 ((rd_T68 l0_0 x4_2).f3) x5_4).f0).size : Int) > 40
                  ·rw [if_pos c24] at H
                   have c24b0 : decide (40 < (((rd_T77 ((rd_T68 l0_0 x4_2).f3) x5_4).f0).size : Int)) = true := decide_eq_true c24
                   have c24b1 : decide (40 < ((rd_T77 ((rd_T68 l0_0 x4_2).f3) x5_4).f0).size) = true := decide_eq_true (by omega)
                   clear c24
                   (first | rw [c24b0] | (simp only [i64_w, i32_w]; rw [c24b0]) | skip)
                   have H' := Aside0.mk H
                   clear H
                   have hnb25 := NB275_269.out
                   have hnc25 := NB269_275.out
                   obtain ⟨hcz26_0, hcz26_1, hcz26_2, hcz26_3, hfz26_0, hfz26_1, hfz26_2, hfz26_3⟩ := cz4 BK275
                   go_wp2
                   go_meet
                   case rel => exact ⟨_, (true), eqs, H', ⟨by have := HJ1.out; have := HK2.out; have := HJ9.out; have := HK4.out; first | omega | exact Nat.le_refl _⟩, ⟨by (with_reducible repeat (first | refine blk_drewN ?_ _ | refine blk_drew ?_ | refine blk_alloc ?_ _)); refine blk_far ?_ NB269_275.out _; (with_reducible repeat (first | refine blk_drewN ?_ _ | refine blk_drew ?_ | refine blk_alloc ?_ _)); refine blk_far ?_ NB269_275.out _; (with_reducible repeat (first | refine blk_drewN ?_ _ | refine blk_drew ?_ | refine blk_alloc ?_ _)); refine blk_far ?_ NB269_275.out _; (with_reducible repeat (first | refine blk_drewN ?_ _ | refine blk_drew ?_ | refine blk_alloc ?_ _)); refine blk_far ?_ NB269_275.out _; (with_reducible repeat (first | refine blk_drewN ?_ _ | refine blk_drew ?_ | refine blk_alloc ?_ _)); exact BK269.out⟩, ⟨by (with_reducible repeat (first | refine blk_drewN ?_ _ | refine blk_drew ?_ | refine blk_alloc ?_ _)); refine blk_put (cs := #[.string ((rd_T77 ((rd_T68 l0_0 x4_2).f3) x5_4).f0), .int .i64 ((rd_T77 ((rd_T68 l0_0 x4_2).f3) x5_4).f1), .int .i64 ((rd_T77 ((rd_T68 l0_0 x4_2).f3) x5_4).f2), .slice none 0 0]) ?_ 3 _ rfl; (with_reducible repeat (first | refine blk_drewN ?_ _ | refine blk_drew ?_ | refine blk_alloc ?_ _)); refine blk_put (cs := #[.string ((rd_T77 ((rd_T68 l0_0 x4_2).f3) x5_4).f0), .int .i64 ((rd_T77 ((rd_T68 l0_0 x4_2).f3) x5_4).f1), .int .i64 0, .slice none 0 0]) ?_ 2 _ rfl; (with_reducible repeat (first | refine blk_drewN ?_ _ | refine blk_drew ?_ | refine blk_alloc ?_ _)); refine blk_put (cs := #[.string ((rd_T77 ((rd_T68 l0_0 x4_2).f3) x5_4).f0), .int .i64 0, .int .i64 0, .slice none 0 0]) ?_ 1 _ rfl; (with_reducible repeat (first | refine blk_drewN ?_ _ | refine blk_drew ?_ | refine blk_alloc ?_ _)); refine blk_put (cs := #[.string (⟨#[]⟩ : ByteArray), .int .i64 0, .int .i64 0, .slice none 0 0]) ?_ 0 _ rfl; (with_reducible repeat (first | refine blk_drewN ?_ _ | refine blk_drew ?_ | refine blk_alloc ?_ _)); exact BK275.out⟩, ⟨bb HB⟩⟩
                  ·rw [if_neg c24] at H
                   have c24b0 : decide (40 < (((rd_T77 ((rd_T68 l0_0 x4_2).f3) x5_4).f0).size : Int)) = false := decide_eq_false c24
                   have c24b1 : decide (40 < ((rd_T77 ((rd_T68 l0_0 x4_2).f3) x5_4).f0).size) = false := decide_eq_false (by omega)
                   clear c24
                   (first | rw [c24b0] | (simp only [i64_w, i32_w]; rw [c24b0]) | skip)
                   have H' := Aside0.mk H
                   clear H
                   have hnb27 := NB275_269.out
                   have hnc27 := NB269_275.out
                   obtain ⟨hcz28_0, hcz28_1, hcz28_2, hcz28_3, hfz28_0, hfz28_1, hfz28_2, hfz28_3⟩ := cz4 BK275
                   go_wp2
                   go_meet
                   case rel => exact ⟨_, (decide ((((rd_T77 ((rd_T68 l0_0 x4_2).f3) x5_4).f3).length : Int) > 25)), eqs, H', ⟨by have := HJ1.out; have := HK2.out; have := HJ9.out; have := HK4.out; first | omega | exact Nat.le_refl _⟩, ⟨by (with_reducible repeat (first | refine blk_drewN ?_ _ | refine blk_drew ?_ | refine blk_alloc ?_ _)); refine blk_far ?_ NB269_275.out _; (with_reducible repeat (first | refine blk_drewN ?_ _ | refine blk_drew ?_ | refine blk_alloc ?_ _)); refine blk_far ?_ NB269_275.out _; (with_reducible repeat (first | refine blk_drewN ?_ _ | refine blk_drew ?_ | refine blk_alloc ?_ _)); refine blk_far ?_ NB269_275.out _; (with_reducible repeat (first | refine blk_drewN ?_ _ | refine blk_drew ?_ | refine blk_alloc ?_ _)); refine blk_far ?_ NB269_275.out _; (with_reducible repeat (first | refine blk_drewN ?_ _ | refine blk_drew ?_ | refine blk_alloc ?_ _)); exact BK269.out⟩, ⟨by (with_reducible repeat (first | refine blk_drewN ?_ _ | refine blk_drew ?_ | refine blk_alloc ?_ _)); refine blk_put (cs := #[.string ((rd_T77 ((rd_T68 l0_0 x4_2).f3) x5_4).f0), .int .i64 ((rd_T77 ((rd_T68 l0_0 x4_2).f3) x5_4).f1), .int .i64 ((rd_T77 ((rd_T68 l0_0 x4_2).f3) x5_4).f2), .slice none 0 0]) ?_ 3 _ rfl; (with_reducible repeat (first | refine blk_drewN ?_ _ | refine blk_drew ?_ | refine blk_alloc ?_ _)); refine blk_put (cs := #[.string ((rd_T77 ((rd_T68 l0_0 x4_2).f3) x5_4).f0), .int .i64 ((rd_T77 ((rd_T68 l0_0 x4_2).f3) x5_4).f1), .int .i64 0, .slice none 0 0]) ?_ 2 _ rfl; (with_reducible repeat (first | refine blk_drewN ?_ _ | refine blk_drew ?_ | refine blk_alloc ?_ _)); refine blk_put (cs := #[.string ((rd_T77 ((rd_T68 l0_0 x4_2).f3) x5_4).f0), .int .i64 0, .int .i64 0, .slice none 0 0]) ?_ 1 _ rfl; (with_reducible repeat (first | refine blk_drewN ?_ _ | refine blk_drew ?_ | refine blk_alloc ?_ _)); refine blk_put (cs := #[.string (⟨#[]⟩ : ByteArray), .int .i64 0, .int .i64 0, .slice none 0 0]) ?_ 0 _ rfl; (with_reducible repeat (first | refine blk_drewN ?_ _ | refine blk_drew ?_ | refine blk_alloc ?_ _)); exact BK275.out⟩, ⟨bb HB⟩⟩
                 case rest =>
                  clear HC19 c15b0 c16b0 c17b0 c18b0 hcz20_0 hcz20_1 hcz23_0 hcz23_1 hcz23_2 hcz23_3 hfz20_0 hfz20_1 hfz23_0 hfz23_1 hfz23_2 hfz23_3 hx272_0 hx272_1 hx272_2 hx272_3 hx273_0 hx273_1 hx273_2 hx273_3 hx274_0 hx274_1 hx274_2 hx274_3 p272 p273 p274 q272 q273 q274
                  obtain ⟨kq, x76_18, rfl, HA, HJ18, BK269, BK275, HB⟩ := hcut
                  cases kq with
                  | zero => exact absurd HA.out (by simp [q4_Few.j4])
                  | succ kj18 =>
                   have H := HA.out
                   clear HA
                   simp only [q4_Few.j4] at H
                   by_cases c29 : x76_18 = true
                   ·subst c29
                    replace H := ift H
                    obtain rfl := Option.some.inj H
                    go_wp2
                    go_ret
                    exact ⟨erf, bb HB⟩
                   ·replace c29 := Bool.eq_false_iff.mpr c29
                    subst c29
                    replace H := iff_ H
                    have H' := Aside0.mk H
                    clear H
                    go_wp2
                    go_loopg [7] kj18 (fun kq v7 w' => ∃ (x7_6 : Int), v7 = .int .i64 x7_6 ∧ Aside0 (q4_Few.l2 kq (wrap64 (x3_2 + (((rd_T68 l0_0 x4_2).f3).length : Int))) x4_2 x5_4 x7_6 l0_0 l0_1 ((rd_T77 ((rd_T68 l0_0 x4_2).f3) x5_4).f0) ((rd_T77 ((rd_T68 l0_0 x4_2).f3) x5_4).f1) ((rd_T77 ((rd_T68 l0_0 x4_2).f3) x5_4).f2) ((rd_T77 ((rd_T68 l0_0 x4_2).f3) x5_4).f3) = some r) ∧ Aside0 (kq ≤ kj18) ∧ Aside0 (w'.heap[gb269]? = some (.cells #[(.slice (some ad270) l0_0.length c0_0), (.slice A0_1 l0_1.length c0_1)] 25 (0, 0))) ∧ Aside0 (w'.heap[gb275]? = some (.cells #[.string ((rd_T77 ((rd_T68 l0_0 x4_2).f3) x5_4).f0), .int .i64 ((rd_T77 ((rd_T68 l0_0 x4_2).f3) x5_4).f1), .int .i64 ((rd_T77 ((rd_T68 l0_0 x4_2).f3) x5_4).f2), (.slice A274_3 ((rd_T77 ((rd_T68 l0_0 x4_2).f3) x5_4).f3).length c274_3)] 77 (0, 0))) ∧ Aside0 (Below w.heap.size w w'))
                    case atStart => exact ⟨(0), eqs, H', ⟨Nat.le_refl _⟩, ⟨bk BK269⟩, ⟨bk BK275⟩, ⟨bb HB⟩⟩
                    case round =>
                     clear H'
                     obtain ⟨x7_6, rfl, HA, HK6, BK269, BK275, HB⟩ := hrel
                     cases gk with
                     | zero => exact absurd HA.out (by simp [q4_Few.l2])
                     | succ k6 =>
                      have H := HA.out
                      clear HA
                      simp only [q4_Few.l2] at H
                      by_cases c30 : x7_6 < (((rd_T77 ((rd_T68 l0_0 x4_2).f3) x5_4).f3).length : Int)
                      ·rw [if_pos c30] at H
                       have c30b0 : decide (x7_6 < (((rd_T77 ((rd_T68 l0_0 x4_2).f3) x5_4).f3).length : Int)) = true := decide_eq_true c30
                       clear c30
                       by_cases c31 : 0 ≤ x7_6
                       ·rw [if_pos c31] at H
                        have c31b0 : decide (0 ≤ x7_6) = true := decide_eq_true c31
                        clear c31
                        by_cases c32 : ((rdOf ByteArray.empty ((rd_T77 ((rd_T68 l0_0 x4_2).f3) x5_4).f3) x7_6).size : Int) > 40
                        ·rw [if_pos c32] at H
                         have c32b0 : decide (40 < ((rdOf ByteArray.empty ((rd_T77 ((rd_T68 l0_0 x4_2).f3) x5_4).f3) x7_6).size : Int)) = true := decide_eq_true c32
                         have c32b1 : decide (40 < (rdOf ByteArray.empty ((rd_T77 ((rd_T68 l0_0 x4_2).f3) x5_4).f3) x7_6).size) = true := decide_eq_true (by omega)
                         clear c32
                         obtain rfl := Option.some.inj H
                         have hnb33 := NB275_269.out
                         have hnc33 := NB269_275.out
                         obtain ⟨hcz34_0, hcz34_1, hcz34_2, hcz34_3, hfz34_0, hfz34_1, hfz34_2, hfz34_3⟩ := cz4 BK275
                         have p276 : 0 ≤ x7_6 := odt
                         have q276 : x7_6 < (((rd_T77 ((rd_T68 l0_0 x4_2).f3) x5_4).f3).length : Int) := odt
                         obtain ⟨ad276, e276, hx276_0⟩ := Kd.at_string HR274_3.out x7_6 p276 q276
                         cases e276
                         replace hx276_0 := hxc HB hx276_0
                         replace p276 := eq_true p276
                         replace q276 := eq_true q276
                         go_wp2
                         go_ret
                         exact ⟨erf, bb HB⟩
                        ·rw [if_neg c32] at H
                         have c32b0 : decide (40 < ((rdOf ByteArray.empty ((rd_T77 ((rd_T68 l0_0 x4_2).f3) x5_4).f3) x7_6).size : Int)) = false := decide_eq_false c32
                         have c32b1 : decide (40 < (rdOf ByteArray.empty ((rd_T77 ((rd_T68 l0_0 x4_2).f3) x5_4).f3) x7_6).size) = false := decide_eq_false (by omega)
                         clear c32
                         have H' := Aside0.mk H
                         clear H
                         have hnb35 := NB275_269.out
                         have hnc35 := NB269_275.out
                         obtain ⟨hcz36_0, hcz36_1, hcz36_2, hcz36_3, hfz36_0, hfz36_1, hfz36_2, hfz36_3⟩ := cz4 BK275
                         have p276 : 0 ≤ x7_6 := odt
                         have q276 : x7_6 < (((rd_T77 ((rd_T68 l0_0 x4_2).f3) x5_4).f3).length : Int) := odt
                         obtain ⟨ad276, e276, hx276_0⟩ := Kd.at_string HR274_3.out x7_6 p276 q276
                         cases e276
                         replace hx276_0 := hxc HB hx276_0
                         replace p276 := eq_true p276
                         replace q276 := eq_true q276
                         go_wp2
                         go_roundg k6
                         case measure => have := HJ1.out; have := HK2.out; have := HJ9.out; have := HK4.out; have := HJ18.out; have := HK6.out; omega
                         case rel => exact ⟨(wrap64 (x7_6 + 1)), eqs, H', ⟨by have := HJ1.out; have := HK2.out; have := HJ9.out; have := HK4.out; have := HJ18.out; have := HK6.out; omega⟩, ⟨bk BK269⟩, ⟨bk BK275⟩, ⟨bb HB⟩⟩
                       ·rw [if_neg c31] at H
                        exact absurd H (by simp)
                      ·rw [if_neg c30] at H
                       have c30b0 : decide (x7_6 < (((rd_T77 ((rd_T68 l0_0 x4_2).f3) x5_4).f3).length : Int)) = false := decide_eq_false c30
                       clear c30
                       have H' := Aside0.mk H
                       clear H
                       have hnb37 := NB275_269.out
                       have hnc37 := NB269_275.out
                       obtain ⟨hcz38_0, hcz38_1, hcz38_2, hcz38_3, hfz38_0, hfz38_1, hfz38_2, hfz38_3⟩ := cz4 BK275
                       go_wp2
                       go_roundg k6
                       case measure => have := HJ1.out; have := HK2.out; have := HJ9.out; have := HK4.out; have := HJ18.out; have := HK6.out; omega
                       case rel => exact ⟨(wrap64 (x5_4 + 1)), eqs, H', ⟨by have := HJ1.out; have := HK2.out; have := HJ9.out; have := HK4.out; have := HJ18.out; have := HK6.out; omega⟩, ⟨bk BK269⟩, ⟨bb HB⟩⟩
                ·rw [if_neg c18] at H
                 exact absurd H (by simp)
               ·rw [if_neg c17] at H
                have c17b0 : decide (x5_4 < (((rd_T68 l0_0 x4_2).f3).length : Int)) = false := decide_eq_false c17
                clear c17
                have H' := Aside0.mk H
                clear H
                obtain ⟨hcz39_0, hcz39_1, hfz39_0, hfz39_1⟩ := cz2 BK269
                have p272 : 0 ≤ x4_2 := odt
                have q272 : x4_2 < (l0_0.length : Int) := odt
                obtain ⟨ad272, A272_3, c272_3, e272, hx272_0, hx272_1, hx272_2, hx272_3, hl272_3, hi272_3⟩ := at_T68 HR0_0.out x4_2 p272 q272
                obtain rfl : ad270 = ad272 := (by injection e272)
                replace hx272_0 := hxc HB hx272_0
                replace hx272_1 := hxc HB hx272_1
                replace hx272_2 := hxc HB hx272_2
                replace hx272_3 := hxc HB hx272_3
                have HR272_3 := Aside0.mk hi272_3
                have HC272_3 := Aside0.mk hl272_3
                clear hi272_3 hl272_3
                replace p272 := eq_true p272
                replace q272 := eq_true q272
                go_wp2
                go_roundg k4
                case measure => have := HJ1.out; have := HK2.out; have := HJ9.out; have := HK4.out; omega
                case rel => exact ⟨((wrap64 (x3_2 + (((rd_T68 l0_0 x4_2).f3).length : Int)))), (wrap64 (x4_2 + 1)), eqs, eqs, H', ⟨by have := HJ1.out; have := HK2.out; have := HJ9.out; have := HK4.out; omega⟩, ⟨bk BK269⟩, ⟨bb HB⟩⟩
              ·rw [if_neg c16] at H
               exact absurd H (by simp)
             ·rw [if_neg c15] at H
              exact absurd H (by simp)
       ·rw [if_neg c9] at H
        exact absurd H (by simp)
      ·rw [if_neg c8] at H
       have c8b0 : decide (x4_2 < (l0_0.length : Int)) = false := decide_eq_false c8
       clear c8
       have H' := Aside0.mk H
       clear H
       obtain ⟨hcz40_0, hcz40_1, hfz40_0, hfz40_1⟩ := cz2 BK269
       go_wp2
       go_loopg [8] k2 (fun kq v8 w' => ∃ (x8_3 : Int), v8 = .int .i64 x8_3 ∧ Aside0 (q4_Few.l3 kq x8_3 l0_0 l0_1 = some r) ∧ Aside0 (kq ≤ k2) ∧ Aside0 (w'.heap[gb269]? = some (.cells #[(.slice A0_0 l0_0.length c0_0), (.slice A0_1 l0_1.length c0_1)] 25 (0, 0))) ∧ Aside0 (Below w.heap.size w w'))
       case atStart => exact ⟨(0), eqs, H', ⟨Nat.le_refl _⟩, ⟨bk BK269⟩, ⟨bb HB⟩⟩
       case round =>
        clear H'
        clear c8b0 hcz40_0 hcz40_1 hfz40_0 hfz40_1
        obtain ⟨x8_3, rfl, HA, HK3, BK269, HB⟩ := hrel
        cases gk with
        | zero => exact absurd HA.out (by simp [q4_Few.l3])
        | succ k3 =>
         have H := HA.out
         clear HA
         simp only [q4_Few.l3] at H
         by_cases c41 : x8_3 < (l0_1.length : Int)
         ·rw [if_pos c41] at H
          have c41b0 : decide (x8_3 < (l0_1.length : Int)) = true := decide_eq_true c41
          clear c41
          by_cases c42 : 0 ≤ x8_3
          ·rw [if_pos c42] at H
           have c42b0 : decide (0 ≤ x8_3) = true := decide_eq_true c42
           clear c42
           by_cases c43 : (((rd_T71 l0_1 x8_3).f0).size : Int) > 40
           ·rw [if_pos c43] at H
            have c43b0 : decide (40 < (((rd_T71 l0_1 x8_3).f0).size : Int)) = true := decide_eq_true c43
            have c43b1 : decide (40 < ((rd_T71 l0_1 x8_3).f0).size) = true := decide_eq_true (by omega)
            clear c43
            obtain rfl := Option.some.inj H
            obtain ⟨hcz44_0, hcz44_1, hfz44_0, hfz44_1⟩ := cz2 BK269
            have p277 : 0 ≤ x8_3 := odt
            have q277 : x8_3 < (l0_1.length : Int) := odt
            obtain ⟨ad277, e277, hx277_0, hx277_1, hx277_2, hx277_3, hx277_4, hx277_5, hx277_6⟩ := at_T71 HR0_1.out x8_3 p277 q277
            cases e277
            replace hx277_0 := hxc HB hx277_0
            replace hx277_1 := hxc HB hx277_1
            replace hx277_2 := hxc HB hx277_2
            replace hx277_3 := hxc HB hx277_3
            replace hx277_4 := hxc HB hx277_4
            replace hx277_5 := hxc HB hx277_5
            replace hx277_6 := hxc HB hx277_6
            replace p277 := eq_true p277
            replace q277 := eq_true q277
            go_wp2
            go_ret
            exact ⟨erf, bb HB⟩
           ·rw [if_neg c43] at H
            have c43b0 : decide (40 < (((rd_T71 l0_1 x8_3).f0).size : Int)) = false := decide_eq_false c43
            have c43b1 : decide (40 < ((rd_T71 l0_1 x8_3).f0).size) = false := decide_eq_false (by omega)
            clear c43
            have H' := Aside0.mk H
            clear H
            obtain ⟨hcz45_0, hcz45_1, hfz45_0, hfz45_1⟩ := cz2 BK269
            have p277 : 0 ≤ x8_3 := odt
            have q277 : x8_3 < (l0_1.length : Int) := odt
            obtain ⟨ad277, e277, hx277_0, hx277_1, hx277_2, hx277_3, hx277_4, hx277_5, hx277_6⟩ := at_T71 HR0_1.out x8_3 p277 q277
            cases e277
            replace hx277_0 := hxc HB hx277_0
            replace hx277_1 := hxc HB hx277_1
            replace hx277_2 := hxc HB hx277_2
            replace hx277_3 := hxc HB hx277_3
            replace hx277_4 := hxc HB hx277_4
            replace hx277_5 := hxc HB hx277_5
            replace hx277_6 := hxc HB hx277_6
            replace p277 := eq_true p277
            replace q277 := eq_true q277
            go_wp2
            go_roundg k3
            case measure => have := HJ1.out; have := HK2.out; have := HK3.out; omega
            case rel => exact ⟨(wrap64 (x8_3 + 1)), eqs, H', ⟨by have := HJ1.out; have := HK2.out; have := HK3.out; omega⟩, ⟨bk BK269⟩, ⟨bb HB⟩⟩
          ·rw [if_neg c42] at H
           exact absurd H (by simp)
         ·rw [if_neg c41] at H
          have c41b0 : decide (x8_3 < (l0_1.length : Int)) = false := decide_eq_false c41
          clear c41
          obtain rfl := Option.some.inj H
          obtain ⟨hcz46_0, hcz46_1, hfz46_0, hfz46_1⟩ := cz2 BK269
          go_wp2
          go_ret
          exact ⟨erf, bb HB⟩
end Go.Proofs.Ytfpianecohobjaa.P
