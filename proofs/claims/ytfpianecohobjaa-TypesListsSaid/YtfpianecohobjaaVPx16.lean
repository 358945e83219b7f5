/- typesLists_holds: a part of the proof that the law returns true for every input. No condition. -/
import Derived.Test.YtfpianecohobjaaVPx0
import Derived.Test.YtfpianecohobjaaVPx12
import Derived.Test.YtfpianecohobjaaVPx14
import Derived.Test.YtfpianecohobjaaVPx15
namespace Go.Proofs.Ytfpianecohobjaa.P
open Go.RowKit Go.Proofs.YtfpianecohobjaaW.PrintWords Go.Proofs.YtfpianecohobjaaW.PrintLast Go.Proofs.YtfpianecohobjaaW.PrintMore
set_option linter.unusedVariables false
set_option linter.unusedSimpArgs false
def q1_Right.f (k : Nat) (a0_0 : Int) (a0_1 : ByteArray) (a0_2 : Int) : Option (Bool) := (q1_text.f a0_0 a0_1 a0_2).bind fun t315 => (if t315.toList = ([] : List UInt8) then (some false) else ((q1_one.f k t315 0).bind fun bt316 => (if bt316.2.2.2.2 = 0 then (if bt316.2.2.2.1 = (t315.size : Int) then (some (bt316.1 == a0_0)) else (some false)) else (some false))))
set_option maxHeartbeats 8000000 in
set_option maxRecDepth 100000 in
theorem q1_Right.calls (k : Nat) (a0_0 : Int) (a0_1 : ByteArray) (a0_2 : Int) (r : Bool) (w : World) (h : q1_Right.f k a0_0 a0_1 a0_2 = some r) :
  Calls Try.prog 89 #[.agg #[.int .i64 a0_0, .string a0_1, .int .i64 a0_2]] w fun e w' => e = .returned (.bool r) ∧ Below w.heap.size w w' := by
 have hu119 := Try.underlying119
 have HB := Aside0.mk (Below.refl w.heap.size w)
 have H : ((q1_text.f a0_0 a0_1 a0_2).bind fun t315 => (if t315.toList = ([] : List UInt8) then (some false) else ((q1_one.f k t315 0).bind fun bt316 => (if bt316.2.2.2.2 = 0 then (if bt316.2.2.2.1 = (t315.size : Int) then (some (bt316.1 == a0_0)) else (some false)) else (some false))))) = some r := h
 clear h
 replace H := Option.bind_eq_some_iff.mp H
 obtain ⟨t315, A20, H⟩ := H
 replace H : (if t315.toList = ([] : List UInt8) then (some false) else ((q1_one.f k t315 0).bind fun bt316 => (if bt316.2.2.2.2 = 0 then (if bt316.2.2.2.1 = (t315.size : Int) then (some (bt316.1 == a0_0)) else (some false)) else (some false)))) = some r := H
 have A2 := Aside0.mk A20
 clear A20
 by_cases c3 : t315.toList = ([] : List UInt8)
 ·rw [if_pos c3] at H
  have c3b0 : (t315.toList == ([] : List UInt8)) = true := beq_iff_eq.mpr c3
  have c3b1 : (t315.toList != ([] : List UInt8)) = false := bne_eq_false_iff_eq.mpr c3
  clear c3
  obtain rfl := Option.some.inj H
  go_enter Try.func89, Try.ntmps89
  go_wp2_with (first | ((with_reducible refine gate_dst (N := 1) rfl ?_); (try (refine gate_guard (by rfl) ?_; dsimp only)); refine box_event ?hg (N := 1) ?hd (cs := #[.int .i64 a0_0, .string a0_1, .int .i64 a0_2]) (t := 119) ?hr ?_; (case hd => rfl); (case hg => rfl); (case hr => first | (go_simp; done) | (go_simp; rfl)); intro gb314 hg w4 hbox hb; have BK314 := Aside0.mk (hbox); have GW314 := bsz HB hg; have GE314 := bsz HB hg; replace HB := bstep HB hb; clear hb hbox hg; obtain ⟨hcz5_0, hcz5_1, hcz5_2, hfz5_0, hfz5_1, hfz5_2⟩ := cz3 BK314) | ((with_reducible refine gate_callee (f := 106) rfl ?_); refine gl 8 Try.func106 #[.agg #[.int .i64 a0_0, .string a0_1, .int .i64 a0_2]] (h := ?_); (with_reducible refine (q1_text.calls a0_0 a0_1 a0_2 t315 _ A2.out).mono ?_); rintro e w6 ⟨rfl, hb⟩; refine ⟨_, rfl, ?_⟩; replace BK314 := bkb BK314 hb; replace HB := bstep HB hb; (try clear hb); (try clear hb2); (try clear hk); (try clear hi)))
  go_ret
  exact ⟨erf, bb HB⟩
 ·rw [if_neg c3] at H
  have c3b0 : (t315.toList == ([] : List UInt8)) = false := beq_eq_false_iff_ne.mpr c3
  have c3b1 : (t315.toList != ([] : List UInt8)) = true := bne_iff_ne.mpr c3
  replace H := Option.bind_eq_some_iff.mp H
  obtain ⟨⟨t316, t317, t318, t319, t320⟩, A70, H⟩ := H
  replace H : (if t320 = 0 then (if t319 = (t315.size : Int) then (some (t316 == a0_0)) else (some false)) else (some false)) = some r := H
  have A7 := Aside0.mk A70
  clear A70
  by_cases c8 : t320 = 0
  ·rw [if_pos c8] at H
   have c8b0 : (t320 == 0) = true := beq_iff_eq.mpr c8
   have c8b1 : (t320 != 0) = false := bne_eq_false_iff_eq.mpr c8
   clear c8
   by_cases c9 : t319 = (t315.size : Int)
   ·rw [if_pos c9] at H
    have c9b0 : (t319 == (t315.size : Int)) = true := beq_iff_eq.mpr c9
    have c9b1 : (t319 != (t315.size : Int)) = false := bne_eq_false_iff_eq.mpr c9
    clear c9
    obtain rfl := Option.some.inj H
    go_enter Try.func89, Try.ntmps89
    go_wp2_with (first | ((with_reducible refine gate_dst (N := 1) rfl ?_); (try (refine gate_guard (by rfl) ?_; dsimp only)); refine box_event ?hg (N := 1) ?hd (cs := #[.int .i64 a0_0, .string a0_1, .int .i64 a0_2]) (t := 119) ?hr ?_; (case hd => rfl); (case hg => rfl); (case hr => first | (go_simp; done) | (go_simp; rfl)); intro gb314 hg w10 hbox hb; have BK314 := Aside0.mk (hbox); have GW314 := bsz HB hg; have GE314 := bsz HB hg; replace HB := bstep HB hb; clear hb hbox hg; obtain ⟨hcz11_0, hcz11_1, hcz11_2, hfz11_0, hfz11_1, hfz11_2⟩ := cz3 BK314) | ((with_reducible refine gate_callee (f := 106) rfl ?_); refine gl 8 Try.func106 #[.agg #[.int .i64 a0_0, .string a0_1, .int .i64 a0_2]] (h := ?_); (with_reducible refine (q1_text.calls a0_0 a0_1 a0_2 t315 _ A2.out).mono ?_); rintro e w12 ⟨rfl, hb⟩; refine ⟨_, rfl, ?_⟩; replace BK314 := bkb BK314 hb; replace HB := bstep HB hb; (try clear hb); (try clear hb2); (try clear hk); (try clear hi)) | ((with_reducible refine gate_callee (f := 107) rfl ?_); refine gl 13 Try.func107 #[.string t315, .int .i64 0] (h := ?_); (with_reducible refine (q1_one.calls k t315 0 t316 t317 t318 t319 t320 _ A7.out).mono ?_); rintro e w13 ⟨rfl, hb⟩; refine ⟨_, rfl, ?_⟩; replace BK314 := bkb BK314 hb; replace HB := bstep HB hb; (try clear hb); (try clear hb2); (try clear hk); (try clear hi)) | ((with_reducible refine gate_dst (N := 4) rfl ?_); (try (refine gate_guard (by rfl) ?_; dsimp only)); refine box_event ?hg (N := 4) ?hd (cs := #[.int .i64 0, .string (⟨#[]⟩ : ByteArray), .int .i64 0]) (t := 119) ?hr ?_; (case hd => rfl); (case hg => rfl); (case hr => first | (go_simp; done) | (go_simp; rfl)); intro gb321 hg w14 hbox hb; have BK321 := Aside0.mk (hbox); have GW321 := bsz HB hg; have GE321 := bsz HB hg; replace HB := bstep HB hb; have NB314_321 := blt BK314 hg; have NB321_314 := bgt BK314 hg; replace BK314 := bkb BK314 hb; clear hb hbox hg; have hnb15 := NB321_314.out; have hnc15 := NB314_321.out; obtain ⟨hcz16_0, hcz16_1, hcz16_2, hfz16_0, hfz16_1, hfz16_2⟩ := cz3 BK321; obtain ⟨hcz17_0, hcz17_1, hcz17_2, hfz17_0, hfz17_1, hfz17_2⟩ := cz3 BK314))
    go_ret
    exact ⟨erf, bb HB⟩
   ·rw [if_neg c9] at H
    have c9b0 : (t319 == (t315.size : Int)) = false := beq_eq_false_iff_ne.mpr c9
    have c9b1 : (t319 != (t315.size : Int)) = true := bne_iff_ne.mpr c9
    obtain rfl := Option.some.inj H
    go_enter Try.func89, Try.ntmps89
    go_wp2_with (first | ((with_reducible refine gate_dst (N := 1) rfl ?_); (try (refine gate_guard (by rfl) ?_; dsimp only)); refine box_event ?hg (N := 1) ?hd (cs := #[.int .i64 a0_0, .string a0_1, .int .i64 a0_2]) (t := 119) ?hr ?_; (case hd => rfl); (case hg => rfl); (case hr => first | (go_simp; done) | (go_simp; rfl)); intro gb314 hg w18 hbox hb; have BK314 := Aside0.mk (hbox); have GW314 := bsz HB hg; have GE314 := bsz HB hg; replace HB := bstep HB hb; clear hb hbox hg; obtain ⟨hcz19_0, hcz19_1, hcz19_2, hfz19_0, hfz19_1, hfz19_2⟩ := cz3 BK314) | ((with_reducible refine gate_callee (f := 106) rfl ?_); refine gl 8 Try.func106 #[.agg #[.int .i64 a0_0, .string a0_1, .int .i64 a0_2]] (h := ?_); (with_reducible refine (q1_text.calls a0_0 a0_1 a0_2 t315 _ A2.out).mono ?_); rintro e w20 ⟨rfl, hb⟩; refine ⟨_, rfl, ?_⟩; replace BK314 := bkb BK314 hb; replace HB := bstep HB hb; (try clear hb); (try clear hb2); (try clear hk); (try clear hi)) | ((with_reducible refine gate_callee (f := 107) rfl ?_); refine gl 13 Try.func107 #[.string t315, .int .i64 0] (h := ?_); (with_reducible refine (q1_one.calls k t315 0 t316 t317 t318 t319 t320 _ A7.out).mono ?_); rintro e w21 ⟨rfl, hb⟩; refine ⟨_, rfl, ?_⟩; replace BK314 := bkb BK314 hb; replace HB := bstep HB hb; (try clear hb); (try clear hb2); (try clear hk); (try clear hi)) | ((with_reducible refine gate_dst (N := 4) rfl ?_); (try (refine gate_guard (by rfl) ?_; dsimp only)); refine box_event ?hg (N := 4) ?hd (cs := #[.int .i64 0, .string (⟨#[]⟩ : ByteArray), .int .i64 0]) (t := 119) ?hr ?_; (case hd => rfl); (case hg => rfl); (case hr => first | (go_simp; done) | (go_simp; rfl)); intro gb321 hg w22 hbox hb; have BK321 := Aside0.mk (hbox); have GW321 := bsz HB hg; have GE321 := bsz HB hg; replace HB := bstep HB hb; have NB314_321 := blt BK314 hg; have NB321_314 := bgt BK314 hg; replace BK314 := bkb BK314 hb; clear hb hbox hg; have hnb23 := NB321_314.out; have hnc23 := NB314_321.out; obtain ⟨hcz24_0, hcz24_1, hcz24_2, hfz24_0, hfz24_1, hfz24_2⟩ := cz3 BK321))
    go_ret
    exact ⟨erf, bb HB⟩
  ·rw [if_neg c8] at H
   have c8b0 : (t320 == 0) = false := beq_eq_false_iff_ne.mpr c8
   have c8b1 : (t320 != 0) = true := bne_iff_ne.mpr c8
   obtain rfl := Option.some.inj H
   go_enter Try.func89, Try.ntmps89
   go_wp2_with (first | ((with_reducible refine gate_dst (N := 1) rfl ?_); (try (refine gate_guard (by rfl) ?_; dsimp only)); refine box_event ?hg (N := 1) ?hd (cs := #[.int .i64 a0_0, .string a0_1, .int .i64 a0_2]) (t := 119) ?hr ?_; (case hd => rfl); (case hg => rfl); (case hr => first | (go_simp; done) | (go_simp; rfl)); intro gb314 hg w25 hbox hb; have BK314 := Aside0.mk (hbox); have GW314 := bsz HB hg; have GE314 := bsz HB hg; replace HB := bstep HB hb; clear hb hbox hg; obtain ⟨hcz26_0, hcz26_1, hcz26_2, hfz26_0, hfz26_1, hfz26_2⟩ := cz3 BK314) | ((with_reducible refine gate_callee (f := 106) rfl ?_); refine gl 8 Try.func106 #[.agg #[.int .i64 a0_0, .string a0_1, .int .i64 a0_2]] (h := ?_); (with_reducible refine (q1_text.calls a0_0 a0_1 a0_2 t315 _ A2.out).mono ?_); rintro e w27 ⟨rfl, hb⟩; refine ⟨_, rfl, ?_⟩; replace BK314 := bkb BK314 hb; replace HB := bstep HB hb; (try clear hb); (try clear hb2); (try clear hk); (try clear hi)) | ((with_reducible refine gate_callee (f := 107) rfl ?_); refine gl 13 Try.func107 #[.string t315, .int .i64 0] (h := ?_); (with_reducible refine (q1_one.calls k t315 0 t316 t317 t318 t319 t320 _ A7.out).mono ?_); rintro e w28 ⟨rfl, hb⟩; refine ⟨_, rfl, ?_⟩; replace BK314 := bkb BK314 hb; replace HB := bstep HB hb; (try clear hb); (try clear hb2); (try clear hk); (try clear hi)) | ((with_reducible refine gate_dst (N := 4) rfl ?_); (try (refine gate_guard (by rfl) ?_; dsimp only)); refine box_event ?hg (N := 4) ?hd (cs := #[.int .i64 0, .string (⟨#[]⟩ : ByteArray), .int .i64 0]) (t := 119) ?hr ?_; (case hd => rfl); (case hg => rfl); (case hr => first | (go_simp; done) | (go_simp; rfl)); intro gb321 hg w29 hbox hb; have BK321 := Aside0.mk (hbox); have GW321 := bsz HB hg; have GE321 := bsz HB hg; replace HB := bstep HB hb; have NB314_321 := blt BK314 hg; have NB321_314 := bgt BK314 hg; replace BK314 := bkb BK314 hb; clear hb hbox hg; have hnb30 := NB321_314.out; have hnc30 := NB314_321.out; obtain ⟨hcz31_0, hcz31_1, hcz31_2, hfz31_0, hfz31_1, hfz31_2⟩ := cz3 BK321))
   go_ret
   exact ⟨erf, bb HB⟩
def q1_IsName.f (k : Nat) (a0 : ByteArray) : Option (Bool) := (q1_Right.f k 1 a0 0).bind fun t322 => (some t322)
set_option maxHeartbeats 8000000 in
set_option maxRecDepth 100000 in
theorem q1_IsName.calls (k : Nat) (a0 : ByteArray) (r : Bool) (w : World) (h : q1_IsName.f k a0 = some r) :
  Calls Try.prog 67 #[.string a0] w fun e w' => e = .returned (.bool r) ∧ Below w.heap.size w w' := by
 have hu119 := Try.underlying119
 have HB := Aside0.mk (Below.refl w.heap.size w)
 have H : ((q1_Right.f k 1 a0 0).bind fun t322 => (some t322)) = some r := h
 clear h
 replace H := Option.bind_eq_some_iff.mp H
 obtain ⟨t322, A20, H⟩ := H
 replace H : (some t322) = some r := H
 have A2 := Aside0.mk A20
 clear A20
 obtain rfl := Option.some.inj H
 go_enter Try.func67, Try.ntmps67
 go_wp2_with ((with_reducible refine gate_callee (f := 89) rfl ?_); refine gl 5 Try.func89 #[.agg #[.int .i64 1, .string a0, .int .i64 0]] (h := ?_); (with_reducible refine (q1_Right.calls k 1 a0 0 t322 _ A2.out).mono ?_); rintro e w3 ⟨rfl, hb⟩; refine ⟨_, rfl, ?_⟩; replace HB := bstep HB hb; (try clear hb); (try clear hb2); (try clear hk); (try clear hi))
 go_ret
 exact ⟨erf, bb HB⟩
mutual
def q4_names.l0 : Nat → List ByteArray → Int → Option (Int)
 | 0, _, _ => none
 | k + 1, x0, x3 => if x3 < (x0.length : Int) then (if 0 ≤ x3 then ((q1_IsName.f k (rdOf ByteArray.empty x0 x3)).bind fun t324 => (if t324 = true then (q4_names.l1 k x0 x3 0) else (some 2))) else (none)) else (some 0)
def q4_names.l1 : Nat → List ByteArray → Int → Int → Option (Int)
 | 0, _, _, _ => none
 | k + 1, x0, x3, x4 => if x4 < x3 then (if 0 ≤ x4 then (if x4 < (x0.length : Int) then (if 0 ≤ x3 then (if x3 < (x0.length : Int) then (if (rdOf ByteArray.empty x0 x4).toList = (rdOf ByteArray.empty x0 x3).toList then (some 5) else (q4_names.l1 k x0 x3 (wrap64 (x4 + 1)))) else (none)) else (none)) else (none)) else (none)) else (q4_names.l0 k x0 (wrap64 (x3 + 1)))
end
def q4_names.f (k : Nat) (l0 : List ByteArray) : Option (Int) := if (l0.length : Int) > 20 then (some 3) else (q4_names.l0 k l0 0)
set_option maxHeartbeats 8000000 in
set_option maxRecDepth 100000 in
theorem q4_names.calls (k : Nat) (A0 : Option Addr) (c0 : Nat) (l0 : List ByteArray) (r : Int) (w : World) (hr0 : Kd.C Kd.string w A0 l0.length l0) (hc0 : l0.length ≤ c0) (h : q4_names.f k l0 = some r) :
  Calls Try.prog 90 #[.slice A0 l0.length c0] w fun e w' => e = .returned (.int .i64 r) ∧ Below w.heap.size w w' := by
 have HR0 := Aside0.mk hr0
 have HC0 := Aside0.mk hc0
 clear hr0 hc0
 have HB := Aside0.mk (Below.refl w.heap.size w)
 have H : (if (l0.length : Int) > 20 then (some 3) else (q4_names.l0 k l0 0)) = some r := h
 clear h
 by_cases c2 : (l0.length : Int) > 20
 ·rw [if_pos c2] at H
  have c2b0 : decide (20 < (l0.length : Int)) = true := decide_eq_true c2
  have c2b1 : decide (20 < l0.length) = true := decide_eq_true (by omega)
  clear c2
  obtain rfl := Option.some.inj H
  go_enter Try.func90, Try.ntmps90
  go_wp2
  repeat (go_quiet (fail); try go_wp2)
  go_ret
  exact ⟨erf, bb HB⟩
 ·rw [if_neg c2] at H
  have c2b0 : decide (20 < (l0.length : Int)) = false := decide_eq_false c2
  have c2b1 : decide (20 < l0.length) = false := decide_eq_false (by omega)
  clear c2
  have H' := Aside0.mk H
  clear H
  go_enter Try.func90, Try.ntmps90
  go_wp2
  repeat (go_quiet (fail); try go_wp2)
  go_loopg [3] k (fun kq v3 w' => ∃ (x3_1 : Int), v3 = .int .i64 x3_1 ∧ Aside0 (q4_names.l0 kq l0 x3_1 = some r) ∧ Aside0 (kq ≤ k) ∧ Aside0 (Below w.heap.size w w'))
  case atStart => exact ⟨(0), eqs, H', ⟨Nat.le_refl _⟩, ⟨bb HB⟩⟩
  case round =>
   clear H'
   clear c2b0 c2b1
   obtain ⟨x3_1, rfl, HA, HK1, HB⟩ := hrel
   cases gk with
   | zero => exact absurd HA.out (by simp [q4_names.l0])
   | succ k1 =>
    have H := HA.out
    clear HA
    simp only [q4_names.l0] at H
    by_cases c3 : x3_1 < (l0.length : Int)
    ·rw [if_pos c3] at H
     have c3b0 : decide (x3_1 < (l0.length : Int)) = true := decide_eq_true c3
     clear c3
     by_cases c4 : 0 ≤ x3_1
     ·rw [if_pos c4] at H
      have c4b0 : decide (0 ≤ x3_1) = true := decide_eq_true c4
      clear c4
      replace H := Option.bind_eq_some_iff.mp H
      obtain ⟨t324, A50, H⟩ := H
      replace H : (if t324 = true then (q4_names.l1 k1 l0 x3_1 0) else (some 2)) = some r := H
      have A5 := Aside0.mk A50
      clear A50
      by_cases c6 : t324 = true
      ·subst c6
       replace H := ift H
       have H' := Aside0.mk H
       clear H
       have p323 : 0 ≤ x3_1 := odt
       have q323 : x3_1 < (l0.length : Int) := odt
       obtain ⟨ad323, e323, hx323_0⟩ := Kd.at_string HR0.out x3_1 p323 q323
       cases e323
       replace hx323_0 := hxc HB hx323_0
       replace p323 := eq_true p323
       replace q323 := eq_true q323
       go_wp2_with (go_at_call 67; (with_reducible refine (q1_IsName.calls k1 (rdOf ByteArray.empty l0 x3_1) true _ A5.out).mono ?_); rintro e w7 ⟨rfl, hb⟩; replace HB := bstep HB hb; (try clear hb); (try clear hb2); (try clear hk); (try clear hi))
       repeat (go_quiet (fail); try go_wp2_with (fail))
       go_loopg [4] k1 (fun kq v4 w' => ∃ (x4_2 : Int), v4 = .int .i64 x4_2 ∧ Aside0 (q4_names.l1 kq l0 x3_1 x4_2 = some r) ∧ Aside0 (kq ≤ k1) ∧ Aside0 (Below w.heap.size w w'))
       case atStart => exact ⟨(0), eqs, H', ⟨Nat.le_refl _⟩, ⟨bb HB⟩⟩
       case round =>
        clear H'
        clear c3b0 c4b0 hx323_0 p323 q323
        obtain ⟨x4_2, rfl, HA, HK2, HB⟩ := hrel
        cases gk with
        | zero => exact absurd HA.out (by simp [q4_names.l1])
        | succ k2 =>
         have H := HA.out
         clear HA
         simp only [q4_names.l1] at H
         by_cases c8 : x4_2 < x3_1
         ·rw [if_pos c8] at H
          have c8b0 : decide (x4_2 < x3_1) = true := decide_eq_true c8
          clear c8
          by_cases c9 : 0 ≤ x4_2
          ·rw [if_pos c9] at H
           have c9b0 : decide (0 ≤ x4_2) = true := decide_eq_true c9
           clear c9
           by_cases c10 : x4_2 < (l0.length : Int)
           ·rw [if_pos c10] at H
            have c10b0 : decide (x4_2 < (l0.length : Int)) = true := decide_eq_true c10
            clear c10
            by_cases c11 : 0 ≤ x3_1
            ·rw [if_pos c11] at H
             have c11b0 : decide (0 ≤ x3_1) = true := decide_eq_true c11
             clear c11
             by_cases c12 : x3_1 < (l0.length : Int)
             ·rw [if_pos c12] at H
              have c12b0 : decide (x3_1 < (l0.length : Int)) = true := decide_eq_true c12
              clear c12
              by_cases c13 : (rdOf ByteArray.empty l0 x4_2).toList = (rdOf ByteArray.empty l0 x3_1).toList
              ·rw [if_pos c13] at H
               have c13b0 : ((rdOf ByteArray.empty l0 x4_2).toList == (rdOf ByteArray.empty l0 x3_1).toList) = true := beq_iff_eq.mpr c13
               have c13b1 : ((rdOf ByteArray.empty l0 x4_2).toList != (rdOf ByteArray.empty l0 x3_1).toList) = false := bne_eq_false_iff_eq.mpr c13
               clear c13
               obtain rfl := Option.some.inj H
               have p325 : 0 ≤ x4_2 := odt
               have q325 : x4_2 < (l0.length : Int) := odt
               obtain ⟨ad325, e325, hx325_0⟩ := Kd.at_string HR0.out x4_2 p325 q325
               obtain rfl : ad323 = ad325 := (by injection e325)
               replace hx325_0 := hxc HB hx325_0
               replace p325 := eq_true p325
               replace q325 := eq_true q325
               have p326 : 0 ≤ x3_1 := odt
               have q326 : x3_1 < (l0.length : Int) := odt
               obtain ⟨ad326, e326, hx326_0⟩ := Kd.at_string HR0.out x3_1 p326 q326
               obtain rfl : ad323 = ad326 := (by injection e326)
               replace hx326_0 := hxc HB hx326_0
               replace p326 := eq_true p326
               replace q326 := eq_true q326
               go_wp2
               repeat (go_quiet (fail); try go_wp2)
               go_ret
               exact ⟨erf, bb HB⟩
              ·rw [if_neg c13] at H
               have c13b0 : ((rdOf ByteArray.empty l0 x4_2).toList == (rdOf ByteArray.empty l0 x3_1).toList) = false := beq_eq_false_iff_ne.mpr c13
               have c13b1 : ((rdOf ByteArray.empty l0 x4_2).toList != (rdOf ByteArray.empty l0 x3_1).toList) = true := bne_iff_ne.mpr c13
               have H' := Aside0.mk H
               clear H
               have p325 : 0 ≤ x4_2 := odt
               have q325 : x4_2 < (l0.length : Int) := odt
               obtain ⟨ad325, e325, hx325_0⟩ := Kd.at_string HR0.out x4_2 p325 q325
               obtain rfl : ad323 = ad325 := (by injection e325)
               replace hx325_0 := hxc HB hx325_0
               replace p325 := eq_true p325
               replace q325 := eq_true q325
               have p326 : 0 ≤ x3_1 := odt
               have q326 : x3_1 < (l0.length : Int) := odt
               obtain ⟨ad326, e326, hx326_0⟩ := Kd.at_string HR0.out x3_1 p326 q326
               obtain rfl : ad323 = ad326 := (by injection e326)
               replace hx326_0 := hxc HB hx326_0
               replace p326 := eq_true p326
               replace q326 := eq_true q326
               go_wp2
               repeat (go_quiet (fail); try go_wp2)
               go_roundg k2
               case measure => have := HK1.out; have := HK2.out; omega
               case rel => exact ⟨(wrap64 (x4_2 + 1)), eqs, H', ⟨by have := HK1.out; have := HK2.out; omega⟩, ⟨bb HB⟩⟩
             ·rw [if_neg c12] at H
              exact absurd H (by simp)
            ·rw [if_neg c11] at H
             exact absurd H (by simp)
           ·rw [if_neg c10] at H
            exact absurd H (by simp)
          ·rw [if_neg c9] at H
           exact absurd H (by simp)
         ·rw [if_neg c8] at H
          have c8b0 : decide (x4_2 < x3_1) = false := decide_eq_false c8
          clear c8
          have H' := Aside0.mk H
          clear H
          go_wp2
          repeat (go_quiet (fail); try go_wp2)
          go_roundg k2
          case measure => have := HK1.out; have := HK2.out; omega
          case rel => exact ⟨(wrap64 (x3_1 + 1)), eqs, H', ⟨by have := HK1.out; have := HK2.out; omega⟩, ⟨bb HB⟩⟩
      ·replace c6 := Bool.eq_false_iff.mpr c6
       subst c6
       replace H := iff_ H
       obtain rfl := Option.some.inj H
       have p323 : 0 ≤ x3_1 := odt
       have q323 : x3_1 < (l0.length : Int) := odt
       obtain ⟨ad323, e323, hx323_0⟩ := Kd.at_string HR0.out x3_1 p323 q323
       cases e323
       replace hx323_0 := hxc HB hx323_0
       replace p323 := eq_true p323
       replace q323 := eq_true q323
       go_wp2_with (go_at_call 67; (with_reducible refine (q1_IsName.calls k1 (rdOf ByteArray.empty l0 x3_1) false _ A5.out).mono ?_); rintro e w14 ⟨rfl, hb⟩; replace HB := bstep HB hb; (try clear hb); (try clear hb2); (try clear hk); (try clear hi))
       repeat (go_quiet (fail); try go_wp2_with (fail))
       go_ret
       exact ⟨erf, bb HB⟩
     ·rw [if_neg c4] at H
      exact absurd H (by simp)
    ·rw [if_neg c3] at H
     have c3b0 : decide (x3_1 < (l0.length : Int)) = false := decide_eq_false c3
     clear c3
     obtain rfl := Option.some.inj H
     go_wp2
     repeat (go_quiet (fail); try go_wp2)
     go_ret
     exact ⟨erf, bb HB⟩
def q4_attribute.f (k : Nat) (a0_0 : ByteArray) (a0_1 : Int) (a0_2 : Int) (l0_3 : List ByteArray) : Option (Int) := if (l0_3.length : Int) = 0 then ((q4_in.f a0_1 (-1000000) 1000000).bind fun t328 => (if t328 = true then ((q4_in.f a0_2 a0_1 1000000).bind fun t329 => (if t329 = true then (some 0) else (some 6))) else (some 6))) else ((q4_names.f k l0_3).bind fun t330 => (if t330 = 0 then (if a0_1 = 0 then (if a0_2 = (wrap64 ((l0_3.length : Int) - 1)) then (some 0) else (some 6)) else (some 6)) else (some t330)))
set_option maxHeartbeats 8000000 in
set_option maxRecDepth 100000 in
theorem q4_attribute.calls (k : Nat) (a0_0 : ByteArray) (a0_1 : Int) (a0_2 : Int) (A0_3 : Option Addr) (c0_3 : Nat) (l0_3 : List ByteArray) (r : Int) (w : World) (hr0_3 : Kd.C Kd.string w A0_3 l0_3.length l0_3) (hc0_3 : l0_3.length ≤ c0_3) (h : q4_attribute.f k a0_0 a0_1 a0_2 l0_3 = some r) :
  Calls Try.prog 68 #[.agg #[.string a0_0, .int .i64 a0_1, .int .i64 a0_2, .slice A0_3 l0_3.length c0_3]] w fun e w' => e = .returned (.int .i64 r) ∧ Below w.heap.size w w' := by
 have hu77 := Try.underlying77
 have HR0_3 := Aside0.mk hr0_3
 have HC0_3 := Aside0.mk hc0_3
 clear hr0_3 hc0_3
 have HB := Aside0.mk (Below.refl w.heap.size w)
 have H : (if (l0_3.length : Int) = 0 then ((q4_in.f a0_1 (-1000000) 1000000).bind fun t328 => (if t328 = true then ((q4_in.f a0_2 a0_1 1000000).bind fun t329 => (if t329 = true then (some 0) else (some 6))) else (some 6))) else ((q4_names.f k l0_3).bind fun t330 => (if t330 = 0 then (if a0_1 = 0 then (if a0_2 = (wrap64 ((l0_3.length : Int) - 1)) then (some 0) else (some 6)) else (some 6)) else (some t330)))) = some r := h
 clear h
 by_cases c2 : (l0_3.length : Int) = 0
 ·rw [if_pos c2] at H
  have c2b0 : ((l0_3.length : Int) == 0) = true := beq_iff_eq.mpr c2
  have c2b1 : ((l0_3.length : Int) != 0) = false := bne_eq_false_iff_eq.mpr c2
  clear c2
  replace H := Option.bind_eq_some_iff.mp H
  obtain ⟨t328, A30, H⟩ := H
  replace H : (if t328 = true then ((q4_in.f a0_2 a0_1 1000000).bind fun t329 => (if t329 = true then (some 0) else (some 6))) else (some 6)) = some r := H
  have A3 := Aside0.mk A30
  clear A30
  by_cases c4 : t328 = true
  ·subst c4
   replace H := ift H
   replace H := Option.bind_eq_some_iff.mp H
   obtain ⟨t329, A50, H⟩ := H
   replace H : (if t329 = true then (some 0) else (some 6)) = some r := H
   have A5 := Aside0.mk A50
   clear A50
   by_cases c6 : t329 = true
   ·subst c6
    replace H := ift H
    obtain rfl := Option.some.inj H
    go_enter Try.func68, Try.ntmps68
    go_wp2_with (first | ((with_reducible refine gate_dst (N := 1) rfl ?_); (try (refine gate_guard (by rfl) ?_; dsimp only)); refine box_event ?hg (N := 1) ?hd (cs := #[.string a0_0, .int .i64 a0_1, .int .i64 a0_2, .slice A0_3 l0_3.length c0_3]) (t := 77) ?hr ?_; (case hd => rfl); (case hg => rfl); (case hr => first | (go_simp; done) | (go_simp; rfl)); intro gb327 hg w7 hbox hb; have BK327 := Aside0.mk (hbox); have GW327 := bsz HB hg; have GE327 := bsz HB hg; replace HB := bstep HB hb; clear hb hbox hg; obtain ⟨hcz8_0, hcz8_1, hcz8_2, hcz8_3, hfz8_0, hfz8_1, hfz8_2, hfz8_3⟩ := cz4 BK327) | ((with_reducible refine gate_callee (f := 47) rfl ?_); refine gl 10 Try.func47 #[.int .i64 a0_1, .int .i64 (-1000000), .int .i64 1000000] (h := ?_); (with_reducible refine (q4_in.calls a0_1 (-1000000) 1000000 true _ A3.out).mono ?_); rintro e w' ⟨rfl, ⟨nd, rfl⟩⟩; refine ⟨_, rfl, ?_⟩) | (go_at_call 47; (with_reducible refine (q4_in.calls a0_2 a0_1 1000000 true _ A5.out).mono ?_); rintro e w' ⟨rfl, ⟨nd, rfl⟩⟩))
    go_ret
    exact ⟨erf, bb HB⟩
   ·replace c6 := Bool.eq_false_iff.mpr c6
    subst c6
    replace H := iff_ H
    obtain rfl := Option.some.inj H
    go_enter Try.func68, Try.ntmps68
    go_wp2_with (first | ((with_reducible refine gate_dst (N := 1) rfl ?_); (try (refine gate_guard (by rfl) ?_; dsimp only)); refine box_event ?hg (N := 1) ?hd (cs := #[.string a0_0, .int .i64 a0_1, .int .i64 a0_2, .slice A0_3 l0_3.length c0_3]) (t := 77) ?hr ?_; (case hd => rfl); (case hg => rfl); (case hr => first | (go_simp; done) | (go_simp; rfl)); intro gb327 hg w9 hbox hb; have BK327 := Aside0.mk (hbox); have GW327 := bsz HB hg; have GE327 := bsz HB hg; replace HB := bstep HB hb; clear hb hbox hg; obtain ⟨hcz10_0, hcz10_1, hcz10_2, hcz10_3, hfz10_0, hfz10_1, hfz10_2, hfz10_3⟩ := cz4 BK327) | ((with_reducible refine gate_callee (f := 47) rfl ?_); refine gl 10 Try.func47 #[.int .i64 a0_1, .int .i64 (-1000000), .int .i64 1000000] (h := ?_); (with_reducible refine (q4_in.calls a0_1 (-1000000) 1000000 true _ A3.out).mono ?_); rintro e w' ⟨rfl, ⟨nd, rfl⟩⟩; refine ⟨_, rfl, ?_⟩) | (go_at_call 47; (with_reducible refine (q4_in.calls a0_2 a0_1 1000000 false _ A5.out).mono ?_); rintro e w' ⟨rfl, ⟨nd, rfl⟩⟩))
    go_ret
    exact ⟨erf, bb HB⟩
  ·replace c4 := Bool.eq_false_iff.mpr c4
   subst c4
   replace H := iff_ H
   obtain rfl := Option.some.inj H
   go_enter Try.func68, Try.ntmps68
   go_wp2_with (first | ((with_reducible refine gate_dst (N := 1) rfl ?_); (try (refine gate_guard (by rfl) ?_; dsimp only)); refine box_event ?hg (N := 1) ?hd (cs := #[.string a0_0, .int .i64 a0_1, .int .i64 a0_2, .slice A0_3 l0_3.length c0_3]) (t := 77) ?hr ?_; (case hd => rfl); (case hg => rfl); (case hr => first | (go_simp; done) | (go_simp; rfl)); intro gb327 hg w11 hbox hb; have BK327 := Aside0.mk (hbox); have GW327 := bsz HB hg; have GE327 := bsz HB hg; replace HB := bstep HB hb; clear hb hbox hg; obtain ⟨hcz12_0, hcz12_1, hcz12_2, hcz12_3, hfz12_0, hfz12_1, hfz12_2, hfz12_3⟩ := cz4 BK327) | ((with_reducible refine gate_callee (f := 47) rfl ?_); refine gl 10 Try.func47 #[.int .i64 a0_1, .int .i64 (-1000000), .int .i64 1000000] (h := ?_); (with_reducible refine (q4_in.calls a0_1 (-1000000) 1000000 false _ A3.out).mono ?_); rintro e w' ⟨rfl, ⟨nd, rfl⟩⟩; refine ⟨_, rfl, ?_⟩))
   go_ret
   exact ⟨erf, bb HB⟩
 ·rw [if_neg c2] at H
  have c2b0 : ((l0_3.length : Int) == 0) = false := beq_eq_false_iff_ne.mpr c2
  have c2b1 : ((l0_3.length : Int) != 0) = true := bne_iff_ne.mpr c2
  have c2b2 : ¬ (l0_3 = []) := fun h_ => c2 (by rw [h_]; rfl)
  replace H := Option.bind_eq_some_iff.mp H
  obtain ⟨t330, A130, H⟩ := H
  replace H : (if t330 = 0 then (if a0_1 = 0 then (if a0_2 = (wrap64 ((l0_3.length : Int) - 1)) then (some 0) else (some 6)) else (some 6)) else (some t330)) = some r := H
  have A13 := Aside0.mk A130
  clear A130
  by_cases c14 : t330 = 0
  ·rw [if_pos c14] at H
   have c14b0 : (t330 == 0) = true := beq_iff_eq.mpr c14
   have c14b1 : (t330 != 0) = false := bne_eq_false_iff_eq.mpr c14
   clear c14
   by_cases c15 : a0_1 = 0
   ·rw [if_pos c15] at H
    have c15b0 : (a0_1 == 0) = true := beq_iff_eq.mpr c15
    have c15b1 : (a0_1 != 0) = false := bne_eq_false_iff_eq.mpr c15
    clear c15
    by_cases c16 : a0_2 = (wrap64 ((l0_3.length : Int) - 1))
    ·rw [if_pos c16] at H
     have c16b0 : (a0_2 == (wrap64 ((l0_3.length : Int) - 1))) = true := beq_iff_eq.mpr c16
     have c16b1 : (a0_2 != (wrap64 ((l0_3.length : Int) - 1))) = false := bne_eq_false_iff_eq.mpr c16
     clear c16
     obtain rfl := Option.some.inj H
     go_enter Try.func68, Try.ntmps68
     go_wp2_with (first | ((with_reducible refine gate_dst (N := 1) rfl ?_); (try (refine gate_guard (by rfl) ?_; dsimp only)); refine box_event ?hg (N := 1) ?hd (cs := #[.string a0_0, .int .i64 a0_1, .int .i64 a0_2, .slice A0_3 l0_3.length c0_3]) (t := 77) ?hr ?_; (case hd => rfl); (case hg => rfl); (case hr => first | (go_simp; done) | (go_simp; rfl)); intro gb327 hg w17 hbox hb; have BK327 := Aside0.mk (hbox); have GW327 := bsz HB hg; have GE327 := bsz HB hg; replace HB := bstep HB hb; clear hb hbox hg; obtain ⟨hcz18_0, hcz18_1, hcz18_2, hcz18_3, hfz18_0, hfz18_1, hfz18_2, hfz18_3⟩ := cz4 BK327) | ((with_reducible refine gate_callee (f := 90) rfl ?_); refine gl 22 Try.func90 #[.slice A0_3 l0_3.length c0_3] (h := ?_); (with_reducible refine (q4_names.calls k _ _ l0_3 t330 _ ?side1 ?side2 A13.out).mono ?_); (case side1 => exact cb HR0_3 HB); (case side2 => exact HC0_3.out); rintro e w19 ⟨rfl, hb⟩; refine ⟨_, rfl, ?_⟩; replace BK327 := bkb BK327 hb; replace HB := bstep HB hb; (try clear hb); (try clear hb2); (try clear hk); (try clear hi); obtain ⟨hcz20_0, hcz20_1, hcz20_2, hcz20_3, hfz20_0, hfz20_1, hfz20_2, hfz20_3⟩ := cz4 BK327))
     go_ret
     exact ⟨erf, bb HB⟩
    ·rw [if_neg c16] at H
     have c16b0 : (a0_2 == (wrap64 ((l0_3.length : Int) - 1))) = false := beq_eq_false_iff_ne.mpr c16
     have c16b1 : (a0_2 != (wrap64 ((l0_3.length : Int) - 1))) = true := bne_iff_ne.mpr c16
     obtain rfl := Option.some.inj H
     go_enter Try.func68, Try.ntmps68
     go_wp2_with (first | ((with_reducible refine gate_dst (N := 1) rfl ?_); (try (refine gate_guard (by rfl) ?_; dsimp only)); refine box_event ?hg (N := 1) ?hd (cs := #[.string a0_0, .int .i64 a0_1, .int .i64 a0_2, .slice A0_3 l0_3.length c0_3]) (t := 77) ?hr ?_; (case hd => rfl); (case hg => rfl); (case hr => first | (go_simp; done) | (go_simp; rfl)); intro gb327 hg w21 hbox hb; have BK327 := Aside0.mk (hbox); have GW327 := bsz HB hg; have GE327 := bsz HB hg; replace HB := bstep HB hb; clear hb hbox hg; obtain ⟨hcz22_0, hcz22_1, hcz22_2, hcz22_3, hfz22_0, hfz22_1, hfz22_2, hfz22_3⟩ := cz4 BK327) | ((with_reducible refine gate_callee (f := 90) rfl ?_); refine gl 22 Try.func90 #[.slice A0_3 l0_3.length c0_3] (h := ?_); (with_reducible refine (q4_names.calls k _ _ l0_3 t330 _ ?side1 ?side2 A13.out).mono ?_); (case side1 => exact cb HR0_3 HB); (case side2 => exact HC0_3.out); rintro e w23 ⟨rfl, hb⟩; refine ⟨_, rfl, ?_⟩; replace BK327 := bkb BK327 hb; replace HB := bstep HB hb; (try clear hb); (try clear hb2); (try clear hk); (try clear hi); obtain ⟨hcz24_0, hcz24_1, hcz24_2, hcz24_3, hfz24_0, hfz24_1, hfz24_2, hfz24_3⟩ := cz4 BK327))
     go_ret
     exact ⟨erf, bb HB⟩
   ·rw [if_neg c15] at H
    have c15b0 : (a0_1 == 0) = false := beq_eq_false_iff_ne.mpr c15
    have c15b1 : (a0_1 != 0) = true := bne_iff_ne.mpr c15
    obtain rfl := Option.some.inj H
    go_enter Try.func68, Try.ntmps68
    go_wp2_with (first | ((with_reducible refine gate_dst (N := 1) rfl ?_); (try (refine gate_guard (by rfl) ?_; dsimp only)); refine box_event ?hg (N := 1) ?hd (cs := #[.string a0_0, .int .i64 a0_1, .int .i64 a0_2, .slice A0_3 l0_3.length c0_3]) (t := 77) ?hr ?_; (case hd => rfl); (case hg => rfl); (case hr => first | (go_simp; done) | (go_simp; rfl)); intro gb327 hg w25 hbox hb; have BK327 := Aside0.mk (hbox); have GW327 := bsz HB hg; have GE327 := bsz HB hg; replace HB := bstep HB hb; clear hb hbox hg; obtain ⟨hcz26_0, hcz26_1, hcz26_2, hcz26_3, hfz26_0, hfz26_1, hfz26_2, hfz26_3⟩ := cz4 BK327) | ((with_reducible refine gate_callee (f := 90) rfl ?_); refine gl 22 Try.func90 #[.slice A0_3 l0_3.length c0_3] (h := ?_); (with_reducible refine (q4_names.calls k _ _ l0_3 t330 _ ?side1 ?side2 A13.out).mono ?_); (case side1 => exact cb HR0_3 HB); (case side2 => exact HC0_3.out); rintro e w27 ⟨rfl, hb⟩; refine ⟨_, rfl, ?_⟩; replace BK327 := bkb BK327 hb; replace HB := bstep HB hb; (try clear hb); (try clear hb2); (try clear hk); (try clear hi); obtain ⟨hcz28_0, hcz28_1, hcz28_2, hcz28_3, hfz28_0, hfz28_1, hfz28_2, hfz28_3⟩ := cz4 BK327))
    go_ret
    exact ⟨erf, bb HB⟩
  ·rw [if_neg c14] at H
   have c14b0 : (t330 == 0) = false := beq_eq_false_iff_ne.mpr c14
   have c14b1 : (t330 != 0) = true := bne_iff_ne.mpr c14
   obtain rfl := Option.some.inj H
   go_enter Try.func68, Try.ntmps68
   go_wp2_with (first | ((with_reducible refine gate_dst (N := 1) rfl ?_); (try (refine gate_guard (by rfl) ?_; dsimp only)); refine box_event ?hg (N := 1) ?hd (cs := #[.string a0_0, .int .i64 a0_1, .int .i64 a0_2, .slice A0_3 l0_3.length c0_3]) (t := 77) ?hr ?_; (case hd => rfl); (case hg => rfl); (case hr => first | (go_simp; done) | (go_simp; rfl)); intro gb327 hg w29 hbox hb; have BK327 := Aside0.mk (hbox); have GW327 := bsz HB hg; have GE327 := bsz HB hg; replace HB := bstep HB hb; clear hb hbox hg; obtain ⟨hcz30_0, hcz30_1, hcz30_2, hcz30_3, hfz30_0, hfz30_1, hfz30_2, hfz30_3⟩ := cz4 BK327) | ((with_reducible refine gate_callee (f := 90) rfl ?_); refine gl 22 Try.func90 #[.slice A0_3 l0_3.length c0_3] (h := ?_); (with_reducible refine (q4_names.calls k _ _ l0_3 t330 _ ?side1 ?side2 A13.out).mono ?_); (case side1 => exact cb HR0_3 HB); (case side2 => exact HC0_3.out); rintro e w31 ⟨rfl, hb⟩; refine ⟨_, rfl, ?_⟩; replace BK327 := bkb BK327 hb; replace HB := bstep HB hb; (try clear hb); (try clear hb2); (try clear hk); (try clear hi)))
   go_ret
   exact ⟨erf, bb HB⟩
end Go.Proofs.Ytfpianecohobjaa.P
