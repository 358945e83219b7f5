/- statisticEdge_holds: a part of the proof that the law returns true for every input. No condition. -/
import Derived.Test.YtfpianecohobjaaGreatRows
import Derived.Test.YtfpianecohobjaaGreatEPx58
import Derived.Test.YtfpianecohobjaaGreatER0
import Derived.Test.YtfpianecohobjaaGreatET
import Derived.WalkKit
import Derived.ProofKit
import Derived.OpenShut
import Derived.ShutString
import Derived.ChangeOld
import Derived.Below
import Derived.SizedLaws
namespace Go.Proofs.YtfpianecohobjaaGreat.statisticEdge
open Go.ChangeShapes Go.WideShapes Go.ChangeAt Go.RowKit Go.Joins Go.Deep Go.Proofs.YtfpianecohobjaaGreat.P Go.Proofs.YtfpianecohobjaaGreatW.PrintWords
open Go.ChangeMaps (open_string shut_string)
set_option linter.unusedVariables false
theorem own : ownKnob Tryz.prog.godebug = none := by kernel_rfl
theorem laidOut : laidOutB Tryz.prog = true := by kernel_rfl
set_option maxRecDepth 100000 in
theorem lifted (os : Os) (started : os.Started) (H : Type) (enc : TypeId × Value → H) :
    ReturnsInHanded {} Tryz.checked os 8 .any (Rows.statisticEdgeSpec.pre6 enc Tryz.prog Tryz.f8 Rows.statisticEdgeRow.domain false) (Rows.statisticEdgeSpec.post enc Tryz.prog Tryz.f8 false true false false) := by
  refine returnsInHanded_of_change_sized (C := Tryz.checked) own started (by kernel_rfl) Tryz.func8
    (ChangeSpec.witness6 (enc := enc) (C := Tryz.checked) false ⟨#[], #[.agg #[.slice none 0 0, .slice none 0 0], .agg #[.slice none 0 0, .slice none 0 0], .agg #[.int .i64 0, .int .i64 0, .int .i64 0, .int .i64 0]], []⟩ 8 (by kernel_rfl) (by kernel_rfl) (by kernel_rfl) (by kernel_rfl)) ?_
  intro W base args ds gs before hval0 hW hcnd hsz0 _
  have hval : ∀ (j : Nat) t v, Tryz.f8.params[j]? = some t → args[j]? = some v → Value.okWide Tryz.prog W .any base t v := hval0
  have hW' := hW
  obtain ⟨p, q, hA0, hV, rfl, hfz, hnd⟩ := hW
  have hA : DataW.TrodAll enc Tryz.prog W 0 (fun _ => true) true Tryz.f8.params.toList args.toList ds p := hA0
  rw [Tryz.params8] at hA hval
  obtain ⟨v0, vs0, d0, ds0, p0, q0, hargs, rfl, rfl, h0, r0⟩ := trodAll_cons hA
  obtain ⟨v1, vs1, d1, ds1, p1, q1, rfl, rfl, rfl, h1, r1⟩ := trodAll_cons r0
  obtain ⟨v2, vs2, d2, ds2, p2, q2, rfl, rfl, rfl, h2, r2⟩ := trodAll_cons r1
  obtain ⟨rfl, rfl, rfl⟩ := trodAll_nil r2
  obtain rfl : args = #[v0, v1, v2] := by cases args; simp_all
  obtain ⟨rfl, rfl⟩ := trodVars_none hV
  have k0 := h0
  have lt0 : ∀ x ∈ p0, x.block < W.heap.size := by obtain ⟨m, hm⟩ := k0; exact DataW.trod_lt m _ _ _ hm
  obtain ⟨A0_0, c0_0, l0_0, A0_1, c0_1, l0_1, rfl, hc0_0, hr0_0, g0_0, hc0_1, hr0_1, g0_1⟩ := open31 (hval 0 31 v0 rfl rfl) h0 (fun n hn => of_decide_eq_true (List.all_eq_true.1 hsz0 n (DataW.weights_mem_each (j := 0) (t := 31) (by first | rfl | kernel_rfl) rfl n hn)))
  have k1 := h1
  have lt1 : ∀ x ∈ p1, x.block < W.heap.size := by obtain ⟨m, hm⟩ := k1; exact DataW.trod_lt m _ _ _ hm
  obtain ⟨A1_0, c1_0, l1_0, A1_1, c1_1, l1_1, rfl, hc1_0, hr1_0, g1_0, hc1_1, hr1_1, g1_1⟩ := open46 (hval 1 46 v1 rfl rfl) h1 (fun n hn => of_decide_eq_true (List.all_eq_true.1 hsz0 n (DataW.weights_mem_each (j := 1) (t := 46) (by first | rfl | kernel_rfl) rfl n hn)))
  have k2 := h2
  have lt2 : ∀ x ∈ p2, x.block < W.heap.size := by obtain ⟨m, hm⟩ := k2; exact DataW.trod_lt m _ _ _ hm
  obtain ⟨a2_0, a2_1, a2_2, a2_3, rfl, g2_0, g2_1, g2_2, g2_3⟩ := open65 (hval 2 65 v2 rfl rfl) h2 (fun n hn => of_decide_eq_true (List.all_eq_true.1 hsz0 n (DataW.weights_mem_each (j := 2) (t := 65) (by first | rfl | kernel_rfl) rfl n hn)))
  clear hA0 hval0 hsz0
  obtain ⟨k, h⟩ := StatisticEdge_pure l0_0 l0_1 l1_0 l1_1 a2_0 a2_1 a2_2 a2_3 g0_0 g0_1 g1_0 g1_1 g2_0 g2_1 g2_2 g2_3
  refine (scarfjointlaw18_StatisticEdge.calls k _ _ l0_0 _ _ l0_1 _ _ l1_0 _ _ l1_1 a2_0 a2_1 a2_2 a2_3 true W hr0_0 hc0_0 hr0_1 hc0_1 hr1_0 hc1_0 hr1_1 hc1_1 h).mono fun e W' ⟨he, bel⟩ => ?_
  subst he
  exact ⟨_, rfl, _, _, _, [], _, [], hW', trodAll_mk1 (shut_bool Tryz.underlying4 _), (trodAll_cons_mk (Below.trod laidOut (by kernel_rfl) (of_decide_eq_true (by kernel_rfl)) k0 bel lt0) (trodAll_cons_mk (Below.trod laidOut (by kernel_rfl) (of_decide_eq_true (by kernel_rfl)) k1 bel lt1) (trodAll_cons_mk (Below.trod laidOut (by kernel_rfl) (of_decide_eq_true (by kernel_rfl)) k2 bel lt2) trodAll_mk0))), rfl, bel.frame _, fun h => by cases h⟩
theorem over : Rows.statisticEdgeRow.holds Tryz.pinned (OpenSpec.ofChange Rows.statisticEdgeSpec) :=
  OpenClaim.holds_of_wide 8 Tryz.f8 rfl rfl rfl rfl rfl rfl rfl ⟨rfl, rfl, rfl, rfl, rfl⟩ rfl rfl rfl rfl rfl (by kernel_rfl) Tryz.func8 (by kernel_rfl)
    (of_decide_eq_true (by kernel_rfl)) (by unfold Func.isWrapper; first | (rw [if_pos (by decide +kernel)]; kernel_rfl) | (rw [if_neg (by decide +kernel)]; exact ⟨rfl, rfl⟩))
    (fun os started H enc _ => lifted os started H enc)
end Go.Proofs.YtfpianecohobjaaGreat.statisticEdge
namespace Go.Proofs.YtfpianecohobjaaGreat
theorem statisticEdge_holds : Rows.StatisticEdgeSaid := statisticEdge.over
#print axioms statisticEdge_holds
end Go.Proofs.YtfpianecohobjaaGreat
