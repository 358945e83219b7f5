/- StatisticOf: a part of its proof. No condition. -/
import Derived.Test.YtfpianecohobjaaVPx0
import Derived.Test.YtfpianecohobjaaVPx7
import Derived.Test.YtfpianecohobjaaVPx8
namespace Go.Proofs.Ytfpianecohobjaa.P
open Go.RowKit Go.Proofs.YtfpianecohobjaaW.PrintWords Go.Proofs.YtfpianecohobjaaW.PrintLast Go.Proofs.YtfpianecohobjaaW.PrintMore
set_option maxHeartbeats 8000000
set_option maxRecDepth 100000
set_option linter.unusedVariables false
set_option linter.unusedSimpArgs false
def types_is.f (k : Nat) (a5 : List (S68)) (a4 : List (S71)) (a1 : Int) (a2 : Int) : Option (Bool) := (types_line.f k a5 a4 a1).bind fun a6 => ((slices_Contains_int_int.f k a6 a2).bind fun a7 => (some a7))
theorem types_is.mono : ∀ a0 a1 a2 a3 k, LeO (types_is.f k a0 a1 a2 a3) (types_is.f (k + 1) a0 a1 a2 a3) := by
 intro a0 a1 a2 a3 k
 unfold types_is.f
 with_reducible repeat' first | exact slices_Contains_int_int.mono .. | exact types_line.mono .. | exact LeO.refl _ | exact LeO.none _ | refine LeO.ite ?_ ?_ | refine LeO.bind ?_ fun _ => ?_
theorem types_is.calls (k : Nat) (b2 : Option Addr) (a9 : Nat) (a5 : List (S68)) (b1 : Option Addr) (a8 : Nat) (a4 : List (S71)) (a1 : Int) (a2 : Int) (r : Bool) (w : World) (b4 : Kd.C k68 w b2 a5.length a5) (b6 : a5.length ≤ a9) (b3 : Kd.C k71 w b1 a4.length a4) (b5 : a4.length ≤ a8) (h : types_is.f k a5 a4 a1 a2 = some r) :
  Calls Try.prog 44 #[.agg #[.slice b2 a5.length a9, .slice b1 a4.length a8], .int .i64 a1, .int .i64 a2] w fun e w' => e = .returned (.bool r) ∧ Below w.heap.size w w' := by
 have hu25 := Try.underlying25
 have c0 := Aside0.mk b4
 have c2 := Aside0.mk b6
 clear b4 b6
 have b9 := Aside0.mk b3
 have c1 := Aside0.mk b5
 clear b3 b5
 have HB := Aside0.mk (Below.refl w.heap.size w)
 have H : ((types_line.f k a5 a4 a1).bind fun a6 => ((slices_Contains_int_int.f k a6 a2).bind fun a7 => (some a7))) = some r := h
 clear h
 obtain ⟨a6, A4, H⟩ := obA H
 obtain ⟨a7, A5, H⟩ := obA H
 obtain rfl := Option.some.inj H
 go_enter Try.func44, Try.ntmps44
 go_wp2_with (first | ((with_reducible refine gate_dst (N := 3) rfl ?_); refine be 3 #[.slice b2 a5.length a9, .slice b1 a4.length a8] 25 ?_; intro d1 hg w6 hbox hb; have c3 := Aside0.mk (hbox); have d2 := bsz HB hg; replace HB := bstep HB hb; clear hb hbox hg; obtain ⟨c8, c7, c6, c5⟩ := cz2 c3) | ((with_reducible refine gate_callee (f := 48) rfl ?_); refine gl 9 Try.func48 #[.agg #[.slice b2 a5.length a9, .slice b1 a4.length a8], .int .i64 a1] (h := ?_); (with_reducible refine (types_line.calls _ _ _ _ _ _ _ _ _ _ (cb c0 HB) c2.out (cb b9 HB) c1.out A4.out).mono ?_); rintro e w8 ⟨d3, rfl, c4, hb⟩; refine ⟨_, rfl, ?_⟩; have b0 := Aside0.mk (Kd.R_lower c4 (below_size (bb HB))); replace HB := bstep HB hb; clear hb c4; obtain ⟨d0, c9, eo9⟩ := Kd.R_slice b0.out; subst eo9) | ((with_reducible refine gate_callee (f := 72) rfl ?_); refine gl 11 Try.func72 #[.slice d0 a6.length c9, .int .i64 a2] (h := ?_); (with_reducible refine (slices_Contains_int_int.calls _ _ _ _ _ _ _ ?b8 ?b7 A5.out).mono ?_); (case b8 => repeat (first | exact (Kd.R_reads' b0.out).2.2 | (with_reducible refine Kd.C_alloc ?_ _) | (with_reducible refine Kd.C_drewN ?_ _) | (with_reducible refine Kd.C_drew ?_))); (case b7 => exact (Kd.R_reads' b0.out).2.1); rintro e w' ⟨rfl, ⟨nd, rfl⟩⟩; refine ⟨_, rfl, ?_⟩))
 go_ret
 exact ⟨erf, bb HB⟩
end Go.Proofs.Ytfpianecohobjaa.P
