/- StatisticOf: a part of its proof. No condition. -/
import Derived.Test.YtfpianecohobjaaVH0
import Derived.Test.YtfpianecohobjaaVPx37
import Derived.Test.YtfpianecohobjaaVPx45
namespace Go.Proofs.Ytfpianecohobjaa.P
open Go.RowKit Go.Proofs.YtfpianecohobjaaW.PrintWords Go.Proofs.YtfpianecohobjaaW.PrintLast Go.Proofs.YtfpianecohobjaaW.PrintMore
set_option linter.unusedVariables false
set_option linter.unusedSimpArgs false
def withinB (a b : Int) : Bool := decide (0 ≤ a) && decide (a ≤ b)
theorem within_f (a b : Int) : graph_within.f a b = some (withinB a b) := by
 unfold graph_within.f withinB
 by_cases h : 0 ≤ a
 · rw [if_pos h]; simp [h]
 · rw [if_neg h]; simp [h]
def fitsB (a0 a1 a2 n : Int) : Bool := withinB a0 99 && (withinB a1 (wrap64 (n - 1)) && withinB a2 (wrap64 (n - 1)))
theorem fits_f (a0 a1 a2 n : Int) : graph_fits.f a0 a1 a2 n = some (fitsB a0 a1 a2 n) := by
 unfold graph_fits.f fitsB
 simp only [within_f, Option.bind_some]
 cases withinB a0 99 <;> cases withinB a1 (wrap64 (n - 1)) <;> rfl
def any_graph1.f (l0 : List Int) : Option Bool := some (l0.any fun t => !withinB t 99)
set_option maxHeartbeats 1000000 in
set_option maxRecDepth 100000 in
theorem any_graph1.pred (w : World) : PredK (Kd.int .i64) Try.prog 93 #[] (fun cs => cs.headD (.int .i64 0)) (fun t => !withinB t 99) w := by
 intro W x cs hB hK
 obtain rfl : cs = [.int .i64 x] := hK
 show Calls Try.prog 93 #[.int .i64 x] W _
 clear hB
 go_enter Try.func93, Try.ntmps93
 go_wp2_with (go_at_call 94; refine (graph_within.calls x 99 (withinB x 99) _ (within_f _ _)).mono ?_; rintro e w' ⟨rfl, ⟨nd, rfl⟩⟩)
 go_ret
 exact ⟨rfl, pw_below_drewN (Below.refl _ _) _⟩
set_option maxHeartbeats 1000000 in
theorem any_graph1.calls (A0 : Option Addr) (c0 : Nat) (l0 : List Int) (r : Bool) (w : World) (hr0 : Kd.C (Kd.int .i64) w A0 l0.length l0) (hc0 : l0.length ≤ c0) (h : any_graph1.f l0 = some r) :
 Calls Try.prog 70 #[.slice A0 l0.length c0, .func (.func 93) #[] #[]] w fun e w' => e = .returned (.bool r) ∧ Below w.heap.size w w' := by
 obtain rfl := Option.some.inj h
 exact any_int _ _ _ (enters_of Try.func93 (by kernel_rfl) rfl) A0 c0 l0 w hr0 hc0 (any_graph1.pred w)
def any_graph2.f (l0 : List S39) (l1 : List Int) : Option Bool := some (l0.any fun e => !fitsB e.f0 e.f1 e.f2 (l1.length : Int))
set_option maxHeartbeats 1000000 in
set_option maxRecDepth 100000 in
theorem any_graph2.pred (g : Nat) (A1 : Option Addr) (c1 : Nat) (n : Nat) {v1 : Value} (w : World) (hb : w.heap[g]? = some (.cells #[.slice A1 n c1, v1] 59 (0, 0))) :
 PredK k39 Try.prog 96 #[.pointer (some ⟨g, 0, none⟩)] (fun cs => .agg cs.toArray) (fun e => !fitsB e.f0 e.f1 e.f2 (n : Int)) w := by
 intro W x cs hB hK
 have hb' := blk_below hb hB
 have hc : W.cell? ⟨g, 0, none⟩ = some (.slice A1 n c1) := (blk_cell hb' 0).trans rfl
 have hg : g < W.heap.size := blk_lt hb'
 clear hb hb' hB
 obtain rfl := k39_open hK
 show Calls Try.prog 96 #[.agg #[.int .i64 x.f0, .int .i64 x.f1, .int .i64 x.f2], .pointer (some ⟨g, 0, none⟩)] W _
 have hu := Try.underlying39
 have hu2 := Try.underlying59
 go_enter Try.func96, Try.ntmps96
 go_wp2_with (go_at_call 97; refine (graph_fits.calls x.f0 x.f1 x.f2 (n : Int) (fitsB x.f0 x.f1 x.f2 (n : Int)) _ (fits_f _ _ _ _)).mono ?_; rintro e w' ⟨rfl, hb⟩)
 go_ret
 exact ⟨rfl, by first | exact hb | exact Below.trans ((Below.refl _ _).alloc (Nat.le_refl _) _) (hb.mono (by simp))⟩
set_option maxHeartbeats 1000000 in
theorem any_graph2.calls (A0 : Option Addr) (c0 : Nat) (l0 : List S39) (g : Nat) (A1 : Option Addr) (c1 : Nat) (l1 : List Int) (v1 : Value) (r : Bool) (w : World) (hr0 : Kd.C k39 w A0 l0.length l0) (hc0 : l0.length ≤ c0)
 (hb : w.heap[g]? = some (.cells #[.slice A1 l1.length c1, v1] 59 (0, 0))) (h : any_graph2.f l0 l1 = some r) :
 Calls Try.prog 95 #[.slice A0 l0.length c0, .func (.func 96) #[] #[.pointer (some ⟨g, 0, none⟩)]] w fun e w' => e = .returned (.bool r) ∧ Below w.heap.size w w' := by
 obtain rfl := Option.some.inj h
 exact any_Edge _ _ _ (enters_of Try.func96 (by kernel_rfl) rfl) A0 c0 l0 w hr0 hc0 (any_graph2.pred g A1 c1 l1.length w hb)
def any_has.f (l0 : List S88) (a1 : Int) : Option Bool := some (l0.any fun c => c.f0 == a1)
set_option maxHeartbeats 1000000 in
set_option maxRecDepth 100000 in
theorem any_has.pred (g : Nat) (a1 : Int) (w : World) (hb : w.heap[g]? = some (.cells #[.int .i64 a1] 3 (0, 0))) :
 PredK k88 Try.prog 102 #[.pointer (some ⟨g, 0, none⟩)] (fun cs => .agg cs.toArray) (fun c => c.f0 == a1) w := by
 intro W x cs hB hK
 have hb' := blk_below hb hB
 have hc : W.cell? ⟨g, 0, none⟩ = some (.int .i64 a1) := (blk_cell hb' 0).trans rfl
 have hg : g < W.heap.size := blk_lt hb'
 clear hb hb' hB
 obtain rfl := k88_open hK
 show Calls Try.prog 102 #[.agg #[.int .i64 x.f0, .int .i64 x.f1, .int .i64 x.f2, .int .i64 x.f3], .pointer (some ⟨g, 0, none⟩)] W _
 have hu := Try.underlying88
 go_enter Try.func102, Try.ntmps102
 go_wp2
 go_ret
 exact ⟨rfl, (Below.refl _ _).alloc (Nat.le_refl _) _⟩
set_option maxHeartbeats 1000000 in
theorem any_has.calls (A0 : Option Addr) (c0 : Nat) (l0 : List S88) (g : Nat) (a1 : Int) (r : Bool) (w : World) (hr0 : Kd.C k88 w A0 l0.length l0) (hc0 : l0.length ≤ c0)
 (hb : w.heap[g]? = some (.cells #[.int .i64 a1] 3 (0, 0))) (h : any_has.f l0 a1 = some r) :
 Calls Try.prog 101 #[.slice A0 l0.length c0, .func (.func 102) #[] #[.pointer (some ⟨g, 0, none⟩)]] w fun e w' => e = .returned (.bool r) ∧ Below w.heap.size w w' := by
 obtain rfl := Option.some.inj h
 exact any_Count _ _ _ (enters_of Try.func102 (by kernel_rfl) rfl) A0 c0 l0 w hr0 hc0 (any_has.pred g a1 w hb)
set_option maxHeartbeats 1000000 in
set_option maxRecDepth 100000 in
set_option maxHeartbeats 1000000 in
def cmpE (a0 a1 a2 b0 b1 b2 : Int) : Int := if wrap64 (a0 - b0) = 0 then (if wrap64 (a1 - b1) = 0 then wrap64 (a2 - b2) else wrap64 (a1 - b1)) else wrap64 (a0 - b0)
theorem compare_f (a0 a1 a2 a3 b0 b1 b2 b3 : Int) : statistic_compare.f 5 a0 a1 a2 a3 b0 b1 b2 b3 = some (cmpE a0 a1 a2 b0 b1 b2) := by
 unfold statistic_compare.f cmp_Or_int.f cmpE
 generalize wrap64 (a0 - b0) = x
 generalize wrap64 (a1 - b1) = y
 generalize wrap64 (a2 - b2) = z
 have w1 : wrap64 1 = 1 := by unfold wrap64; omega
 have w2 : wrap64 2 = 2 := by unfold wrap64; omega
 have w3 : wrap64 3 = 3 := by unfold wrap64; omega
 by_cases hx : x = 0 <;> by_cases hy : y = 0 <;> by_cases hz : z = 0 <;> simp [cmp_Or_int.l0, rd, hx, hy, hz, w1, w2, w3]
def bsE (p : Nat → Bool) : Nat → Nat → Nat → Nat
 | 0, i, _ => i
 | n + 1, i, j => if i < j then (if p ((i + j) / 2) = true then bsE p n ((i + j) / 2 + 1) j else bsE p n i ((i + j) / 2)) else i
theorem bsE_fuel (p : Nat → Bool) : ∀ (n m i j : Nat), j - i ≤ n → j - i ≤ m → bsE p n i j = bsE p m i j
 | 0, 0, i, j, _, _ => rfl
 | 0, m + 1, i, j, h, _ => by rw [bsE, bsE, if_neg (by omega)]
 | n + 1, 0, i, j, _, h => by rw [bsE, bsE, if_neg (by omega)]
 | n + 1, m + 1, i, j, h, h' => by
  rw [bsE, bsE]
  split
  · split
    · exact bsE_fuel p n m _ _ (by omega) (by omega)
    · exact bsE_fuel p n m _ _ (by omega) (by omega)
  · rfl
theorem bsE_le (p : Nat → Bool) : ∀ (n i j : Nat), i ≤ j → bsE p n i j ≤ j
 | 0, i, j, h => h
 | n + 1, i, j, h => by
  rw [bsE]
  split
  · split
    · exact bsE_le p n _ _ (by omega)
    · exact Nat.le_trans (bsE_le p n _ _ (by omega)) (by omega)
  · exact h
def cmpAt (l : List S88) (b0 b1 b2 : Int) (h : Nat) : Int := cmpE (rd_T88 l (h : Int)).f0 (rd_T88 l (h : Int)).f1 (rd_T88 l (h : Int)).f2 b0 b1 b2
def searchAt (l : List S88) (b0 b1 b2 : Int) : Nat := bsE (fun h => decide (cmpAt l b0 b1 b2 h < 0)) l.length 0 l.length
def search_counts.f (l0 : List S88) (a0 a1 a2 a3 : Int) : Option (Int × Bool) := some ((searchAt l0 a0 a1 a2 : Int), decide (searchAt l0 a0 a1 a2 < l0.length) && decide (cmpAt l0 a0 a1 a2 (searchAt l0 a0 a1 a2) = 0))
theorem goesV {P : Program} {ops : Array Oper} {Q : Exit → Act → World → Prop} {oi : Oper} {N : Option Tmp} {a : Act} {w : World} {K : Act → World → Prop} {f : FuncId} {fn : Func} {as_ : Array Operand} {ts : Array TypeId} {c : Operand} (hf : P.funcs[f]? = some fn) (hname : (fn.name == "runtime.NumGoroutine") = false) (hb : fn.body.isSome = true) (args : Array Value)
 (hw : Region.wanted oi (yielded ops a.tmps) = true) (hN : oi.dst = N) (hop : oi.op = .call { callee := .value c, args := as_, argTypes := ts }) (hev : a.eval c = .func (.func f) #[] #[]) (hargs : as_.map a.eval = args)
 (h : Calls P f args w fun e w' => ∃ v, e = .returned v ∧ K (a.put N v) w') : if Region.wanted oi (yielded ops a.tmps) = true then Oper.wp P oi a w K Q else K (a.put N undef) w := by
 refine call_ f args hw hN ?_ h
 have he := enters_ hf hname hb args w
 unfold execOp
 simp [hop, resolve, Deferred.ofValue, invoke, hev, hargs, he]
theorem held1 {W W1 : World} {a : Addr} {v : Value} (h : W.cell? a = some v) (hb : Below W.heap.size W W1) : W1.cell? a = some v := (hb.cell (World.block_lt_of_cell? W _ h)).trans h
def search.T5 : Bool × List (List Nat × List Nat) := (true, [([], []), ([], []), ([], []), ([1, 2], [1, 2]), ([3], [3]), ([], []), ([0, 4, 5], [0, 4, 5]), ([6], [6])])
def search.B5 : List Nat := [0, 0, 0, 6, 14, 0, 63, 127]
theorem search.tab5 : rtab .any (opsOf Try.f77 5) = search.T5 := by kernel_rfl
theorem search.bits5 : waitsOk search.T5.2 search.B5 = true := by kernel_rfl
def search.T8 : Bool × List (List Nat × List Nat) := (true, [([], []), ([], []), ([], []), ([1, 2], [1, 2]), ([3], [3]), ([4], [4]), ([4], [4]), ([4], [4]), ([6, 7, 4], [4, 6, 7]), ([8, 4], [4, 8]), ([4], [4]), ([5, 9, 10, 4, 4], [4, 5, 9, 10]), ([11, 4], [4, 11]), ([4, 12], [4, 12]), ([0, 11, 0], [0]), ([13, 14, 0, 1, 2, 3, 4, 5, 6, 7, 8, 9, 10, 11, 12, 13, 14], [13])])
def search.B8 : List Nat := [0, 0, 0, 6, 14, 30, 30, 30, 222, 478, 30, 2046, 4094, 8190, 4095, 32767]
theorem search.tab8 : rtab .any (opsOf Try.f77 8) = search.T8 := by kernel_rfl
theorem search.bits8 : waitsOk search.T8.2 search.B8 = true := by kernel_rfl
set_option maxHeartbeats 4000000 in
set_option maxRecDepth 100000 in
theorem search_go (A0 : Option Addr) (c0 : Nat) (xs : List S88) (b0 b1 b2 b3 : Int) (w : World) (hC : Kd.C k88 w A0 xs.length xs) (hcc : xs.length ≤ c0) :
 Calls Try.prog 77 #[.slice A0 xs.length c0, .agg #[.int .i64 b0, .int .i64 b1, .int .i64 b2, .int .i64 b3], .func (.func 78) #[] #[]] w
  fun e w' => e = .returned (.tuple #[.int .i64 (searchAt xs b0 b1 b2 : Int), .bool (decide (searchAt xs b0 b1 b2 < xs.length) && decide (cmpAt xs b0 b1 b2 (searchAt xs b0 b1 b2) = 0))]) ∧ Below w.heap.size w w' := by
 have hmax : xs.length ≤ 9223372036854775807 := hC.2.1
 have HC := Aside0.mk hC
 clear hC
 have hu88 := Try.underlying88
 have HR := Aside0.mk (show searchAt xs b0 b1 b2 = bsE (fun h => decide (cmpAt xs b0 b1 b2 h < 0)) xs.length 0 xs.length from rfl)
 generalize searchAt xs b0 b1 b2 = R at HR ⊢
 have eg := enters_of Try.func78 (by kernel_rfl) rfl
 go_enter Try.func77, Try.ntmps77
 go_wp2
 go_loopg [9, 10] xs.length (fun gg s9 s10 wr => ∃ lo hi : Nat, s9 = .int .i64 lo ∧ s10 = .int .i64 hi ∧ lo ≤ hi ∧ hi ≤ xs.length ∧ hi - lo ≤ gg ∧ Aside0 (Below (w.alloc (.cells #[.int .i64 b0, .int .i64 b1, .int .i64 b2, .int .i64 b3] 88)).heap.size (w.alloc (.cells #[.int .i64 b0, .int .i64 b1, .int .i64 b2, .int .i64 b3] 88)) wr) ∧ Aside0 (∀ n, hi - lo ≤ n → R = bsE (fun h => decide (cmpAt xs b0 b1 b2 h < 0)) n lo hi))
 case atStart => exact ⟨0, xs.length, rfl, rfl, Nat.zero_le _, Nat.le_refl _, by omega, ⟨Below.refl _ _⟩, ⟨fun n hn => by rw [HR.out]; exact bsE_fuel _ _ _ _ _ (by omega) (by omega)⟩⟩
 case round =>
  obtain ⟨lo, hi, rfl, rfl, hlh, hin, hg, BW, AS⟩ := hrel
  clear HR
  by_cases hlt : lo < hi
  · have hm : (lo + hi) / 2 < xs.length := by omega
    have hltz : (lo : Int) < (hi : Int) := by omega
    have hhalf : wrap64 (IntKind.u64.wrap (wrap64 ((lo : Int) + (hi : Int))) / 2) = (((lo + hi) / 2 : Nat) : Int) := by
     have e1 : IntKind.u64.wrap (wrap64 ((lo : Int) + (hi : Int))) = (lo : Int) + (hi : Int) := by
      have e0 : ∀ n : Int, IntKind.u64.wrap n = n % 18446744073709551616 := fun n => by simp [IntKind.wrap, IntKind.bits, IntKind.signed]
      rw [e0]; unfold wrap64; omega
     rw [e1]; unfold wrap64; omega
    have hmz : (((lo + hi) / 2 : Nat) : Int) < (xs.length : Int) := by omega
    have HB2 := Aside0.mk (show ∀ n, hi - lo ≤ n → R = bsE (fun h => decide (cmpAt xs b0 b1 b2 h < 0)) n lo hi from AS.out)
    have HS := Aside0.mk (show R = if decide (cmpAt xs b0 b1 b2 ((lo + hi) / 2) < 0) = true then bsE (fun h => decide (cmpAt xs b0 b1 b2 h < 0)) (hi - lo) ((lo + hi) / 2 + 1) hi else bsE (fun h => decide (cmpAt xs b0 b1 b2 h < 0)) (hi - lo) lo ((lo + hi) / 2) from by
     rw [AS.out (hi - lo + 1) (by omega), bsE, if_pos hlt])
    clear AS HB2
    have hlo : lo ≤ (lo + hi) / 2 ∧ (lo + hi) / 2 < hi := by omega
    go_wp2
    rw [hhalf]
    generalize (lo + hi) / 2 = mid at hhalf hmz hm HS hlo ⊢
    have BWd := Aside0.mk (below_drew1 BW.out)
    clear BW
    have B0 := ((Below.refl w.heap.size w).alloc (Nat.le_refl _) (.cells #[.int .i64 b0, .int .i64 b1, .int .i64 b2, .int .i64 b3] 88)).trans (BWd.out.mono (by simp))
    have hBox := blk_below (blk_new w (.cells #[.int .i64 b0, .int .i64 b1, .int .i64 b2, .int .i64 b3] 88)) BWd.out
    obtain ⟨ad, hA, hx0, hx1, hx2, hx3⟩ := at_T88 (Kd.C_below HC.out B0) (mid : Int) (by omega) (by omega)
    clear B0
    simp only [Int.toNat_natCast] at hx0 hx1 hx2 hx3
    subst hA
    have HQ := Aside0.mk (show cmpAt xs b0 b1 b2 mid = cmpE (rd_T88 xs (mid : Int)).f0 (rd_T88 xs (mid : Int)).f1 (rd_T88 xs (mid : Int)).f2 b0 b1 b2 from rfl)
    generalize rd_T88 xs (mid : Int) = y at hx0 hx1 hx2 hx3 HQ
    have hcall := fun W => statistic_compare.calls 5 y.f0 y.f1 y.f2 y.f3 b0 b1 b2 b3 _ W (compare_f y.f0 y.f1 y.f2 y.f3 b0 b1 b2 b3)
    generalize cmpE y.f0 y.f1 y.f2 b0 b1 b2 = cv at hcall HQ
    have HCA := Aside0.mk hcall
    clear hcall
    have held : ∀ {W W1 : World}, (fun w' => w'.cell? ⟨w.heap.size, 0, none⟩ = some (.int .i64 b0) ∧ w'.cell? ⟨w.heap.size, 1, none⟩ = some (.int .i64 b1) ∧ w'.cell? ⟨w.heap.size, 2, none⟩ = some (.int .i64 b2) ∧ w'.cell? ⟨w.heap.size, 3, none⟩ = some (.int .i64 b3) ∧ w'.cell? (ad.add (mid * 4)) = some (.int .i64 y.f0) ∧ w'.cell? ⟨(ad.add (mid * 4)).block, (ad.add (mid * 4)).off + 1, none⟩ = some (.int .i64 y.f1) ∧ w'.cell? ⟨(ad.add (mid * 4)).block, (ad.add (mid * 4)).off + 2, none⟩ = some (.int .i64 y.f2) ∧ w'.cell? ⟨(ad.add (mid * 4)).block, (ad.add (mid * 4)).off + 3, none⟩ = some (.int .i64 y.f3)) W → Below W.heap.size W W1 → (fun w' => w'.cell? ⟨w.heap.size, 0, none⟩ = some (.int .i64 b0) ∧ w'.cell? ⟨w.heap.size, 1, none⟩ = some (.int .i64 b1) ∧ w'.cell? ⟨w.heap.size, 2, none⟩ = some (.int .i64 b2) ∧ w'.cell? ⟨w.heap.size, 3, none⟩ = some (.int .i64 b3) ∧ w'.cell? (ad.add (mid * 4)) = some (.int .i64 y.f0) ∧ w'.cell? ⟨(ad.add (mid * 4)).block, (ad.add (mid * 4)).off + 1, none⟩ = some (.int .i64 y.f1) ∧ w'.cell? ⟨(ad.add (mid * 4)).block, (ad.add (mid * 4)).off + 2, none⟩ = some (.int .i64 y.f2) ∧ w'.cell? ⟨(ad.add (mid * 4)).block, (ad.add (mid * 4)).off + 3, none⟩ = some (.int .i64 y.f3)) W1 := fun {W W1} h hb => ⟨held1 h.1 hb, held1 h.2.1 hb, held1 h.2.2.1 hb, held1 h.2.2.2.1 hb, held1 h.2.2.2.2.1 hb, held1 h.2.2.2.2.2.1 hb, held1 h.2.2.2.2.2.2.1 hb, held1 h.2.2.2.2.2.2.2 hb⟩
    refine start_ (n := 8) (S := (fun w' => w'.cell? ⟨w.heap.size, 0, none⟩ = some (.int .i64 b0) ∧ w'.cell? ⟨w.heap.size, 1, none⟩ = some (.int .i64 b1) ∧ w'.cell? ⟨w.heap.size, 2, none⟩ = some (.int .i64 b2) ∧ w'.cell? ⟨w.heap.size, 3, none⟩ = some (.int .i64 b3) ∧ w'.cell? (ad.add (mid * 4)) = some (.int .i64 y.f0) ∧ w'.cell? ⟨(ad.add (mid * 4)).block, (ad.add (mid * 4)).off + 1, none⟩ = some (.int .i64 y.f1) ∧ w'.cell? ⟨(ad.add (mid * 4)).block, (ad.add (mid * 4)).off + 2, none⟩ = some (.int .i64 y.f2) ∧ w'.cell? ⟨(ad.add (mid * 4)).block, (ad.add (mid * 4)).off + 3, none⟩ = some (.int .i64 y.f3))) (ds := []) #[false, false, false, false, false, false, false, false] (by kernel_rfl) rfl rfl ⟨(blk_cell hBox 0).trans rfl, (blk_cell hBox 1).trans rfl, (blk_cell hBox 2).trans rfl, (blk_cell hBox 3).trans rfl, hx0, hx1, hx2, hx3⟩ (fun hHeld => ?_)
    refine with_tabW search.tab5 search.bits5 (fun HT_ HW_ => ?_)
    clear hBox hx0 hx1 hx2 hx3
    have BW := BWd
    clear BWd
    generalize wr.drew = w5 at BW hHeld ⊢
    refine pu 0 24 (bits 8 0x1) HT_ (h := ?_)
    refine pu 1 25 (bits 8 0x3) HT_ (h := ?_)
    refine pu 2 26 (bits 8 0x7) HT_ (h := ?_)
    refine pu 3 27 (bits 8 0xf) HT_ (h := ?_)
    refine tk 4 28 (bits 8 0x1f) HT_ HW_ hHeld (hy := by rintro w' ⟨s0, s1, s2, s3, s4, s5, s6, s7⟩; go_simp; with_reducible rfl) (h := ?_)
    refine tk 5 29 (bits 8 0x3f) HT_ HW_ hHeld (hy := by rintro w' ⟨s0, s1, s2, s3, s4, s5, s6, s7⟩; go_simp; with_reducible rfl) (h := ?_)
    refine one_ (i := 6) (N := some 30) #[true, true, true, true, true, true, true, false] rfl rfl (one_of HT_.out (by kernel_rfl)) (by decide) (fun K hK => ?_)
    refine goesV Try.func78 (by kernel_rfl) rfl #[.agg #[.int .i64 y.f0, .int .i64 y.f1, .int .i64 y.f2, .int .i64 y.f3], .agg #[.int .i64 b0, .int .i64 b1, .int .i64 b2, .int .i64 b3]] (by rfl) rfl rfl (by rfl) (by (try simp only [List.map_toArray, List.map_cons, List.map_nil]); first | done | rfl) ?_
    refine (HCA.out _).mono ?_
    rintro e w' ⟨rfl, hb'⟩
    refine ⟨_, rfl, ?_⟩
    replace BW := Aside0.mk (BW.out.trans (hb'.mono BW.out.size))
    have HH := Aside0.mk (held hHeld hb')
    clear hHeld hb'
    refine hK.out _ _ HH.out (fun hHeld => ?_)
    clear hK K
    refine norm_ (a' := ?_) ?_ ?_
    rotate_left
    · show Act.put _ (some 30) _ = _
      simp only [Act.put, List.setIfInBounds_toArray, List.set_cons_zero, List.set_cons_succ, i64_w, i32_w]
      rfl
    refine pu 7 31 (bits 8 0xff) HT_ (h := ?_)
    refine done_ (done_of HT_.out (by kernel_rfl)) ?_
    by_cases hcv : cv < 0
    · have HS' := HS.out
      rw [HQ.out, if_pos (decide_eq_true hcv)] at HS'
      have HS2 := Aside0.mk HS'
      clear HS' HS
      go_wp2
      go_roundg (hi - (mid + 1))
      case measure => omega
      case rel =>
       exact ⟨mid + 1, hi, by go_num, rfl, by omega, hin, Nat.le_refl _, BW, ⟨fun n hn => by rw [HS2.out]; exact bsE_fuel _ _ _ _ _ (by omega) hn⟩⟩
    · have HS' := HS.out
      rw [HQ.out, if_neg (by simp [hcv])] at HS'
      have HS2 := Aside0.mk HS'
      clear HS' HS
      go_wp2
      go_roundg (mid - lo)
      case measure => omega
      case rel =>
       exact ⟨lo, mid, rfl, rfl, by omega, by omega, Nat.le_refl _, BW, ⟨fun n hn => by rw [HS2.out]; exact bsE_fuel _ _ _ _ _ (by omega) hn⟩⟩
  · have hltz : ¬ (lo : Int) < (hi : Int) := by omega
    obtain rfl : hi = lo := by omega
    obtain rfl : R = hi := by rw [AS.out 0 (by omega)]; rfl
    clear AS
    by_cases hn : R < xs.length
    · have hnz : (R : Int) < (xs.length : Int) := by omega
      go_wp2
      have BWd := Aside0.mk (below_drew1 BW.out)
      clear BW
      have B0 := ((Below.refl w.heap.size w).alloc (Nat.le_refl _) (.cells #[.int .i64 b0, .int .i64 b1, .int .i64 b2, .int .i64 b3] 88)).trans (BWd.out.mono (by simp))
      have hBox := blk_below (blk_new w (.cells #[.int .i64 b0, .int .i64 b1, .int .i64 b2, .int .i64 b3] 88)) BWd.out
      obtain ⟨ad, hA, hx0, hx1, hx2, hx3⟩ := at_T88 (Kd.C_below HC.out B0) (R : Int) (by omega) (by omega)
      clear B0
      simp only [Int.toNat_natCast] at hx0 hx1 hx2 hx3
      subst hA
      have HQ := Aside0.mk (show cmpAt xs b0 b1 b2 R = cmpE (rd_T88 xs (R : Int)).f0 (rd_T88 xs (R : Int)).f1 (rd_T88 xs (R : Int)).f2 b0 b1 b2 from rfl)
      generalize rd_T88 xs (R : Int) = y at hx0 hx1 hx2 hx3 HQ
      have hcall := fun W => statistic_compare.calls 5 y.f0 y.f1 y.f2 y.f3 b0 b1 b2 b3 _ W (compare_f y.f0 y.f1 y.f2 y.f3 b0 b1 b2 b3)
      generalize cmpE y.f0 y.f1 y.f2 b0 b1 b2 = cv at hcall HQ
      have HCA := Aside0.mk hcall
      clear hcall
      have held : ∀ {W W1 : World}, (fun w' => w'.cell? ⟨w.heap.size, 0, none⟩ = some (.int .i64 b0) ∧ w'.cell? ⟨w.heap.size, 1, none⟩ = some (.int .i64 b1) ∧ w'.cell? ⟨w.heap.size, 2, none⟩ = some (.int .i64 b2) ∧ w'.cell? ⟨w.heap.size, 3, none⟩ = some (.int .i64 b3) ∧ w'.cell? (ad.add (R * 4)) = some (.int .i64 y.f0) ∧ w'.cell? ⟨(ad.add (R * 4)).block, (ad.add (R * 4)).off + 1, none⟩ = some (.int .i64 y.f1) ∧ w'.cell? ⟨(ad.add (R * 4)).block, (ad.add (R * 4)).off + 2, none⟩ = some (.int .i64 y.f2) ∧ w'.cell? ⟨(ad.add (R * 4)).block, (ad.add (R * 4)).off + 3, none⟩ = some (.int .i64 y.f3)) W → Below W.heap.size W W1 → (fun w' => w'.cell? ⟨w.heap.size, 0, none⟩ = some (.int .i64 b0) ∧ w'.cell? ⟨w.heap.size, 1, none⟩ = some (.int .i64 b1) ∧ w'.cell? ⟨w.heap.size, 2, none⟩ = some (.int .i64 b2) ∧ w'.cell? ⟨w.heap.size, 3, none⟩ = some (.int .i64 b3) ∧ w'.cell? (ad.add (R * 4)) = some (.int .i64 y.f0) ∧ w'.cell? ⟨(ad.add (R * 4)).block, (ad.add (R * 4)).off + 1, none⟩ = some (.int .i64 y.f1) ∧ w'.cell? ⟨(ad.add (R * 4)).block, (ad.add (R * 4)).off + 2, none⟩ = some (.int .i64 y.f2) ∧ w'.cell? ⟨(ad.add (R * 4)).block, (ad.add (R * 4)).off + 3, none⟩ = some (.int .i64 y.f3)) W1 := fun {W W1} h hb => ⟨held1 h.1 hb, held1 h.2.1 hb, held1 h.2.2.1 hb, held1 h.2.2.2.1 hb, held1 h.2.2.2.2.1 hb, held1 h.2.2.2.2.2.1 hb, held1 h.2.2.2.2.2.2.1 hb, held1 h.2.2.2.2.2.2.2 hb⟩
      refine start_ (n := 16) (S := (fun w' => w'.cell? ⟨w.heap.size, 0, none⟩ = some (.int .i64 b0) ∧ w'.cell? ⟨w.heap.size, 1, none⟩ = some (.int .i64 b1) ∧ w'.cell? ⟨w.heap.size, 2, none⟩ = some (.int .i64 b2) ∧ w'.cell? ⟨w.heap.size, 3, none⟩ = some (.int .i64 b3) ∧ w'.cell? (ad.add (R * 4)) = some (.int .i64 y.f0) ∧ w'.cell? ⟨(ad.add (R * 4)).block, (ad.add (R * 4)).off + 1, none⟩ = some (.int .i64 y.f1) ∧ w'.cell? ⟨(ad.add (R * 4)).block, (ad.add (R * 4)).off + 2, none⟩ = some (.int .i64 y.f2) ∧ w'.cell? ⟨(ad.add (R * 4)).block, (ad.add (R * 4)).off + 3, none⟩ = some (.int .i64 y.f3))) (ds := []) #[false, false, false, false, false, false, false, false, false, false, false, false, false, false, false, false] (by kernel_rfl) rfl rfl ⟨(blk_cell hBox 0).trans rfl, (blk_cell hBox 1).trans rfl, (blk_cell hBox 2).trans rfl, (blk_cell hBox 3).trans rfl, hx0, hx1, hx2, hx3⟩ (fun hHeld => ?_)
      refine with_tabW search.tab8 search.bits8 (fun HT_ HW_ => ?_)
      clear hBox hx0 hx1 hx2 hx3
      have BW := BWd
      clear BWd
      generalize wr.drew = w5 at BW hHeld ⊢
      refine pu 0 35 (bits 16 0x1) HT_ (h := ?_)
      refine pu 1 36 (bits 16 0x3) HT_ (h := ?_)
      refine pu 2 37 (bits 16 0x7) HT_ (h := ?_)
      refine pu 3 38 (bits 16 0xf) HT_ (h := ?_)
      refine pu 4 39 (bits 16 0x1f) HT_ (h := ?_)
      refine pu 5 40 (bits 16 0x3f) HT_ (h := ?_)
      refine pu 6 41 (bits 16 0x7f) HT_ (h := ?_)
      refine pu 7 42 (bits 16 0xff) HT_ (h := ?_)
      refine pu 8 43 (bits 16 0x1ff) HT_ (h := ?_)
      refine tk 9 44 (bits 16 0x3ff) HT_ HW_ hHeld (hy := by rintro w' ⟨s0, s1, s2, s3, s4, s5, s6, s7⟩; go_simp; with_reducible rfl) (h := ?_)
      refine tk 10 45 (bits 16 0x7ff) HT_ HW_ hHeld (hy := by rintro w' ⟨s0, s1, s2, s3, s4, s5, s6, s7⟩; go_simp; with_reducible rfl) (h := ?_)
      refine one_ (i := 11) (N := some 46) #[true, true, true, true, true, true, true, true, true, true, true, true, false, false, false, false] rfl rfl (one_of HT_.out (by kernel_rfl)) (by decide) (fun K hK => ?_)
      refine goesV Try.func78 (by kernel_rfl) rfl #[.agg #[.int .i64 y.f0, .int .i64 y.f1, .int .i64 y.f2, .int .i64 y.f3], .agg #[.int .i64 b0, .int .i64 b1, .int .i64 b2, .int .i64 b3]] (by rfl) rfl rfl (by rfl) (by (try simp only [List.map_toArray, List.map_cons, List.map_nil]); first | done | rfl) ?_
      refine (HCA.out _).mono ?_
      rintro e w' ⟨rfl, hb'⟩
      refine ⟨_, rfl, ?_⟩
      replace BW := Aside0.mk (BW.out.trans (hb'.mono BW.out.size))
      have HH := Aside0.mk (held hHeld hb')
      clear hHeld hb'
      refine hK.out _ _ HH.out (fun hHeld => ?_)
      clear hK K
      refine norm_ (a' := ?_) ?_ ?_
      rotate_left
      · show Act.put _ (some 46) _ = _
        simp only [Act.put, List.setIfInBounds_toArray, List.set_cons_zero, List.set_cons_succ, i64_w, i32_w]
        rfl
      refine pu 12 47 (bits 16 0x1fff) HT_ (h := ?_)
      refine pu 13 48 (bits 16 0x3fff) HT_ (h := ?_)
      refine pu 14 6 (bits 16 0x7fff) HT_ (h := ?_)
      refine pu 15 7 (bits 16 0xffff) HT_ (h := ?_)
      refine done_ (done_of HT_.out (by kernel_rfl)) ?_
      go_wp2
      go_ret2
      exact ⟨by
       show Ending.returned (.tuple #[.int .i64 (R : Int), .bool (cv == 0)]) = .returned (.tuple #[.int .i64 (R : Int), .bool (decide (cmpAt xs b0 b1 b2 R = 0))])
       rw [HQ.out]
       by_cases hz : cv = 0 <;> simp [hz], ((Below.refl _ w).alloc (Nat.le_refl _) _).trans (BW.out.mono (by simp))⟩
    · have hnz : ¬ (R : Int) < (xs.length : Int) := by omega
      go_wp2
      have BWd := Aside0.mk (below_drew1 BW.out)
      clear BW
      refine start_ (n := 16) (S := fun w' => True) (ds := []) #[false, false, false, false, false, false, false, false, false, false, false, false, false, false, false, false] (by kernel_rfl) rfl rfl trivial (fun hHeld => ?_)
      refine with_tabW search.tab8 search.bits8 (fun HT_ HW_ => ?_)
      have BW := BWd
      clear BWd
      generalize wr.drew = w5 at BW hHeld ⊢
      refine pu 0 35 (bits 16 0x1) HT_ (h := ?_)
      refine pu 1 36 (bits 16 0x3) HT_ (h := ?_)
      refine pu 2 37 (bits 16 0x7) HT_ (h := ?_)
      refine pu 3 38 (bits 16 0xf) HT_ (h := ?_)
      refine pu 4 39 (bits 16 0x1f) HT_ (h := ?_)
      refine pure_ (i := 5) (N := some 40) (v := undef) (a' := ?_) #[true, true, true, true, true, true, false, false, false, false, false, false, false, false, false, false] rfl rfl (any_of HT_.out (by kernel_rfl)) (fun _ _ _ h => h) (Or.inr ⟨by rfl, rfl⟩) ?_ ?_
      rotate_left
      · simp only [Act.put, List.setIfInBounds_toArray, List.set_cons_zero, List.set_cons_succ, i64_w, i32_w]
        rfl
      refine pure_ (i := 6) (N := some 41) (v := undef) (a' := ?_) #[true, true, true, true, true, true, true, false, false, false, false, false, false, false, false, false] rfl rfl (any_of HT_.out (by kernel_rfl)) (fun _ _ _ h => h) (Or.inr ⟨by rfl, rfl⟩) ?_ ?_
      rotate_left
      · simp only [Act.put, List.setIfInBounds_toArray, List.set_cons_zero, List.set_cons_succ, i64_w, i32_w]
        rfl
      refine pure_ (i := 7) (N := some 42) (v := undef) (a' := ?_) #[true, true, true, true, true, true, true, true, false, false, false, false, false, false, false, false] rfl rfl (any_of HT_.out (by kernel_rfl)) (fun _ _ _ h => h) (Or.inr ⟨by rfl, rfl⟩) ?_ ?_
      rotate_left
      · simp only [Act.put, List.setIfInBounds_toArray, List.set_cons_zero, List.set_cons_succ, i64_w, i32_w]
        rfl
      refine pure_ (i := 8) (N := some 43) (v := undef) (a' := ?_) #[true, true, true, true, true, true, true, true, true, false, false, false, false, false, false, false] rfl rfl (any_of HT_.out (by kernel_rfl)) (fun _ _ _ h => h) (Or.inr ⟨by rfl, rfl⟩) ?_ ?_
      rotate_left
      · simp only [Act.put, List.setIfInBounds_toArray, List.set_cons_zero, List.set_cons_succ, i64_w, i32_w]
        rfl
      refine pure_ (i := 9) (N := some 44) (v := undef) (a' := ?_) #[true, true, true, true, true, true, true, true, true, true, false, false, false, false, false, false] rfl rfl (any_of HT_.out (by kernel_rfl)) (fun _ _ _ h => h) (Or.inr ⟨by rfl, rfl⟩) ?_ ?_
      rotate_left
      · simp only [Act.put, List.setIfInBounds_toArray, List.set_cons_zero, List.set_cons_succ, i64_w, i32_w]
        rfl
      refine pure_ (i := 10) (N := some 45) (v := undef) (a' := ?_) #[true, true, true, true, true, true, true, true, true, true, true, false, false, false, false, false] rfl rfl (any_of HT_.out (by kernel_rfl)) (fun _ _ _ h => h) (Or.inr ⟨by rfl, rfl⟩) ?_ ?_
      rotate_left
      · simp only [Act.put, List.setIfInBounds_toArray, List.set_cons_zero, List.set_cons_succ, i64_w, i32_w]
        rfl
      refine pure_ (i := 11) (N := some 46) (v := undef) (a' := ?_) #[true, true, true, true, true, true, true, true, true, true, true, true, false, false, false, false] rfl rfl (any_of HT_.out (by kernel_rfl)) (fun _ _ _ h => h) (Or.inr ⟨by rfl, rfl⟩) ?_ ?_
      rotate_left
      · simp only [Act.put, List.setIfInBounds_toArray, List.set_cons_zero, List.set_cons_succ, i64_w, i32_w]
        rfl
      refine pure_ (i := 12) (N := some 47) (v := undef) (a' := ?_) #[true, true, true, true, true, true, true, true, true, true, true, true, true, false, false, false] rfl rfl (any_of HT_.out (by kernel_rfl)) (fun _ _ _ h => h) (Or.inr ⟨by rfl, rfl⟩) ?_ ?_
      rotate_left
      · simp only [Act.put, List.setIfInBounds_toArray, List.set_cons_zero, List.set_cons_succ, i64_w, i32_w]
        rfl
      refine pu 13 48 (bits 16 0x3fff) HT_ (h := ?_)
      refine pu 14 6 (bits 16 0x7fff) HT_ (h := ?_)
      refine pu 15 7 (bits 16 0xffff) HT_ (h := ?_)
      refine done_ (done_of HT_.out (by kernel_rfl)) ?_
      go_wp2
      go_ret2
      exact ⟨by
       show Ending.returned (.tuple #[.int .i64 (R : Int), .bool false]) = .returned (.tuple #[.int .i64 (R : Int), .bool (decide (R < xs.length) && decide (cmpAt xs b0 b1 b2 R = 0))])
       rw [decide_eq_false hn, Bool.false_and], ((Below.refl _ w).alloc (Nat.le_refl _) _).trans (BW.out.mono (by simp))⟩
theorem search_counts.calls (A0 : Option Addr) (c0 : Nat) (l0 : List S88) (a0 a1 a2 a3 : Int) (r1 : Int) (r2 : Bool) (w : World) (hr0 : Kd.C k88 w A0 l0.length l0) (hc0 : l0.length ≤ c0) (h : search_counts.f l0 a0 a1 a2 a3 = some (r1, r2)) :
 Calls Try.prog 77 #[.slice A0 l0.length c0, .agg #[.int .i64 a0, .int .i64 a1, .int .i64 a2, .int .i64 a3], .func (.func 78) #[] #[]] w fun e w' => e = .returned (.tuple #[.int .i64 r1, .bool r2]) ∧ Below w.heap.size w w' := by
 unfold search_counts.f at h
 injection h with h
 injection h with h1 h2
 subst h1
 subst h2
 exact search_go A0 c0 l0 a0 a1 a2 a3 w hr0 hc0
end Go.Proofs.Ytfpianecohobjaa.P
