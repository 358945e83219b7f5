/- StatisticOf: a part of its proof. No condition. -/
import Derived.Test.YtfpianecohobjaaVH1
import Derived.Laws.CopyRow
import Derived.Laws.CopyOwn
import Derived.Laws.IdiomCopy
import Derived.Lib.AppendZerosOnto
import Derived.Lib.Overlaps
import Derived.Laws.NewBlocks
import Derived.Deep.RegionLaw
namespace Go.Proofs.Ytfpianecohobjaa.P
open Go.RowKit Go.Lib Go.Proofs.YtfpianecohobjaaW.PrintWords Go.Proofs.YtfpianecohobjaaW.PrintLast Go.Proofs.YtfpianecohobjaaW.PrintMore
set_option linter.unusedVariables false
set_option linter.unusedSimpArgs false
def enc88 (x : S88) : List Value := [.int .i64 x.f0, .int .i64 x.f1, .int .i64 x.f2, .int .i64 x.f3]
def p_cells (x : S88) : Array Value := #[.int .i64 x.f0, .int .i64 x.f1, .int .i64 x.f2, .int .i64 x.f3]
theorem sizeCount (w : World) : (Go.sizeOf 88).run Try.prog w = .ok 4 w := by
 obtain ⟨i0, hi, hz⟩ := Option.map_eq_some_iff.1 info88
 simp only [Prod.mk.injEq] at hz
 simp [Go.sizeOf, typeInfo, hi, hz.2.1]
def flat (l : List S88) : List Value := l.flatMap enc88
theorem run_copy_rows {P : Program} (w : World) (dT sT ty elem : TypeId) (g o dLen dCap : Nat) (a : Addr) (sLen sCap : Nat) (cur : Array Value) (t : TypeId) (cs : List Value) (sz : Nat)
 (hu : P.underlying dT = some (.slice elem)) (hs : (P.info? elem).map (·.size) = some sz)
 (hg : w.heap[g]? = some (.cells cur t (0, 0))) (hn : cs.length = Nat.min sLen dLen * sz)
 (hsrc : ∀ j v, cs[j]? = some v → w.cell? (a.add j) = some v) (hfit : o + cs.length ≤ cur.size) (h1 : ∀ v ∈ cs, v.oneCell' = true) :
 (Builtin.copy_ #[dT, sT] ty #[.slice (some ⟨g, o, none⟩) dLen dCap, .slice (some a) sLen sCap]).run P w =
  .ok (goInt (Nat.min sLen dLen)) (w.setRow g (cur.toList.take o ++ cs ++ cur.toList.drop (o + cs.length)).toArray) := by
 have hl := run_loadCells_list (P := P) w a cs hsrc
 have hst := run_storeCells_at P g o t cs 0 cur w hg (by simpa using hfit) h1
 cases hq : P.info? elem with
 | none => simp [hq] at hs
 | some i =>
  have hi : i.size = sz := by simpa [hq] using hs
  simp [Builtin.copy_, run_underlying hu, Builtin.lenOf, Builtin.firstCells, sizeOf, typeInfo, hq, hi, ← hn, hl, hst]
theorem row_max {w : World} {base : Nat} {ok : Nat → Prop} {A : Option Addr} {n c : Nat} {xs : List S88} (h : Kd.R k88 88 w base ok (.slice A n c) xs) : c ≤ 9223372036854775807 := by
 obtain ⟨_, inner, ho, _⟩ := h
 rcases ho.2 with ⟨e, _⟩ | ⟨g, cap, cur, e, _, _, _, hm, _⟩
 · injection e with _ _ e; omega
 · injection e with _ _ e; subst e; unfold maxLen at hm; omega
set_option maxHeartbeats 4000000 in
set_option maxRecDepth 100000 in
theorem insert_end (w0 w : World) (base vb : Nat) (sv : Value) (xs : List S88) (p : S88) (HO : Kd.R k88 88 w base (fun _ => True) sv xs) (HB : Below base w0 w) (hbase : base ≤ w.heap.size) (hl : (xs.length + 1) * 32 ≤ 140737488355328)
 (hv : Kd.C k88 w (some ⟨vb, 0, none⟩) 1 [p]) :
 Calls Try.prog 79 #[sv, .int .i64 xs.length, .slice (some ⟨vb, 0, none⟩) 1 1] w fun e w' => ∃ v1, e = .returned v1 ∧ Kd.R k88 88 w' base (fun _ => True) v1 (xs ++ [p]) ∧ Below base w0 w' := by
 obtain ⟨A, c, rfl⟩ := Kd.R_slice HO
 have hc : xs.length ≤ c := (Kd.R_reads' HO).2.1
 have hmax : c ≤ 9223372036854775807 := row_max HO
 have H1 := Aside0.mk HO
 have H2 := Aside0.mk HB
 have H3 := Aside0.mk hv
 clear HO HB hv
 go_enter Try.func79, Try.ntmps79
 go_wp2_with (at_builtin; refine Kd.R_append_rows k88 (w0 := w0) base rfl _ _ 62 88 (.agg #[(.int .i64 0), (.int .i64 0), (.int .i64 0), (.int .i64 0)]) 32 rfl Try.underlying62 info88 rfl (by decide) (by omega) (.slice A xs.length _) xs [p] (some ⟨vb, 0, none⟩) 1 1 (fun _ => True) (fun _ => False) rfl rfl H1.out H3.out (fun x cs hk => by obtain rfl := k88_open hk; exact k88_mkM _ _ _ x) (fun _ hk => hk.elim) (fun _ _ => trivial) H2.out hbase hl ?_; intro v1 w1 hR hB hg hat; have HR1 := Aside0.mk hR; have HB1 := Aside0.mk hB; clear hR hB hg hat)
 all_goals (go_ret; exact ⟨_, rfl, HR1.out, HB1.out⟩)
section
variable {P : Program}
theorem step_copyR {ops : Array Oper} {o : Oper} {a : Act} {w : World} {K : Act → World → Prop} {Q : Exit → Act → World → Prop} {E : Prop}
 (hg : o.guard = none) (d x : Operand) (dT sT : TypeId) (hop : o.op = Op.call { callee := Callee.builtin Builtin.copy, args := #[d, x], argTypes := #[dT, sT] })
 (v u : Value) (hd : a.eval d = v) (hx : a.eval x = u) {v' : Value} {w' : World} (hr : (Builtin.copy_ #[dT, sT] o.type #[v, u]).run P w = .ok v' w') (hK : K (a.put o.dst v') w') :
 if Region.wanted o (yielded ops a.tmps) = true then Oper.wp P o a w K Q else E := by
 rw [if_pos (by simp [Region.wanted, hg])]
 unfold Oper.wp
 simp only [execOp, hop, resolve, invoke, builtin, Sem.run_bind, Sem.run_pure, Result.andThen_ok, List.map_toArray, List.map_cons, List.map_nil, hd, hx, hr]
 exact hK
end
theorem flat_len (l : List S88) : (flat l).length = l.length * 4 := by
 induction l with
 | nil => rfl
 | cons x l ih => rw [show flat (x :: l) = enc88 x ++ flat l from rfl, List.length_append, ih, List.length_cons]; show 4 + _ = _; omega
theorem flat_append (a b : List S88) : flat (a ++ b) = flat a ++ flat b := List.flatMap_append
theorem flat_take (l : List S88) : ∀ k, (flat l).take (k * 4) = flat (l.take k) := by
 intro k
 rcases Nat.le_total k l.length with h | h
 · have e : flat l = flat (l.take k) ++ flat (l.drop k) := by rw [← flat_append, List.take_append_drop]
   have hl : (flat (l.take k)).length = k * 4 := by rw [flat_len, List.length_take]; omega
   rw [e, ← hl, List.take_left]
 · rw [List.take_of_length_le (by rw [flat_len]; omega), List.take_of_length_le h]
theorem flat_drop (l : List S88) : ∀ k, (flat l).drop (k * 4) = flat (l.drop k) := by
 intro k
 rcases Nat.le_total k l.length with h | h
 · have e : flat l = flat (l.take k) ++ flat (l.drop k) := by rw [← flat_append, List.take_append_drop]
   have hl : (flat (l.take k)).length = k * 4 := by rw [flat_len, List.length_take]; omega
   rw [e, ← hl, List.drop_left]
 · rw [List.drop_of_length_le (by rw [flat_len]; omega), List.drop_of_length_le h]; rfl
theorem flat_one (l : List S88) : ∀ v ∈ flat l, v.oneCell' = true := by
 intro v hv
 obtain ⟨x, _, hx⟩ := List.mem_flatMap.1 hv
 simp only [enc88, List.mem_cons, List.not_mem_nil, or_false] at hx
 rcases hx with rfl | rfl | rfl | rfl <;> rfl
theorem reps_flat (w : World) (base : Nat) (ok : Nat → Prop) (l : List S88) : Reps (k88.M w base ok) 4 l (flat l) := by
 refine ⟨flat_len l, fun j p hj => ?_⟩
 obtain ⟨hjl, rfl⟩ := List.getElem?_eq_some_iff.1 hj
 rw [flat_drop, List.drop_eq_getElem_cons hjl]
 exact k88_mkM w base ok l[j]
theorem flat_of_reps {w : World} {base : Nat} {ok : Nat → Prop} : ∀ {l : List S88} {cs : List Value}, Reps (k88.M w base ok) 4 l cs → cs = flat l
 | [], cs, h => by have := h.1; simp at this; rw [this]; rfl
 | x :: l, cs, h => by
  have h0 := k88_openM (h.2 0 x rfl)
  simp only [Nat.zero_mul, List.drop_zero] at h0
  have ih := flat_of_reps (l := l) (cs := cs.drop 4) (w := w) (base := base) (ok := ok) ⟨by have := h.1; rw [List.length_drop, this, List.length_cons]; omega, fun j p hj => by
   have := h.2 (j + 1) p (by simpa using hj)
   rw [List.drop_drop]
   rwa [show (j + 1) * 4 = 4 + j * 4 by omega] at this⟩
  rw [show flat (x :: l) = enc88 x ++ flat l from rfl, ← ih]
  show cs = [_, _, _, _] ++ _
  rw [← h0, List.take_append_drop]
theorem row_open {w : World} {base : Nat} {ok : Nat → Prop} {sv : Value} {xs : List S88} (h : Kd.R k88 88 w base ok sv xs) (hx : 0 < xs.length) :
 ∃ g cap cur, sv = .slice (some ⟨g, 0, none⟩) xs.length cap ∧ base ≤ g ∧ w.heap[g]? = some (.cells cur 88 (0, 0)) ∧ xs.length ≤ cap ∧ cap ≤ maxLen ∧ cur.size = cap * 4 ∧ cur.toList.take (xs.length * 4) = flat xs := by
 obtain ⟨_, inner, ho, hr⟩ := h
 have e := flat_of_reps hr
 subst e
 rcases ho.2 with ⟨_, h0⟩ | ⟨g, cap, cur, e, hb, hg, hn, hm, hs, ht⟩
 · omega
 · exact ⟨g, cap, cur, e, hb, hg, hn, hm, hs, ht⟩
theorem row_make {w : World} {base g cap : Nat} {cur : Array Value} {xs : List S88} (hb : base ≤ g) (hg : w.heap[g]? = some (.cells cur 88 (0, 0))) (hn : xs.length ≤ cap) (hm : cap ≤ maxLen) (hs : cur.size = cap * 4) (ht : cur.toList.take (xs.length * 4) = flat xs) :
 Kd.R k88 88 w base (fun _ => True) (.slice (some ⟨g, 0, none⟩) xs.length cap) xs :=
 ⟨fun _ _ => trivial, flat xs, ⟨flat_len xs, Or.inr ⟨g, cap, cur, rfl, hb, hg, hn, hm, hs, ht⟩⟩, reps_flat _ _ _ _⟩
theorem shift_cells (c F e : List Value) (a : Nat) (ha : a ≤ F.length) (hc : F.length + 4 ≤ c.length) (he : e.length = 4) (ht : c.take F.length = F) :
 (((c.take (a + 4) ++ F.drop a ++ c.drop (a + 4 + (F.drop a).length)).take a ++ e ++ (c.take (a + 4) ++ F.drop a ++ c.drop (a + 4 + (F.drop a).length)).drop (a + e.length))).take (F.length + 4) = F.take a ++ e ++ F.drop a := by
 have h1 : (c.take (a + 4)).length = a + 4 := by rw [List.length_take]; omega
 have h2 : (c.take (a + 4) ++ F.drop a ++ c.drop (a + 4 + (F.drop a).length)).take a = F.take a := by
  rw [List.append_assoc, List.take_append_of_le_length (by omega), List.take_take, Nat.min_eq_left (by omega), ← ht, List.take_take, Nat.min_eq_left (by omega)]
 have h3 : (c.take (a + 4) ++ F.drop a ++ c.drop (a + 4 + (F.drop a).length)).drop (a + e.length) = F.drop a ++ c.drop (a + 4 + (F.drop a).length) := by
  rw [List.append_assoc, he]
  exact List.drop_left' h1
 rw [h2, h3, ← List.append_assoc, List.take_append_of_le_length (by simp [he]; omega), List.take_of_length_le (by simp [he]; omega)]
set_option maxHeartbeats 4000000 in
set_option maxRecDepth 100000 in
theorem insert_shift (w0 w : World) (base g cap vb i : Nat) (cur : Array Value) (xs : List S88) (p : S88) (hb : base ≤ g) (hg : w.heap[g]? = some (.cells cur 88 (0, 0))) (hn : xs.length ≤ cap) (hm : cap ≤ maxLen) (hs : cur.size = cap * 4) (ht : cur.toList.take (xs.length * 4) = flat xs)
 (HB : Below base w0 w) (hbase : base ≤ w.heap.size) (hi : i < xs.length) (hroom : xs.length + 1 ≤ cap) (hv : w.heap[vb]? = some (.cells (p_cells p) 88 (0, 0))) (hvb : vb ≠ g) :
 Calls Try.prog 79 #[.slice (some ⟨g, 0, none⟩) xs.length cap, .int .i64 i, .slice (some ⟨vb, 0, none⟩) 1 1] w fun e w' => ∃ v1, e = .returned v1 ∧ Kd.R k88 88 w' base (fun _ => True) v1 (xs.take i ++ p :: xs.drop i) ∧ Below base w0 w' := by
 have hm' : cap ≤ 9223372036854775807 := by unfold maxLen at hm; omega
 generalize hN : xs.length = n at *
 have hz2 : ¬ ((i : Int) = (n : Int)) := by omega
 have hin : (i : Int) ≤ (n : Int) := by omega
 have hcap : ¬ ((cap : Int) < (n : Int) + 1) := by omega
 have hw1 : IntKind.i64.wrap ((i : Int) + 1) = (i : Int) + 1 := by rw [IntKind.wrap_i64]; omega
 have hb1 : (0 : Int) ≤ (i : Int) + 1 := by omega
 have htn : ((i : Int) + 1).toNat = i + 1 := by omega
 have hb2 : ¬ (cap = i + 1) := by omega
 have hb3 : (i : Int) ≤ (n : Int) + 1 := by omega
 have hb4 : ¬ (cap = i) := by omega
 have hcnt : (p_cells p).size = 4 := rfl
 have hov : ∀ lb cb, (callFunc 99 #[.slice (some ⟨vb, 0, none⟩) 1 1, .slice (some ⟨g, (i + 1) * 4, none⟩) lb cb]).run Try.prog w = .ok (.value (.bool false)) w := fun lb cb => by
  rw [run_callFunc_extern Try.func99 (by kernel_rfl) (by kernel_rfl) (by kernel_rfl) (e := Extern.SlicesOverlaps.overlaps #[62, 62] #[4]) (by kernel_rfl),
   Lib.run_overlaps_apart w 62 4 88 Try.underlying62 4 sizeCount ⟨vb, 0, none⟩ ⟨g, (i + 1) * 4, none⟩ 1 1 lb cb hvb 88 88 4 cur.size (by simp [World.shape?, hv, p_cells]) (by simp [World.shape?, hg]) (by omega) (by simp [World.frozen?, hv]) (by simp [World.frozen?, hv])]
  rfl
 have hsz : (Try.prog.info? 88).map (·.size) = some 4 := by
  obtain ⟨i0, h0, hz⟩ := Option.map_eq_some_iff.1 info88
  simp only [Prod.mk.injEq] at hz
  rw [h0]; simp [hz.2.1]
 have hdl : ((flat xs).drop (i * 4)).length = (n - i) * 4 := by rw [flat_drop, flat_len, List.length_drop, hN]
 obtain ⟨C1, hC1⟩ : ∃ C1 : Array Value, C1 = (cur.toList.take ((i + 1) * 4) ++ (flat xs).drop (i * 4) ++ cur.toList.drop ((i + 1) * 4 + ((flat xs).drop (i * 4)).length)).toArray := ⟨_, rfl⟩
 have hC1s : C1.size = cap * 4 := by
  rw [hC1]; simp only [List.size_toArray, List.length_append, hdl, List.length_take, List.length_drop, Array.length_toList, hs]
  simp only [List.length_drop] at hdl
  omega
 have hcp1 : ∀ ty dl dc sl sc, Nat.min sl dl = n - i → (Builtin.copy_ #[62, 62] ty #[.slice (some ⟨g, (i + 1) * 4, none⟩) dl dc, .slice (some ⟨g, i * 4, none⟩) sl sc]).run Try.prog w.drew = .ok (goInt (Nat.min sl dl)) (w.drew.setRow g C1) := fun ty dl dc sl sc hmin => by
  rw [hC1]
  refine run_copy_rows w.drew _ _ ty 88 g ((i + 1) * 4) dl dc ⟨g, i * 4, none⟩ sl sc cur 88 ((flat xs).drop (i * 4)) 4 Try.underlying62 hsz hg (by rw [hdl, hmin]) ?_ (by rw [hdl, hs]; omega) (fun v hv => flat_one xs v (List.mem_of_mem_drop hv))
  intro j v hj
  rw [List.getElem?_drop, ← ht, List.getElem?_take] at hj
  split at hj
  · rw [Addr.add_lit]
    show w.cell? _ = _
    rw [blk_cell hg, ← Array.getElem?_toList]; exact hj
  · cases hj
 obtain ⟨W1, hW1⟩ : ∃ W1, W1 = w.drew.setRow g C1 := ⟨_, rfl⟩
 have hg1 : W1.heap[g]? = some (.cells C1 88 (0, 0)) := by rw [hW1]; exact setRow_heap w.drew g cur C1 _ _ hg
 have hv1 : W1.heap[vb]? = some (.cells (p_cells p) 88 (0, 0)) := by rw [hW1, setRow_other _ _ _ _ hvb]; exact hv
 obtain ⟨C2, hC2⟩ : ∃ C2 : Array Value, C2 = (C1.toList.take (i * 4) ++ enc88 p ++ C1.toList.drop (i * 4 + (enc88 p).length)).toArray := ⟨_, rfl⟩
 have hel : (enc88 p).length = 4 := rfl
 have hC2s : C2.size = cap * 4 := by
  rw [hC2]; simp only [List.size_toArray, List.length_append, List.length_take, List.length_drop, Array.length_toList, hC1s, hel]
  omega
 have hcp2 : ∀ W : World, W.heap = W1.heap → ∀ ty, (Builtin.copy_ #[62, 62] ty #[.slice (some ⟨g, i * 4, none⟩) (n + 1 - i) (cap - i), .slice (some ⟨vb, 0, none⟩) 1 1]).run Try.prog W = .ok (goInt (Nat.min 1 (n + 1 - i))) (W.setRow g C2) := fun W hW ty => by
  rw [hC2]
  refine run_copy_rows W _ _ ty 88 g (i * 4) (n + 1 - i) (cap - i) ⟨vb, 0, none⟩ 1 1 C1 88 (enc88 p) 4 Try.underlying62 hsz (by rw [hW]; exact hg1) (by rw [hel, show Nat.min 1 (n + 1 - i) = 1 by simp only [Nat.min_def]; split <;> omega]) ?_ (by rw [hel, hC1s]; omega) (fun v hv => flat_one [p] v (by simpa [flat] using hv))
  intro j v hj
  rw [Addr.add_lit, Nat.zero_add]
  have := blk_cell hv1 j
  have h2 : W.cell? ⟨vb, j, none⟩ = W1.cell? ⟨vb, j, none⟩ := by simp only [World.cell?, hW]
  rw [h2, this]
  show (enc88 p).toArray[j]? = some v
  rw [List.getElem?_toArray]; exact hj
 have hcl : cur.toList.length = cap * 4 := by simpa using hs
 have hfin : C2.toList.take ((n + 1) * 4) = flat (xs.take i ++ p :: xs.drop i) := by
  rw [hC2, hC1]
  have e := shift_cells cur.toList (flat xs) (enc88 p) (i * 4) (by rw [flat_len]; omega) (by rw [flat_len, hcl]; omega) rfl (by rw [flat_len, hN]; exact ht)
  rw [flat_len, hN] at e
  rw [show (n + 1) * 4 = n * 4 + 4 by omega, show (i + 1) * 4 = i * 4 + 4 by omega]
  simp only [List.toList_toArray]
  rw [e, flat_take, flat_drop, flat_append]
  show _ = flat (xs.take i) ++ (enc88 p ++ flat (xs.drop i))
  rw [List.append_assoc]
 have KEEP := Aside0.mk (show base ≤ g ∧ Below base w0 w ∧ W1 = w.drew.setRow g C1 ∧ W1.heap[g]? = some (.cells C1 88 (0, 0)) ∧ C2.size = cap * 4 ∧ C2.toList.take ((n + 1) * 4) = flat (xs.take i ++ p :: xs.drop i) ∧ xs.length = n from ⟨hb, HB, hW1, hg1, hC2s, hfin, hN⟩)
 rw [← hW1] at hcp1
 have HE := Aside0.mk hW1
 clear hb hg hs ht HB hv hC1 hC1s hC2 hC2s hg1 hv1 hfin hW1 hN hdl hsz hcnt hel hcl
 go_enter Try.func79, Try.ntmps79
 go_wp2_with (simp only [hov])
 go_region_law (refine step_copyR rfl _ _ 62 62 rfl _ _ (by simp [Act.eval, Act.put]) (by simp [Act.eval, Act.put]) (hcp1 _ (n - i) (cap - (i + 1)) (n + 1 - i) (cap - i) (by simp only [Nat.min_def]; split <;> omega)) ?_)
 go_wp2_with (at_builtin; refine list_copyR _ rfl _ _ 62 62 rfl _ _ rfl rfl (hcp2 _ rfl _) ?_)
 go_ret
 obtain ⟨k1, k2, k3, k4, k5, k6, k7⟩ := KEEP.out
 subst k7
 refine ⟨_, rfl, ?_, ?_⟩
 · have hlen : (xs.take i ++ p :: xs.drop i).length = xs.length + 1 := by
    rw [List.length_append, List.length_take, List.length_cons, List.length_drop]; omega
   have := row_make (w := W1.setRow g C2) (xs := xs.take i ++ p :: xs.drop i) (cap := cap) k1 (setRow_heap W1 g C1 C2 _ _ k4) (by rw [hlen]; exact hroom) hm k5 (by rw [hlen]; exact k6)
   rw [hlen] at this
   exact this
 · rw [k3]; exact below_setRow (below_setRow (below_drew k2) k1 C1) k1 C2
theorem sizeInfo : (Try.prog.info? 88).map (·.size) = some 4 := by
 obtain ⟨i0, h0, hz⟩ := Option.map_eq_some_iff.1 info88
 simp only [Prod.mk.injEq] at hz
 rw [h0]; simp [hz.2.1]
theorem grow_cells (F e Z : List Value) (a : Nat) (ha : a ≤ F.length) (he : e.length = 4) (hZ : (F.drop a).length + 4 ≤ Z.length) :
 (((((F.take a ++ Z).take a ++ e ++ (F.take a ++ Z).drop (a + e.length))).take (a + 4) ++ F.drop a ++ (((F.take a ++ Z).take a ++ e ++ (F.take a ++ Z).drop (a + e.length))).drop (a + 4 + (F.drop a).length))).take (F.length + 4) = F.take a ++ e ++ F.drop a := by
 have h1 : (F.take a).length = a := by rw [List.length_take]; omega
 have h2 : (F.take a ++ Z).take a = F.take a := List.take_left' h1
 have h3 : (F.take a ++ e).length = a + 4 := by rw [List.length_append, h1, he]
 have hd : (F.drop a).length = F.length - a := List.length_drop
 rw [h2]
 have h4 : (F.take a ++ e ++ (F.take a ++ Z).drop (a + e.length)).take (a + 4) = F.take a ++ e := List.take_left' h3
 rw [h4]
 have h5 : (F.take a ++ e ++ F.drop a).length = F.length + 4 := by rw [List.length_append, h3, hd]; omega
 exact List.take_left' h5
set_option maxHeartbeats 4000000 in
set_option maxRecDepth 100000 in
theorem insert_grow (w0 w : World) (base g cap vb i : Nat) (cur : Array Value) (xs : List S88) (p : S88) (hb : base ≤ g) (hg : w.heap[g]? = some (.cells cur 88 (0, 0))) (hn : xs.length ≤ cap) (hm : cap ≤ maxLen) (hs : cur.size = cap * 4) (ht : cur.toList.take (xs.length * 4) = flat xs)
 (HB : Below base w0 w) (hbase : base ≤ w.heap.size) (hi : i < xs.length) (hroom : cap < xs.length + 1) (hv : w.heap[vb]? = some (.cells (p_cells p) 88 (0, 0))) (hl : (xs.length + 1) * 32 ≤ 140737488355328) :
 Calls Try.prog 79 #[.slice (some ⟨g, 0, none⟩) xs.length cap, .int .i64 i, .slice (some ⟨vb, 0, none⟩) 1 1] w fun e w' => ∃ v1, e = .returned v1 ∧ Kd.R k88 88 w' base (fun _ => True) v1 (xs.take i ++ p :: xs.drop i) ∧ Below base w0 w' := by
 have hm' : cap ≤ 9223372036854775807 := by unfold maxLen at hm; omega
 generalize hN : xs.length = n at *
 have hz2 : ¬ ((i : Int) = (n : Int)) := by omega
 have hin : (i : Int) ≤ (n : Int) := by omega
 have hcap : (cap : Int) < (n : Int) + 1 := by omega
 have hw1 : IntKind.i64.wrap ((i : Int) + 1) = (i : Int) + 1 := by rw [IntKind.wrap_i64]; omega
 have hb1 : (0 : Int) ≤ (i : Int) + 1 := by omega
 have htn : ((i : Int) + 1).toNat = i + 1 := by omega
 have hb3 : (i : Int) ≤ (n : Int) + 1 := by omega
 have hb4 : ¬ (cap = i) := by omega
 have hgw : g < w.heap.size := blk_lt hg
 have hvw : vb < w.heap.size := blk_lt hv
 have hsz := sizeInfo
 obtain ⟨i0, hi0, hzz⟩ := Option.map_eq_some_iff.1 info88
 simp only [Prod.mk.injEq] at hzz
 obtain ⟨hz0, hzs, hzb⟩ := hzz
 have hkk : (n : Int) + 1 - (i : Int) = ((n + 1 - i : Nat) : Int) := by omega
 have hik : i + (n + 1 - i) = n + 1 := by omega
 have hold : (Builtin.firstCells i0.size i (.slice (some ⟨g, 0, none⟩) i cap)).run Try.prog w.drew = .ok ((flat xs).take (i * 4)).toArray w.drew := by
  rw [hzs]
  refine run_firstCells_some w.drew 4 i ⟨g, 0, none⟩ i cap ((flat xs).take (i * 4)) (by rw [List.length_take, flat_len]; omega) (fun j v hj => ?_)
  rw [Addr.add_lit, Nat.zero_add]
  rw [List.getElem?_take] at hj
  split at hj
  · rw [← ht, List.getElem?_take] at hj
    split at hj
    · show w.cell? _ = _
      rw [blk_cell hg, ← Array.getElem?_toList]; exact hj
    · cases hj
  · cases hj
 obtain ⟨G, hG⟩ : ∃ G, G = grownCap w (n + 1) cap 88 := ⟨_, rfl⟩
 obtain ⟨ZZ, hZZ⟩ : ∃ ZZ : Array Value, ZZ = Builtin.zeroCells (.agg #[(.int .i64 0), (.int .i64 0), (.int .i64 0), (.int .i64 0)] : Value).cells (n + 1 - i) ++ Builtin.zeroCells (.agg #[(.int .i64 0), (.int .i64 0), (.int .i64 0), (.int .i64 0)] : Value).cells (G - (n + 1)) := ⟨_, rfl⟩
 obtain ⟨ROW, hROW⟩ : ∃ ROW : Array Value, ROW = ((flat xs).take (i * 4)).toArray ++ ZZ := ⟨_, rfl⟩
 have hGn : n + 1 ≤ G := by rw [hG]; exact grownCap_ge w _ _ _
 have hGm : G ≤ maxLen := by rw [hG]; exact grownCap_le_maxLen w (n + 1) cap 88 (by unfold maxLen; omega)
 have hZs : ZZ.size = (n + 1 - i) * 4 + (G - (n + 1)) * 4 := by
  rw [hZZ]; simp [Builtin.zeroCells, Value.cells]
 have hrz : ∀ ty, (Builtin.append_ #[62, 3] ty #[.slice (some ⟨g, 0, none⟩) i cap, .int .i64 ((n : Int) + 1 - (i : Int))]).run Try.prog w =
  .ok (.slice (some ⟨w.heap.size, 0, none⟩) (n + 1) G) (w.drew.alloc (.cells ROW 88)) := fun ty => by
  have h := Lib.run_append_grow_zeros w 62 3 ty 88 i0 _ .i64 .i64 Try.underlying62 Try.underlying3 hi0 hz0 (some ⟨g, 0, none⟩) i cap ((flat xs).take (i * 4)) hold (n + 1 - i) (by omega) (by omega) (by omega) (by omega) (by rw [hzb]; omega) (by rw [hzb, hik]; exact growslice_fits hroom hl)
  rw [hik, ← hG] at h
  rw [hkk, hROW, hZZ]
  rw [h, Array.append_assoc]
 have hRs : ROW.size = G * 4 := by
  rw [hROW]; simp only [Array.size_append, List.size_toArray, List.length_take, flat_len, hN, hZs]; omega
 have hel : (enc88 p).length = 4 := rfl
 have hdl : ((flat xs).drop (i * 4)).length = (n - i) * 4 := by rw [flat_drop, flat_len, List.length_drop, hN]
 obtain ⟨W1, hW1⟩ : ∃ W1, W1 = w.drew.alloc (.cells ROW 88) := ⟨_, rfl⟩
 obtain ⟨C1, hC1⟩ : ∃ C1 : Array Value, C1 = (ROW.toList.take (i * 4) ++ enc88 p ++ ROW.toList.drop (i * 4 + (enc88 p).length)).toArray := ⟨_, rfl⟩
 have hC1s : C1.size = G * 4 := by
  rw [hC1]; simp only [List.size_toArray, List.length_append, List.length_take, List.length_drop, Array.length_toList, hRs, hel]
  omega
 obtain ⟨C2, hC2⟩ : ∃ C2 : Array Value, C2 = (C1.toList.take ((i + 1) * 4) ++ (flat xs).drop (i * 4) ++ C1.toList.drop ((i + 1) * 4 + ((flat xs).drop (i * 4)).length)).toArray := ⟨_, rfl⟩
 have hC2s : C2.size = G * 4 := by
  rw [hC2]; simp only [List.size_toArray, List.length_append, hdl, List.length_take, List.length_drop, Array.length_toList, hC1s]
  simp only [List.length_drop] at hdl
  omega
 have hN1 : W1.heap[w.heap.size]? = some (.cells ROW 88 (0, 0)) := by rw [hW1]; exact blk_new w.drew _
 have hg1 : W1.heap[g]? = some (.cells cur 88 (0, 0)) := by rw [hW1]; exact blk_alloc (w := w.drew) hg _
 have hv1 : W1.heap[vb]? = some (.cells (p_cells p) 88 (0, 0)) := by rw [hW1]; exact blk_alloc (w := w.drew) hv _
 have hN2 : (W1.setRow w.heap.size C1).heap[w.heap.size]? = some (.cells C1 88 (0, 0)) := setRow_heap W1 _ ROW C1 _ _ hN1
 have hg2 : (W1.setRow w.heap.size C1).heap[g]? = some (.cells cur 88 (0, 0)) := by rw [setRow_other _ _ _ _ (by omega)]; exact hg1
 have hcpA : ∀ W : World, W.heap = W1.heap → ∀ ty, (Builtin.copy_ #[62, 62] ty #[.slice (some ⟨w.heap.size, i * 4, none⟩) (n + 1 - i) (G - i), .slice (some ⟨vb, 0, none⟩) 1 1]).run Try.prog W = .ok (goInt (Nat.min 1 (n + 1 - i))) (W.setRow w.heap.size C1) := fun W hW ty => by
  rw [hC1]
  refine run_copy_rows W _ _ ty 88 w.heap.size (i * 4) (n + 1 - i) (G - i) ⟨vb, 0, none⟩ 1 1 ROW 88 (enc88 p) 4 Try.underlying62 hsz (by rw [hW]; exact hN1) (by rw [hel, show Nat.min 1 (n + 1 - i) = 1 by simp only [Nat.min_def]; split <;> omega]) ?_ (by rw [hel, hRs]; omega) (fun v hv => flat_one [p] v (by simpa [flat] using hv))
  intro j v hj
  rw [Addr.add_lit, Nat.zero_add]
  have := blk_cell hv1 j
  have h2 : W.cell? ⟨vb, j, none⟩ = W1.cell? ⟨vb, j, none⟩ := by simp only [World.cell?, hW]
  rw [h2, this]
  show (enc88 p).toArray[j]? = some v
  rw [List.getElem?_toArray]; exact hj
 have hcpB : ∀ W : World, W.heap = (W1.setRow w.heap.size C1).heap → ∀ ty, (Builtin.copy_ #[62, 62] ty #[.slice (some ⟨w.heap.size, (i + 1) * 4, none⟩) (n - i) (G - (i + 1)), .slice (some ⟨g, i * 4, none⟩) (n - i) (cap - i)]).run Try.prog W = .ok (goInt (Nat.min (n - i) (n - i))) (W.setRow w.heap.size C2) := fun W hW ty => by
  rw [hC2]
  refine run_copy_rows W _ _ ty 88 w.heap.size ((i + 1) * 4) (n - i) (G - (i + 1)) ⟨g, i * 4, none⟩ (n - i) (cap - i) C1 88 ((flat xs).drop (i * 4)) 4 Try.underlying62 hsz (by rw [hW]; exact hN2) (by rw [hdl]; simp [Nat.min_def]) ?_ (by rw [hdl, hC1s]; omega) (fun v hv => flat_one xs v (List.mem_of_mem_drop hv))
  intro j v hj
  rw [List.getElem?_drop, ← ht, List.getElem?_take] at hj
  split at hj
  · rw [Addr.add_lit]
    have h2 : W.cell? ⟨g, i * 4 + j, none⟩ = (W1.setRow w.heap.size C1).cell? ⟨g, i * 4 + j, none⟩ := by simp only [World.cell?, hW]
    rw [h2, blk_cell hg2, ← Array.getElem?_toList]; exact hj
  · cases hj
 have hfin : C2.toList.take ((n + 1) * 4) = flat (xs.take i ++ p :: xs.drop i) := by
  rw [hC2, hC1, hROW]
  have e := grow_cells (flat xs) (enc88 p) ZZ.toList (i * 4) (by rw [flat_len]; omega) rfl (by rw [hdl, Array.length_toList, hZs]; omega)
  rw [flat_len, hN] at e
  rw [show (n + 1) * 4 = n * 4 + 4 by omega, show (i + 1) * 4 = i * 4 + 4 by omega]
  simp only [List.toList_toArray, Array.toList_append]
  rw [e, flat_take, flat_drop, flat_append]
  show _ = flat (xs.take i) ++ (enc88 p ++ flat (xs.drop i))
  rw [List.append_assoc]
 have hGi : ¬ (G = i) := by omega
 have hGi1 : ¬ (G = i + 1) := by omega
 have hG63 : G ≤ 9223372036854775807 := by unfold maxLen at hGm; omega
 have KEEP := Aside0.mk (show base ≤ g ∧ Below base w0 w ∧ W1 = w.drew.alloc (.cells ROW 88) ∧ W1.heap[w.heap.size]? = some (.cells ROW 88 (0, 0)) ∧ C2.size = G * 4 ∧ C2.toList.take ((n + 1) * 4) = flat (xs.take i ++ p :: xs.drop i) ∧ xs.length = n ∧ G ≤ maxLen from ⟨hb, HB, hW1, hN1, hC2s, hfin, hN, hGm⟩)
 rw [← hW1] at hrz
 have HA := Aside0.mk hcpA
 have HBB := Aside0.mk hcpB
 have HRZ := Aside0.mk hrz
 have HH : Aside0 (W1.heap = (w.alloc (.cells ROW 88)).heap) := ⟨by rw [hW1]; rfl⟩
 clear hb hg hs ht HB hv hC1 hC1s hC2 hC2s hg1 hv1 hN1 hN2 hg2 hfin hN hdl hsz hel hROW hZZ hZs hG hRs hold hz0 hzs hzb hi0 hcpA hcpB hrz hGm hkk hik
 subst hW1
 go_enter Try.func79, Try.ntmps79
 go_wp2_with (at_builtin; refine Lib.wpList_append_run _ rfl _ _ _ _ rfl _ _ rfl rfl _ _ (HRZ.out _) ?_)
 rw [HA.out ((w.alloc (.cells ROW 88)).drew) rfl]
 simp only [Result.andThen]
 rw [Oper.upon_value]
 go_wp2
 go_region_law (refine step_copyR rfl _ _ 62 62 rfl _ _ (by simp [Act.eval, Act.put]) (by simp [Act.eval, Act.put]) (HBB.out (((w.alloc (.cells ROW 88)).drew.setRow w.heap.size C1).drew) rfl _) ?_)
 go_wp2
 go_ret
 obtain ⟨k1, k2, _, k4, k5, k6, k7, k8⟩ := KEEP.out
 subst k7
 refine ⟨_, rfl, ?_, ?_⟩
 · have hlen : (xs.take i ++ p :: xs.drop i).length = xs.length + 1 := by
    rw [List.length_append, List.length_take, List.length_cons, List.length_drop]; omega
   have h1 : ((w.alloc (.cells ROW 88)).drew.setRow w.heap.size C1).heap[w.heap.size]? = some (.cells C1 88 (0, 0)) := setRow_heap _ _ ROW C1 _ _ k4
   have := row_make (w := ((w.alloc (.cells ROW 88)).drew.setRow w.heap.size C1).drew.setRow w.heap.size C2) (xs := xs.take i ++ p :: xs.drop i) (cap := G) hbase (setRow_heap _ _ C1 C2 _ _ h1) (by rw [hlen]; exact hGn) k8 k5 (by rw [hlen]; exact k6)
   rw [hlen] at this
   exact this
 · exact below_setRow (below_drew (below_setRow (below_drew (k2.alloc hbase _)) hbase C1)) hbase C2
theorem insert_Count (w0 w : World) (base vb i : Nat) (sv : Value) (xs : List S88) (p : S88) (HO : Kd.R k88 88 w base (fun _ => True) sv xs) (HB : Below base w0 w) (hbase : base ≤ w.heap.size) (hi : i ≤ xs.length) (hl : (xs.length + 1) * 32 ≤ 140737488355328)
 (hv : w.heap[vb]? = some (.cells (p_cells p) 88 (0, 0))) (hvb : sv.ownBlock ≠ some vb) :
 Calls Try.prog 79 #[sv, .int .i64 i, .slice (some ⟨vb, 0, none⟩) 1 1] w fun e w' => ∃ v1, e = .returned v1 ∧ Kd.R k88 88 w' base (fun _ => True) v1 (xs.take i ++ p :: xs.drop i) ∧ Below base w0 w' := by
 rcases Nat.lt_or_eq_of_le hi with hlt | rfl
 · obtain ⟨g, cap, cur, rfl, hb, hg, hn, hm, hs, ht⟩ := row_open HO (by omega)
   have hne : vb ≠ g := by
    rintro rfl; exact hvb rfl
   by_cases hroom : xs.length + 1 ≤ cap
   · exact insert_shift w0 w base g cap vb i cur xs p hb hg hn hm hs ht HB hbase hlt hroom hv hne
   · exact insert_grow w0 w base g cap vb i cur xs p hb hg hn hm hs ht HB hbase hlt (by omega) hv hl
 · have hC : Kd.C k88 w (some ⟨vb, 0, none⟩) 1 [p] := by
    refine ⟨rfl, by decide, fun _ => ⟨⟨vb, 0, none⟩, rfl, ?_⟩⟩
    intro j q hj
    cases j with
    | zero =>
     obtain rfl : p = q := by simpa using hj
     refine ⟨enc88 p, rfl, k88_mk w p, fun j u hu => ?_⟩
     rw [Addr.add_lit, Nat.zero_add, Nat.zero_mul, Nat.zero_add, blk_cell hv j]
     show (enc88 p).toArray[j]? = some u
     rw [List.getElem?_toArray]; exact hu
    | succ j => simp at hj
   rw [List.take_length, List.drop_length]
   exact insert_end w0 w base vb sv xs p HO HB hbase hl hC
def foundAt (l : List S88) (a0 a1 a2 : Int) : Bool := decide (searchAt l a0 a1 a2 < l.length) && decide (cmpAt l a0 a1 a2 (searchAt l a0 a1 a2) = 0)
theorem search_f (l : List S88) (a0 a1 a2 a3 : Int) : search_counts.f l a0 a1 a2 a3 = some ((searchAt l a0 a1 a2 : Int), foundAt l a0 a1 a2) := rfl
theorem searchAt_le (l : List S88) (a0 a1 a2 : Int) : searchAt l a0 a1 a2 ≤ l.length := bsE_le _ _ _ _ (Nat.zero_le _)
set_option maxHeartbeats 4000000 in
set_option maxRecDepth 100000 in
theorem counted_new (A0 : Option Addr) (c0 : Nat) (l0 : List S88) (a0 a1 a2 a3 : Int) (w : World) (hr0 : Kd.C k88 w A0 l0.length l0) (hc0 : l0.length ≤ c0) (hlim : l0.length < 4294967296) (hf : foundAt l0 a0 a1 a2 = false) :
 Calls Try.prog 56 #[.slice A0 l0.length c0, .agg #[.int .i64 a0, .int .i64 a1, .int .i64 a2, .int .i64 a3]] w fun e w' => ∃ v0_ : Value, e = .returned v0_ ∧ Kd.R k88 88 w' w.heap.size (fun _ => True) v0_ (l0.take (searchAt l0 a0 a1 a2) ++ ⟨a0, a1, a2, a3⟩ :: l0.drop (searchAt l0 a0 a1 a2)) ∧ Below w.heap.size w w' := by
 have hcl : clone_Count.f l0 = some l0 := by unfold clone_Count.f; rw [if_pos (by omega)]
 have hse := search_f l0 a0 a1 a2 a3
 rw [hf] at hse
 have hle := searchAt_le l0 a0 a1 a2
 generalize searchAt l0 a0 a1 a2 = k at hse hle ⊢
 have HC := Aside0.mk hr0
 have HCL := Aside0.mk hcl
 have HSE := Aside0.mk hse
 clear hr0 hcl hse hf
 have hu := Try.underlying88
 go_enter Try.func56, Try.ntmps56
 go_wp2_with (first
  | (go_at_call 76; refine (clone_Count.calls A0 c0 l0 l0 _ (Kd.C_below HC.out ((Below.refl _ w).alloc (Nat.le_refl _) _)) hc0 HCL.out).mono ?_; rintro e w1 ⟨v1, rfl, hR, hB⟩; obtain ⟨A1, c1, rfl⟩ := Kd.R_slice hR; have hBox := blk_below (blk_new w _) hB; have hx0 := (blk_cell hBox 0); have hx1 := (blk_cell hBox 1); have hx2 := (blk_cell hBox 2); have hx3 := (blk_cell hBox 3); have HR1 := Aside0.mk hR; have HB1 := Aside0.mk hB; clear hR hB hBox)
  | (go_at_call 77; refine (search_counts.calls A1 c1 l0 a0 a1 a2 a3 (k : Int) false _ (Kd.R_reads' HR1.out).2.2 (Kd.R_reads' HR1.out).2.1 HSE.out).mono ?_; rintro e w2 ⟨rfl, hb2⟩; have hy0 := held1 hx0 hb2; have hy1 := held1 hx1 hb2; have hy2 := held1 hx2 hb2; have hy3 := held1 hx3 hb2; have HR2 := Aside0.mk (Kd.R_below HR1.out hb2); have HB2 := Aside0.mk (HB1.out.trans (hb2.mono HB1.out.size)); have HLT := Aside0.mk (Nat.le_trans (Nat.le_refl w1.heap.size) hb2.size); have HOW := Aside0.mk HR1.out; clear hx0 hx1 hx2 hx3 hb2 HR1 HB1)
  | (go_at_call 79; refine (insert_Count w _ w.heap.size _ k (.slice A1 l0.length c1) l0 ⟨a0, a1, a2, a3⟩ (Kd.R_lower (Kd.R_below HR2.out ((Below.refl _ _).alloc (Nat.le_refl _) _)) (by simp)) ?iB ?iS hle (by omega) (blk_new _ _) ?iN).mono ?_; (case iB => exact ((Below.refl _ w).alloc (Nat.le_refl _) _).trans ((HB2.out.mono (by simp)).alloc (by have := HB2.out.size; simp at this; omega) _)); (case iS => have := HB2.out.size; simp at this ⊢; omega); (case iN => intro hh; have h1 := Kd.R_lt HOW.out _ hh; have h2 := HLT.out; omega); rintro e w3 ⟨v3, rfl, hR3, hB3⟩; have HR3 := Aside0.mk hR3; have HB3 := Aside0.mk hB3; clear hR3 hB3))
 go_ret
 exact ⟨_, rfl, HR3.out, HB3.out⟩
theorem flat_cell (l : List S88) (k : Nat) (hk : k < l.length) : (flat l)[k * 4 + 3]? = some (.int .i64 (rd_T88 l (k : Int)).f3) := by
 have h : (flat l).drop (k * 4) = enc88 l[k] ++ flat (l.drop (k + 1)) := by
  rw [flat_drop, List.drop_eq_getElem_cons hk]; rfl
 have h2 : (flat l)[k * 4 + 3]? = ((flat l).drop (k * 4))[3]? := by rw [List.getElem?_drop]
 rw [h2, h]
 have : rd_T88 l (k : Int) = l[k] := by unfold rd_T88; simp [hk]
 rw [this]; rfl
theorem flat_put (l : List S88) (k : Nat) (hk : k < l.length) (v : Int) : (flat l).set (k * 4 + 3) (.int .i64 v) = flat (l.set k ⟨(rd_T88 l (k : Int)).f0, (rd_T88 l (k : Int)).f1, (rd_T88 l (k : Int)).f2, v⟩) := by
 induction l generalizing k with
 | nil => simp at hk
 | cons x l ih =>
  cases k with
  | zero => rfl
  | succ k =>
   have hk' : k < l.length := by simpa using hk
   have e1 : rd_T88 (x :: l) ((k + 1 : Nat) : Int) = rd_T88 l (k : Int) := by unfold rd_T88; simp
   rw [e1, List.set_cons_succ]
   show (enc88 x ++ flat l).set _ _ = enc88 x ++ flat (l.set k _)
   rw [← ih k hk', List.set_append_right _ _ (by show 4 ≤ _; omega)]
   congr 2
   show (k + 1) * 4 + 3 - 4 = _
   omega
theorem row_cell {w : World} {g n j : Nat} {cur : Array Value} {F : List Value} {u : Value} (hg : w.heap[g]? = some (.cells cur 88 (0, 0))) (ht : cur.toList.take n = F) (hF : F[j]? = some u) (hj : j < n) : w.cell? ⟨g, j, none⟩ = some u := by
 rw [blk_cell hg, ← Array.getElem?_toList]
 rw [← ht, List.getElem?_take, if_pos hj] at hF
 exact hF
set_option maxHeartbeats 4000000 in
set_option maxRecDepth 100000 in
theorem counted_add (A0 : Option Addr) (c0 : Nat) (l0 : List S88) (a0 a1 a2 a3 : Int) (w : World) (hr0 : Kd.C k88 w A0 l0.length l0) (hc0 : l0.length ≤ c0) (hlim : l0.length < 4294967296) (hf : foundAt l0 a0 a1 a2 = true)
 (hz : wrap64 ((rd_T88 l0 (searchAt l0 a0 a1 a2 : Int)).f3 + a3) ≠ 0) :
 Calls Try.prog 56 #[.slice A0 l0.length c0, .agg #[.int .i64 a0, .int .i64 a1, .int .i64 a2, .int .i64 a3]] w fun e w' => ∃ v0_ : Value, e = .returned v0_ ∧ Kd.R k88 88 w' w.heap.size (fun _ => True) v0_ (l0.set (searchAt l0 a0 a1 a2) ⟨(rd_T88 l0 (searchAt l0 a0 a1 a2 : Int)).f0, (rd_T88 l0 (searchAt l0 a0 a1 a2 : Int)).f1, (rd_T88 l0 (searchAt l0 a0 a1 a2 : Int)).f2, wrap64 ((rd_T88 l0 (searchAt l0 a0 a1 a2 : Int)).f3 + a3)⟩) ∧ Below w.heap.size w w' := by
 have hcl : clone_Count.f l0 = some l0 := by unfold clone_Count.f; rw [if_pos (by omega)]
 have hse := search_f l0 a0 a1 a2 a3
 rw [hf] at hse
 have hlt : searchAt l0 a0 a1 a2 < l0.length := by
  unfold foundAt at hf
  rw [Bool.and_eq_true] at hf
  exact of_decide_eq_true hf.1
 generalize searchAt l0 a0 a1 a2 = k at hse hlt hz ⊢
 have hfp := flat_put l0 k hlt (wrap64 ((rd_T88 l0 (k : Int)).f3 + a3))
 have hfc := flat_cell l0 k hlt
 have hlen := @List.length_set S88 l0 k ⟨(rd_T88 l0 (k : Int)).f0, (rd_T88 l0 (k : Int)).f1, (rd_T88 l0 (k : Int)).f2, wrap64 ((rd_T88 l0 (k : Int)).f3 + a3)⟩
 generalize l0.set k ⟨(rd_T88 l0 (k : Int)).f0, (rd_T88 l0 (k : Int)).f1, (rd_T88 l0 (k : Int)).f2, wrap64 ((rd_T88 l0 (k : Int)).f3 + a3)⟩ = r at hfp hlen ⊢
 generalize (rd_T88 l0 (k : Int)).f3 = y3 at hfp hfc hz
 have hzb : (wrap64 (y3 + a3) == 0) = false := beq_eq_false_iff_ne.mpr hz
 have hkz : (k : Int) < (l0.length : Int) := by omega
 have HC := Aside0.mk hr0
 have HCL := Aside0.mk hcl
 have HSE := Aside0.mk hse
 have HFP := Aside0.mk hfp
 have HFC := Aside0.mk hfc
 have HLN := Aside0.mk hlen
 clear hr0 hcl hse hf hfp hfc hlen hz
 have hu := Try.underlying88
 go_enter Try.func56, Try.ntmps56
 go_wp2_with (first
  | (go_at_call 76; refine (clone_Count.calls A0 c0 l0 l0 _ (Kd.C_below HC.out ((Below.refl _ w).alloc (Nat.le_refl _) _)) hc0 HCL.out).mono ?_; rintro e w1 ⟨v1, rfl, hR, hB⟩; obtain ⟨g, cap, cur, rfl, hbg, hg, hn, hm, hs, ht⟩ := row_open hR (by omega); have hBox := blk_below (blk_new w _) hB; have hx0 := (blk_cell hBox 0); have hx1 := (blk_cell hBox 1); have hx2 := (blk_cell hBox 2); have hx3 := (blk_cell hBox 3); have HR1 := Aside0.mk hR; have HB1 := Aside0.mk hB; have HG := Aside0.mk (And.intro hbg (And.intro hg (And.intro hn (And.intro hm (And.intro hs ht))))); clear hR hB hBox hbg hg hn hm hs ht)
  | (go_at_call 77; refine (search_counts.calls _ cap l0 a0 a1 a2 a3 (k : Int) true _ (Kd.R_reads' HR1.out).2.2 (Kd.R_reads' HR1.out).2.1 HSE.out).mono ?_; rintro e w2 ⟨rfl, hb2⟩; have hy0 := held1 hx0 hb2; have hy1 := held1 hx1 hb2; have hy2 := held1 hx2 hb2; have hy3 := held1 hx3 hb2; have HG2 := Aside0.mk (blk_below HG.out.2.1 hb2); have hrow : w2.cell? ⟨g, k * 4 + 3, none⟩ = some (.int .i64 y3) := (row_cell HG2.out HG.out.2.2.2.2.2 HFC.out (by omega)); have hrf : w2.frozen? ⟨g, k * 4 + 3, none⟩ = false := (by simp [World.frozen?, HG2.out]); have HB2 := Aside0.mk (HB1.out.trans (hb2.mono HB1.out.size)); clear hx0 hx1 hx2 hx3 hb2 HR1 HB1))
 go_region
 go_wp2
 go_region
 go_wp2
 go_ret
 obtain ⟨hbg, hg, hn, hm, hs, ht⟩ := HG.out
 have hbw : w.heap.size ≤ g := Nat.le_trans (by simp) hbg
 refine ⟨_, rfl, ?_, ?_⟩
 · have hrow2 := setCell_eq_setRow w2 g (k * 4 + 3) cur 88 (0, 0) (.int .i64 (wrap64 (y3 + a3))) HG2.out
   have := row_make (w := ((w2.setCell ⟨g, k * 4 + 3, none⟩ (.int .i64 (wrap64 (y3 + a3)))).drew).drew) (cap := cap) (cur := cur.setIfInBounds (k * 4 + 3) (.int .i64 (wrap64 (y3 + a3)))) (xs := r) hbw
    (by show (w2.setCell ⟨g, k * 4 + 3, none⟩ (.int .i64 (wrap64 (y3 + a3)))).heap[g]? = _; rw [hrow2]; exact setRow_heap _ _ _ _ _ _ HG2.out) (by rw [HLN.out]; exact hn) hm (by rw [Array.size_setIfInBounds]; exact hs)
    (by rw [Array.toList_setIfInBounds, List.take_set, HLN.out, ht, HFP.out])
   rw [HLN.out] at this
   exact this
 · exact below_drew (below_drew ((((Below.refl _ w).alloc (Nat.le_refl _) _).trans (HB2.out.mono (by simp))).setCell hbw _))
section
variable {P : Program}
theorem step_appR {ops : Array Oper} {o : Oper} {a : Act} {w : World} {K : Act → World → Prop} {Q : Exit → Act → World → Prop} {E : Prop}
 (hg : o.guard = none) (d x : Operand) (dT sT : TypeId) (hop : o.op = Op.call { callee := Callee.builtin Builtin.append, args := #[d, x], argTypes := #[dT, sT] })
 (v u : Value) (hd : a.eval d = v) (hx : a.eval x = u) {v' : Value} {w' : World} (hr : (Builtin.append_ #[dT, sT] o.type #[v, u]).run P w = .ok v' w') (hK : K (a.put o.dst v') w') :
 if Region.wanted o (yielded ops a.tmps) = true then Oper.wp P o a w K Q else E := by
 rw [if_pos (by simp [Region.wanted, hg])]
 unfold Oper.wp
 simp only [execOp, hop, resolve, invoke, builtin, Sem.run_bind, Sem.run_pure, Result.andThen_ok, List.map_toArray, List.map_cons, List.map_nil, hd, hx, hr]
 exact hK
theorem run_clear_one (w : World) (t e ty : TypeId) (z : Value) (zs : List Value) (ht : P.underlying t = some (.slice e)) (hv : ∀ w, (zeroValue e).run P w = .ok z w) (hz : z.cells = zs.toArray) (h1 : ∀ v ∈ zs, v.oneCell' = true) (g o c : Nat) (cur : Array Value) (tt : TypeId)
 (hg : w.heap[g]? = some (.cells cur tt (0, 0))) (hfit : o + zs.length ≤ cur.size) :
 (Builtin.clear_ #[t] ty #[.slice (some ⟨g, o, none⟩) 1 c]).run P w = .ok (.tuple #[]) (w.setRow g (cur.toList.take o ++ zs ++ cur.toList.drop (o + zs.length)).toArray) := by
 have hzc : (Builtin.zeroCells z.cells 1).toList = zs := by
  rw [hz]
  simp only [Builtin.zeroCells, Nat.one_mul, List.size_toArray, Array.toList_map, Array.toList_range]
  apply List.ext_getElem
  · simp
  · intro i h1 h2
    simp [Nat.mod_eq_of_lt h2, h2]
 have hst := run_storeCells_at P g o tt zs 0 cur w hg (by simpa using hfit) h1
 simp only [Nat.add_zero] at hst
 simp [Builtin.clear_, run_underlying ht, hv, hzc, hst]
end
theorem zeroCount (w : World) : (zeroValue 88).run Try.prog w = .ok (.agg #[.int .i64 0, .int .i64 0, .int .i64 0, .int .i64 0]) w := by
 obtain ⟨i0, hi, hz⟩ := Option.map_eq_some_iff.1 info88
 simp only [Prod.mk.injEq] at hz
 simp [zeroValue, typeInfo, hi, hz.1]
set_option maxHeartbeats 4000000 in
set_option maxRecDepth 100000 in
theorem delete_at (w0 w : World) (base g cap i : Nat) (cur : Array Value) (xs : List S88) (hb : base ≤ g) (hg : w.heap[g]? = some (.cells cur 88 (0, 0))) (hn : xs.length ≤ cap) (hm : cap ≤ maxLen) (hs : cur.size = cap * 4) (ht : cur.toList.take (xs.length * 4) = flat xs)
 (HB : Below base w0 w) (hi : i < xs.length) :
 Calls Try.prog 80 #[.slice (some ⟨g, 0, none⟩) xs.length cap, .int .i64 i, .int .i64 ((i : Int) + 1)] w fun e w' => ∃ v1, e = .returned v1 ∧ Kd.R k88 88 w' base (fun _ => True) v1 (xs.take i ++ xs.drop (i + 1)) ∧ Below base w0 w' := by
 have hm' : cap ≤ 9223372036854775807 := by unfold maxLen at hm; omega
 generalize hN : xs.length = n at *
 obtain ⟨news, hnews⟩ : ∃ news, news = (flat xs).drop ((i + 1) * 4) := ⟨_, rfl⟩
 have hnl : news.length = (n - (i + 1)) * 4 := by rw [hnews, flat_drop, flat_len, List.length_drop, hN]
 have hn1 : ∀ u ∈ news, u.oneCell' = true := by rw [hnews]; exact fun v hv => flat_one xs v (List.mem_of_mem_drop hv)
 have hcell : ∀ t u, news[t]? = some u → w.drew.cell? ⟨g, (i + 1) * 4 + t, none⟩ = some u := by
  intro t u hu
  rw [hnews, List.getElem?_drop] at hu
  have hlt : (i + 1) * 4 + t < n * 4 := by
   have := (List.getElem?_eq_some_iff.1 hu).1
   rw [flat_len, hN] at this; omega
  exact row_cell (w := w.drew) hg ht hu hlt
 obtain ⟨A, hA, hsrc⟩ : ∃ A : Addr, (if cap = i + 1 then (some ⟨g, 0, none⟩ : Option Addr) else some ⟨g, (i + 1) * 4, none⟩) = some A ∧ Aside0 (∀ t u, news[t]? = some u → w.drew.cell? (A.add t) = some u) := by
  by_cases h : cap = i + 1
  · refine ⟨⟨g, 0, none⟩, by simp [h], ⟨fun t u hu => ?_⟩⟩
    have h0 : news.length = 0 := by rw [hnl]; omega
    rw [List.length_eq_zero_iff.1 h0] at hu
    simp at hu
  · exact ⟨⟨g, (i + 1) * 4, none⟩, by simp [h], ⟨fun t u hu => by rw [Addr.add_lit]; exact hcell t u hu⟩⟩
 obtain ⟨i0, h0, hz0⟩ := Option.map_eq_some_iff.1 info88
 simp only [Prod.mk.injEq] at hz0
 have hsz4 : i0.size = 4 := hz0.2.1
 obtain ⟨C1, hC1⟩ : ∃ C1 : Array Value, C1 = (cur.toList.take (i * 4) ++ news ++ cur.toList.drop (i * 4 + news.length)).toArray := ⟨_, rfl⟩
 have hcl : cur.toList.length = cap * 4 := by simpa using hs
 have hC1s : C1.size = cap * 4 := by
  rw [hC1]; simp only [List.size_toArray, List.length_append, hnl, List.length_take, List.length_drop, hcl]
  omega
 obtain ⟨m, hmd⟩ : ∃ m, m = i + (n - (i + 1)) := ⟨_, rfl⟩
 have happ : ∀ ty c, (Builtin.append_ #[62, 62] ty #[.slice (some ⟨g, 0, none⟩) i cap, .slice (some A) (n - (i + 1)) c]).run Try.prog w.drew = .ok (.slice (some ⟨g, 0, none⟩) m cap) (w.drew.setRow g C1) := fun ty c => by
  have := run_append_room (P := Try.prog) w.drew 62 ty 88 i0 Try.underlying62 h0 g i cap cur hg A (n - (i + 1)) c news (by rw [hnl, hsz4]) hsrc.out hn1 (by omega) (by rw [hsz4, hnl, hs]; omega)
  rw [hsz4, ← hC1, ← hmd] at this
  exact this
 have hC1f : C1.toList.take (m * 4) = flat (xs.take i ++ xs.drop (i + 1)) := by
  rw [hC1, flat_append, ← flat_take, ← flat_drop, ← hnews]
  have e1 : cur.toList.take (i * 4) = (flat xs).take (i * 4) := by rw [← ht, List.take_take, Nat.min_eq_left (by omega)]
  rw [e1]
  refine List.take_left' ?_
  rw [List.length_append, hnl, List.length_take, flat_len, hN]; omega
 obtain ⟨W1, hW1⟩ : ∃ W1, W1 = w.drew.setRow g C1 := ⟨_, rfl⟩
 have hg1 : W1.heap[g]? = some (.cells C1 88 (0, 0)) := by rw [hW1]; exact setRow_heap w.drew g cur C1 _ _ hg
 obtain ⟨C2, hC2⟩ : ∃ C2 : Array Value, C2 = (C1.toList.take (m * 4) ++ ([.int .i64 0, .int .i64 0, .int .i64 0, .int .i64 0] : List Value) ++ C1.toList.drop (m * 4 + 4)).toArray := ⟨_, rfl⟩
 have hmn : m + 1 = n := by omega
 have hC2s : C2.size = cap * 4 := by
  rw [hC2]; simp only [List.size_toArray, List.length_append, List.length_take, List.length_drop, Array.length_toList, hC1s, List.length_cons, List.length_nil]
  omega
 have hC2f : C2.toList.take (m * 4) = flat (xs.take i ++ xs.drop (i + 1)) := by
  rw [← hC1f, hC2, List.append_assoc]
  refine List.take_left' ?_
  rw [List.length_take, Array.length_toList, hC1s]; omega
 have hclr : ∀ W : World, W.heap = W1.heap → ∀ ty c, (Builtin.clear_ #[62] ty #[.slice (some ⟨g, m * 4, none⟩) 1 c]).run Try.prog W = .ok (.tuple #[]) (W.setRow g C2) := fun W hW ty c => by
  rw [hC2]
  exact run_clear_one W 62 88 ty _ [.int .i64 0, .int .i64 0, .int .i64 0, .int .i64 0] Try.underlying62 zeroCount rfl (by intro v hv; simp only [List.mem_cons, List.not_mem_nil, or_false] at hv; rcases hv with rfl | rfl | rfl | rfl <;> rfl) g (m * 4) c C1 88 (by rw [hW]; exact hg1) (by simp only [List.length_cons, List.length_nil, hC1s]; omega)
 have KEEP := Aside0.mk (show base ≤ g ∧ Below base w0 w ∧ W1 = w.drew.setRow g C1 ∧ W1.heap[g]? = some (.cells C1 88 (0, 0)) ∧ C2.size = cap * 4 ∧ C2.toList.take (m * 4) = flat (xs.take i ++ xs.drop (i + 1)) ∧ xs.length = n ∧ m + 1 = n from ⟨hb, HB, hW1, hg1, hC2s, hC2f, hN, hmn⟩)
 rw [← hW1] at happ
 have hne : ¬ ((i : Int) = (i : Int) + 1) := by omega
 have hw1 : IntKind.i64.wrap ((i : Int) + 1) = (i : Int) + 1 := by rw [IntKind.wrap_i64]; omega
 have htn : ((i : Int) + 1).toNat = i + 1 := by omega
 have hi1 : (i : Int) + 1 ≤ (n : Int) := by omega
 have hi2 : (0 : Int) ≤ (i : Int) + 1 := by omega
 have hi3 : (i : Int) ≤ (cap : Int) := by omega
 have hi4 : (i : Int) ≤ (i : Int) + 1 := by omega
 have hi5 : (n : Int) ≤ (cap : Int) := by omega
 have hm1 : (m : Int) ≤ (n : Int) := by omega
 have hm2 : ¬ (cap = m) := by omega
 have hm3 : n - m = 1 := by omega
 clear hb hg hs ht HB hC1 hC1s hC2 hC2s hg1 hC2f hC1f hW1 hN hcl hnews hnl hn1 hcell hsrc h0 hz0 hsz4 hmd hmn
 go_enter Try.func80, Try.ntmps80
 go_wp2_with fail
 go_region_law (refine step_appR rfl _ _ 62 62 rfl _ _ (by simp [Act.eval, Act.put]) (by simp [Act.eval, Act.put]) (happ _ (cap - (i + 1))) ?_)
 go_wp2_with (at_builtin; refine list_clearR _ rfl _ 62 rfl _ rfl (hclr _ rfl _ _) ?_)
 go_ret
 obtain ⟨k1, k2, k3, k4, k5, k6, k7, k8⟩ := KEEP.out
 subst k7
 refine ⟨_, rfl, ?_, ?_⟩
 · have hlen : (xs.take i ++ xs.drop (i + 1)).length = m := by
    rw [List.length_append, List.length_take, List.length_drop]; omega
   have := row_make (w := W1.setRow g C2) (xs := xs.take i ++ xs.drop (i + 1)) (cap := cap) k1 (setRow_heap W1 g C1 C2 _ _ k4) (by rw [hlen]; omega) hm k5 (by rw [hlen]; exact k6)
   rw [hlen] at this
   exact this
 · rw [k3]; exact below_setRow (below_setRow (below_drew k2) k1 C1) k1 C2
set_option maxHeartbeats 4000000 in
set_option maxRecDepth 100000 in
theorem counted_del (A0 : Option Addr) (c0 : Nat) (l0 : List S88) (a0 a1 a2 a3 : Int) (w : World) (hr0 : Kd.C k88 w A0 l0.length l0) (hc0 : l0.length ≤ c0) (hlim : l0.length < 4294967296) (hf : foundAt l0 a0 a1 a2 = true)
 (hz : wrap64 ((rd_T88 l0 (searchAt l0 a0 a1 a2 : Int)).f3 + a3) = 0) :
 Calls Try.prog 56 #[.slice A0 l0.length c0, .agg #[.int .i64 a0, .int .i64 a1, .int .i64 a2, .int .i64 a3]] w fun e w' => ∃ v0_ : Value, e = .returned v0_ ∧ Kd.R k88 88 w' w.heap.size (fun _ => True) v0_ (l0.take (searchAt l0 a0 a1 a2) ++ l0.drop (searchAt l0 a0 a1 a2 + 1)) ∧ Below w.heap.size w w' := by
 have hcl : clone_Count.f l0 = some l0 := by unfold clone_Count.f; rw [if_pos (by omega)]
 have hse := search_f l0 a0 a1 a2 a3
 rw [hf] at hse
 have hlt : searchAt l0 a0 a1 a2 < l0.length := by
  unfold foundAt at hf
  rw [Bool.and_eq_true] at hf
  exact of_decide_eq_true hf.1
 generalize searchAt l0 a0 a1 a2 = k at hse hlt hz ⊢
 have hfc := flat_cell l0 k hlt
 generalize (rd_T88 l0 (k : Int)).f3 = y3 at hfc hz
 have hzb : (wrap64 (y3 + a3) == 0) = true := beq_iff_eq.mpr hz
 have hkz : (k : Int) < (l0.length : Int) := by omega
 have hk1 : IntKind.i64.wrap ((k : Int) + 1) = (k : Int) + 1 := by rw [IntKind.wrap_i64]; omega
 have HC := Aside0.mk hr0
 have HCL := Aside0.mk hcl
 have HSE := Aside0.mk hse
 have HFC := Aside0.mk hfc
 clear hr0 hcl hse hf hfc hz
 have hu := Try.underlying88
 go_enter Try.func56, Try.ntmps56
 go_wp2_with (first
  | (go_at_call 76; refine (clone_Count.calls A0 c0 l0 l0 _ (Kd.C_below HC.out ((Below.refl _ w).alloc (Nat.le_refl _) _)) hc0 HCL.out).mono ?_; rintro e w1 ⟨v1, rfl, hR, hB⟩; obtain ⟨g, cap, cur, rfl, hbg, hg, hn, hm, hs, ht⟩ := row_open hR (by omega); have hBox := blk_below (blk_new w _) hB; have hx0 := (blk_cell hBox 0); have hx1 := (blk_cell hBox 1); have hx2 := (blk_cell hBox 2); have hx3 := (blk_cell hBox 3); have HR1 := Aside0.mk hR; have HB1 := Aside0.mk hB; have HG := Aside0.mk (And.intro hbg (And.intro hg (And.intro hn (And.intro hm (And.intro hs ht))))); clear hR hB hBox hbg hg hn hm hs ht)
  | (go_at_call 77; refine (search_counts.calls _ cap l0 a0 a1 a2 a3 (k : Int) true _ (Kd.R_reads' HR1.out).2.2 (Kd.R_reads' HR1.out).2.1 HSE.out).mono ?_; rintro e w2 ⟨rfl, hb2⟩; have hy0 := held1 hx0 hb2; have hy1 := held1 hx1 hb2; have hy2 := held1 hx2 hb2; have hy3 := held1 hx3 hb2; have HG2 := Aside0.mk (blk_below HG.out.2.1 hb2); have hrow : w2.cell? ⟨g, k * 4 + 3, none⟩ = some (.int .i64 y3) := (row_cell HG2.out HG.out.2.2.2.2.2 HFC.out (by omega)); have hrf : w2.frozen? ⟨g, k * 4 + 3, none⟩ = false := (by simp [World.frozen?, HG2.out]); have HB2 := Aside0.mk (HB1.out.trans (hb2.mono HB1.out.size)); clear hx0 hx1 hx2 hx3 hb2 HR1 HB1))
 go_region
 go_wp2_with (go_at_call 80; refine (delete_at w w2.drew w.heap.size g cap k cur l0 (Nat.le_trans (by simp) HG.out.1) (blk_drew HG2.out) HG.out.2.2.1 HG.out.2.2.2.1 HG.out.2.2.2.2.1 HG.out.2.2.2.2.2 ?iB hlt).mono ?_; (case iB => exact below_drew ((((Below.refl _ w).alloc (Nat.le_refl _) _).trans (HB2.out.mono (by simp))))); rintro e w3 ⟨v3, rfl, hR3, hB3⟩; have HR3 := Aside0.mk hR3; have HB3 := Aside0.mk hB3; clear hR3 hB3)
 go_ret
 exact ⟨_, rfl, HR3.out, HB3.out⟩
def statistic_counted.f (l0 : List S88) (a0 a1 a2 a3 : Int) : Option (List S88) :=
 if l0.length < 4294967296 then
  if foundAt l0 a0 a1 a2 = true then
   if wrap64 ((rd_T88 l0 (searchAt l0 a0 a1 a2 : Int)).f3 + a3) = 0 then some (l0.take (searchAt l0 a0 a1 a2) ++ l0.drop (searchAt l0 a0 a1 a2 + 1))
   else some (l0.set (searchAt l0 a0 a1 a2) ⟨(rd_T88 l0 (searchAt l0 a0 a1 a2 : Int)).f0, (rd_T88 l0 (searchAt l0 a0 a1 a2 : Int)).f1, (rd_T88 l0 (searchAt l0 a0 a1 a2 : Int)).f2, wrap64 ((rd_T88 l0 (searchAt l0 a0 a1 a2 : Int)).f3 + a3)⟩)
  else some (l0.take (searchAt l0 a0 a1 a2) ++ ⟨a0, a1, a2, a3⟩ :: l0.drop (searchAt l0 a0 a1 a2))
 else none
theorem statistic_counted.calls (A0 : Option Addr) (c0 : Nat) (l0 : List S88) (a0 a1 a2 a3 : Int) (r : List S88) (w : World) (hr0 : Kd.C k88 w A0 l0.length l0) (hc0 : l0.length ≤ c0) (h : statistic_counted.f l0 a0 a1 a2 a3 = some r) :
 Calls Try.prog 56 #[.slice A0 l0.length c0, .agg #[.int .i64 a0, .int .i64 a1, .int .i64 a2, .int .i64 a3]] w fun e w' => ∃ v0_ : Value, e = .returned v0_ ∧ Kd.R k88 88 w' w.heap.size (fun _ => True) v0_ r ∧ Below w.heap.size w w' := by
 unfold statistic_counted.f at h
 split at h
 · next hl =>
   split at h
   · next hf =>
     split at h
     · next hz =>
       obtain rfl := Option.some.inj h
       exact counted_del A0 c0 l0 a0 a1 a2 a3 w hr0 hc0 hl hf hz
     · next hz =>
       obtain rfl := Option.some.inj h
       exact counted_add A0 c0 l0 a0 a1 a2 a3 w hr0 hc0 hl hf hz
   · next hf =>
     obtain rfl := Option.some.inj h
     exact counted_new A0 c0 l0 a0 a1 a2 a3 w hr0 hc0 hl (Bool.eq_false_iff.mpr hf)
 · cases h
end Go.Proofs.Ytfpianecohobjaa.P
