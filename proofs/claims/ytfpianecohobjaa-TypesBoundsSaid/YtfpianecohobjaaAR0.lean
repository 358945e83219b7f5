/- typesOrder_holds, typesBounds_holds, typesInherit_holds: a part of the proof that the law returns true for every input. No condition. -/
import Derived.Test.YtfpianecohobjaaAPx0
import Derived.ProofKit
import Derived.OpenShut
import Derived.Lib.SmallJoins
import Derived.Deep.Fields
import Derived.Deep.Slices
namespace Go.Proofs.Ytfpianecohobjaa.P
open Go.ChangeShapes Go.WideShapes Go.ChangeAt Go.RowKit Go.Joins Go.Deep Go.Proofs.YtfpianecohobjaaW.PrintWords Go.Proofs.YtfpianecohobjaaW.PrintLast Go.Proofs.YtfpianecohobjaaW.PrintMore
set_option linter.unusedVariables false
set_option linter.unusedSimpArgs false
/-- Nothing in it weighs more than a reading may. -/
def Light {H : Type} (P : Program) (t : TypeId) (d : DataW H) : Prop := ∀ n ∈ d.weights P t, n ≤ reachBytes
theorem weightsAll_mem {H : Type} {P : Program} {e : TypeId} : ∀ {l : List (DataW H)} {d : DataW H}, d ∈ l → ∀ n ∈ d.weights P e, n ∈ DataW.weightsAll P e l
  | [], _, h, _, _ => by cases h
  | x :: l, d, h, n, hn => by
    simp only [DataW.weightsAll, List.mem_append]
    rcases List.mem_cons.1 h with rfl | h
    · exact Or.inl hn
    · exact Or.inr (weightsAll_mem h n hn)
/-- Whatever reads at type t is told by the kind d, and good. -/
def RdAt {α : Type} (P : Program) (t : TypeId) (d : Kd α) (good : α → Prop) : Prop :=
  ∀ (H : Type) (enc : TypeId × Value → H) (w : World) (spare : Nat → Bool) (held : Bool) (fuel : Nat) (cs : List Value) (y : DataW H × List MemPlace), DataW.trod enc P w 0 spare held fuel t cs = some y → Light P t y.1 → ∃ x, d.K w x cs ∧ good x
section
variable {P : Program} {t e : TypeId}
theorem rd_int {k : IntKind} (ht : P.underlying t = some (.int k)) : RdAt P t (Kd.int k) (fun n => (Lit.int k n).wf = true) := by
  intro H enc w spare held fuel cs y h _
  obtain ⟨n, rfl, _, hw⟩ := DataW.trod_int ht h
  exact ⟨n, rfl, hw⟩
theorem cells_row {w : World} {a : Addr} {n : Nat} {cs : List Value} (h : w.cells? 0 a n = some cs) : cs.length = n ∧ ∀ j u, cs[j]? = some u → w.cell? (a.add j) = some u := by
  obtain ⟨_, hl, hat⟩ := World.cells?_some h
  refine ⟨hl, fun j u hj => ?_⟩
  have hjn : j < n := by have := (List.getElem?_eq_some_iff.1 hj).1; omega
  rw [hat j hjn]; exact hj
/-- A slice's cell: address, length, capacity; its elements. -/
theorem rd_slice_parts {α : Type} {d : Kd α} {good : α → Prop} (ht : P.underlying t = some (.slice e)) (hc : P.cellsOf e = d.sz) (hb : 1 ≤ P.bytesOf e) (he : RdAt P e d good)
    {H : Type} {enc : TypeId × Value → H} {w : World} {spare : Nat → Bool} {held : Bool} {fuel : Nat} {cs : List Value} {y : DataW H × List MemPlace} (h : DataW.trod enc P w 0 spare held fuel t cs = some y) (hL : Light P t y.1) :
    ∃ (A : Option Addr) (c : Nat) (xs : List α), cs = [.slice A xs.length c] ∧ xs.length ≤ c ∧ d.C w A xs.length xs ∧ xs.length ≤ reachBytes ∧ ∀ x ∈ xs, good x := by
  rcases DataW.trod_slice ht h with ⟨rfl, _⟩ | ⟨a, len, cap, elems, rest, n, rfl, rfl, rfl, _, hlc, hcm, hel, hat, _⟩
  · exact ⟨none, 0, [], rfl, Nat.le_refl _, ⟨rfl, by simp, fun hp => absurd hp (Nat.lt_irrefl _)⟩, Nat.zero_le _, fun _ hx => by cases hx⟩
  · have hreach : len ≤ reachBytes := by
      have := hL ((elems.length + rest.length) * P.bytesOf e) (by simp [DataW.weights, ht])
      have h2 : (elems.length + rest.length) * 1 ≤ (elems.length + rest.length) * P.bytesOf e := Nat.mul_le_mul_left _ hb
      omega
    have key : ∀ i, i < len → ∃ x c, c.length = d.sz ∧ d.K w x c ∧ good x ∧ ∀ j u, c[j]? = some u → w.cell? (a.add (i * d.sz + j)) = some u := by
      intro i hi
      have h1 := hat i hi
      rw [List.getElem?_eq_getElem (by omega)] at h1
      obtain ⟨c, hcs, htr⟩ := Option.bind_eq_some_iff.1 h1
      obtain ⟨x, hK, hg⟩ := he _ _ _ _ _ _ _ _ htr (fun n hn => hL n (by
        simp only [DataW.weights, ht, List.mem_cons, List.mem_append]
        exact Or.inr (Or.inl (weightsAll_mem (List.mem_map.2 ⟨_, List.getElem_mem _, rfl⟩) n hn))))
      rw [hc] at hcs
      obtain ⟨hl, hcell⟩ := cells_row hcs
      refine ⟨x, c, hl, hK, hg, fun j u hj => ?_⟩
      have := hcell j u hj
      rwa [show (a.add (i * d.sz)).add j = a.add (i * d.sz + j) from by unfold Addr.add; by_cases h1 : i * d.sz = 0 <;> by_cases h2 : j = 0 <;> simp [h1, h2, Nat.add_assoc]] at this
    have key' : ∀ i : Fin len, ∃ x c, c.length = d.sz ∧ d.K w x c ∧ good x ∧ ∀ j u, c[j]? = some u → w.cell? (a.add (i.1 * d.sz + j)) = some u := fun i => key i.1 i.2
    let f : Fin len → α := fun i => Classical.choose (key' i)
    have hf : ∀ i : Fin len, ∃ c, c.length = d.sz ∧ d.K w (f i) c ∧ good (f i) ∧ ∀ j u, c[j]? = some u → w.cell? (a.add (i.1 * d.sz + j)) = some u := fun i => Classical.choose_spec (key' i)
    have hlen : (List.ofFn f).length = len := List.length_ofFn
    refine ⟨some a, cap, List.ofFn f, by rw [hlen], by rw [hlen]; exact hlc, ⟨rfl, by rw [hlen]; exact Nat.le_trans hlc hcm, fun _ => ⟨a, rfl, fun j p hj => ?_⟩⟩, by rw [hlen]; exact hreach, fun x hx => ?_⟩
    · have hjl : j < len := by have := (List.getElem?_eq_some_iff.1 hj).1; omega
      obtain ⟨c, h1, h2, _, h3⟩ := hf ⟨j, hjl⟩
      have hp : p = f ⟨j, hjl⟩ := by
        rw [List.getElem?_eq_getElem (by omega)] at hj
        injection hj with hj
        rw [← hj, List.getElem_ofFn]
      rw [hp]
      exact ⟨c, h1, h2, h3⟩
    · obtain ⟨i, hi, rfl⟩ := List.getElem_of_mem hx
      rw [List.getElem_ofFn]
      obtain ⟨_, _, _, hg, _⟩ := hf ⟨i, by omega⟩
      exact hg
/-- An array of one-cell elements. -/
theorem rd_items {m : Nat} (ht : P.underlying t = some (.array m e)) (hone : P.cellsOf e = 1) (hC : P.cellsOf t = m)
    {H : Type} {enc : TypeId × Value → H} {w : World} {spare : Nat → Bool} {held : Bool} {fuel : Nat} {cs : List Value} {y : DataW H × List MemPlace} (h : DataW.trod enc P w 0 spare held fuel t cs = some y) (hL : Light P t y.1) :
    ∃ n, cs.length = m ∧ ∀ (i : Nat) (c : Value), cs[i]? = some c → ∃ z, DataW.trod enc P w 0 spare held n e [c] = some z ∧ Light P e z.1 := by
  obtain ⟨xs, n, _, rfl, hl, hlen, hf⟩ := DataW.trod_array ht h
  refine ⟨n, by rw [hl, hC], fun i c hc => ?_⟩
  have hic : i < cs.length := (List.getElem?_eq_some_iff.1 hc).1
  have h1 := hf i (by rw [← hC, ← hl]; exact hic)
  rw [hone, Nat.mul_one, List.getElem?_eq_getElem (by rw [hlen, ← hC, ← hl]; exact hic)] at h1
  have h2 : (cs.drop i).take 1 = [c] := by
    rw [List.drop_eq_getElem_cons hic]
    rw [List.getElem?_eq_getElem hic] at hc
    injection hc with hc
    simp [hc]
  rw [h2] at h1
  refine ⟨_, h1, fun m hm => hL m ?_⟩
  simp only [DataW.weights, ht]
  exact weightsAll_mem (List.mem_map.2 ⟨_, List.getElem_mem _, rfl⟩) m hm
end
theorem okWide_array_ {P : Program} {w : World} {r : Reach} {b : Nat} {t : TypeId} {n : Nat} {e : TypeId} {v : Value} (hs : P.underlying t = some (.array n e)) (hv : Value.okWide P w r b t v) : ∃ cs, v = .agg cs ∧ cs.size = P.cellsOf t := by
  unfold Value.okWide at hv
  simp only [hs] at hv
  obtain ⟨cs, h1, h2, _⟩ := hv
  exact ⟨cs, h1, h2⟩
def good77 (x : S77) : Prop := x.f0.size ≤ reachBytes ∧ (Lit.int .i64 x.f1).wf = true ∧ (Lit.int .i64 x.f2).wf = true ∧ (x.f3.length ≤ reachBytes ∧ ∀ x_ ∈ x.f3, x_.size ≤ reachBytes)
def good68 (x : S68) : Prop := x.f0.size ≤ reachBytes ∧ (Lit.int .i64 x.f1).wf = true ∧ True ∧ (x.f3.length ≤ reachBytes ∧ ∀ x_ ∈ x.f3, good77 x_)
def good71 (x : S71) : Prop := x.f0.size ≤ reachBytes ∧ (Lit.int .i64 x.f1).wf = true ∧ (Lit.int .i64 x.f2).wf = true ∧ (Lit.int .i64 x.f3).wf = true ∧ (Lit.int .i64 x.f4).wf = true ∧ (Lit.int .i64 x.f5).wf = true ∧ (Lit.int .i64 x.f6).wf = true
def good81 (x : S81) : Prop := (Lit.int .u8 x.f0).wf = true ∧ (Lit.int .u8 x.f1).wf = true
set_option maxRecDepth 100000 in
theorem rdt81 : RdAt Try.prog 81 k81 good81 := by
  intro H enc w spare held fuel cs y h hL
  obtain ⟨n, hl, hf⟩ := rd_items Try.underlying81 (by kernel_rfl) (by kernel_rfl) h hL
  have hl' : cs.length = 2 := hl
  clear hl
  match cs, hl', hf with
  | [c0, c1], _, hf =>
  obtain ⟨z0, h0, y0⟩ := hf 0 c0 rfl
  obtain ⟨z1, h1, y1⟩ := hf 1 c1 rfl
  obtain ⟨a0, K0, g0⟩ := (rd_int Try.underlying5) _ _ _ _ _ _ _ _ h0 y0
  obtain rfl : c0 = .int .u8 a0 := by injection (show [c0] = [.int .u8 a0] from K0)
  obtain ⟨a1, K1, g1⟩ := (rd_int Try.underlying5) _ _ _ _ _ _ _ _ h1 y1
  obtain rfl : c1 = .int .u8 a1 := by injection (show [c1] = [.int .u8 a1] from K1)
  exact ⟨⟨a0, a1⟩, k81_mk w _, g0, g1⟩
set_option maxRecDepth 100000 in
theorem open35 {H : Type} {enc : TypeId × Value → H} {W : World} {r : Reach} {b : Nat} {v : Value} {d : DataW H} {p : List MemPlace} (hv : Value.okWide Try.prog W r b 35 v) (h : DataW.Trod enc Try.prog W 0 (fun _ => true) true 35 v d p) (hL : Light Try.prog 35 d) :
    ∃ (a0 : Int) (a1 : Int) (a2 : Int), v = .agg #[.int .u8 a0, .int .u8 a1, .int .u8 a2] ∧ (Lit.int .u8 a0).wf = true ∧ (Lit.int .u8 a1).wf = true ∧ (Lit.int .u8 a2).wf = true := by
  obtain ⟨cs, rfl, hsz⟩ := okWide_array_ Try.underlying35 hv
  obtain ⟨fuel, hf⟩ := h
  have hf' : DataW.trod enc Try.prog W 0 (fun _ => true) true fuel 35 cs.toList = some (d, p) := hf
  obtain ⟨n, hl, hf⟩ := rd_items Try.underlying35 (by kernel_rfl) (by kernel_rfl) hf' hL
  have hl' : cs.toList.length = 3 := hl
  clear hl hf' hsz
  obtain ⟨cs⟩ := cs
  match cs, hl', hf with
  | [c0, c1, c2], _, hf =>
  obtain ⟨z0, h0, y0⟩ := hf 0 c0 rfl
  obtain ⟨z1, h1, y1⟩ := hf 1 c1 rfl
  obtain ⟨z2, h2, y2⟩ := hf 2 c2 rfl
  obtain ⟨a0, K0, g0⟩ := (rd_int Try.underlying5) _ _ _ _ _ _ _ _ h0 y0
  obtain rfl : c0 = .int .u8 a0 := by injection (show [c0] = [.int .u8 a0] from K0)
  obtain ⟨a1, K1, g1⟩ := (rd_int Try.underlying5) _ _ _ _ _ _ _ _ h1 y1
  obtain rfl : c1 = .int .u8 a1 := by injection (show [c1] = [.int .u8 a1] from K1)
  obtain ⟨a2, K2, g2⟩ := (rd_int Try.underlying5) _ _ _ _ _ _ _ _ h2 y2
  obtain rfl : c2 = .int .u8 a2 := by injection (show [c2] = [.int .u8 a2] from K2)
  exact ⟨a0, a1, a2, rfl, g0, g1, g2⟩
set_option maxRecDepth 100000 in
theorem open51 {H : Type} {enc : TypeId × Value → H} {W : World} {r : Reach} {b : Nat} {v : Value} {d : DataW H} {p : List MemPlace} (hv : Value.okWide Try.prog W r b 51 v) (h : DataW.Trod enc Try.prog W 0 (fun _ => true) true 51 v d p) (hL : Light Try.prog 51 d) :
    ∃ (a0 : Int) (a1 : Int) (a2 : Int) (a3 : Int) (a4 : Int), v = .agg #[.int .u8 a0, .int .u8 a1, .int .u8 a2, .int .u8 a3, .int .u8 a4] ∧ (Lit.int .u8 a0).wf = true ∧ (Lit.int .u8 a1).wf = true ∧ (Lit.int .u8 a2).wf = true ∧ (Lit.int .u8 a3).wf = true ∧ (Lit.int .u8 a4).wf = true := by
  obtain ⟨cs, rfl, hsz⟩ := okWide_array_ Try.underlying51 hv
  obtain ⟨fuel, hf⟩ := h
  have hf' : DataW.trod enc Try.prog W 0 (fun _ => true) true fuel 51 cs.toList = some (d, p) := hf
  obtain ⟨n, hl, hf⟩ := rd_items Try.underlying51 (by kernel_rfl) (by kernel_rfl) hf' hL
  have hl' : cs.toList.length = 5 := hl
  clear hl hf' hsz
  obtain ⟨cs⟩ := cs
  match cs, hl', hf with
  | [c0, c1, c2, c3, c4], _, hf =>
  obtain ⟨z0, h0, y0⟩ := hf 0 c0 rfl
  obtain ⟨z1, h1, y1⟩ := hf 1 c1 rfl
  obtain ⟨z2, h2, y2⟩ := hf 2 c2 rfl
  obtain ⟨z3, h3, y3⟩ := hf 3 c3 rfl
  obtain ⟨z4, h4, y4⟩ := hf 4 c4 rfl
  obtain ⟨a0, K0, g0⟩ := (rd_int Try.underlying5) _ _ _ _ _ _ _ _ h0 y0
  obtain rfl : c0 = .int .u8 a0 := by injection (show [c0] = [.int .u8 a0] from K0)
  obtain ⟨a1, K1, g1⟩ := (rd_int Try.underlying5) _ _ _ _ _ _ _ _ h1 y1
  obtain rfl : c1 = .int .u8 a1 := by injection (show [c1] = [.int .u8 a1] from K1)
  obtain ⟨a2, K2, g2⟩ := (rd_int Try.underlying5) _ _ _ _ _ _ _ _ h2 y2
  obtain rfl : c2 = .int .u8 a2 := by injection (show [c2] = [.int .u8 a2] from K2)
  obtain ⟨a3, K3, g3⟩ := (rd_int Try.underlying5) _ _ _ _ _ _ _ _ h3 y3
  obtain rfl : c3 = .int .u8 a3 := by injection (show [c3] = [.int .u8 a3] from K3)
  obtain ⟨a4, K4, g4⟩ := (rd_int Try.underlying5) _ _ _ _ _ _ _ _ h4 y4
  obtain rfl : c4 = .int .u8 a4 := by injection (show [c4] = [.int .u8 a4] from K4)
  exact ⟨a0, a1, a2, a3, a4, rfl, g0, g1, g2, g3, g4⟩
end Go.Proofs.Ytfpianecohobjaa.P
