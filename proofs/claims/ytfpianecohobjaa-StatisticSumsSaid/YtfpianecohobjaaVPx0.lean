/- StatisticOf: a part of its proof. No condition. -/
import Derived.Test.YtfpianecohobjaaProg
import Derived.Below
import Derived.Deep.Draws
import Derived.Deep.AppendLies
import Derived.Maps.AppendAt
import Derived.OwnWalk
import Derived.Laws.BytesArg
import Derived.Laws.MakeOwn
import Derived.Laws.OwnMore
import Derived.Deep.OwnRows
import Derived.Tactics
import Derived.Lib.ConvBytes
import Derived.Laws.Slices
import Derived.WalkKit
import Derived.KernelRfl
import Derived.RowKit3
import Derived.Deep.LoopGhost
import Derived.Deep.QuietTactic
import Derived.BigQuiet
import Derived.WideLaws
import Derived.Deep.DeepCutAuto
import Derived.Deep.CutBlock
import Derived.Deep.RegionHeld3
import Derived.Laws.Rows
import Derived.Lib.AppendStr
import Derived.ArgAppend
import Derived.Laws.IdiomCopy
import Derived.OrdersHeld
import Derived.Laws.BitsLemmas
import Derived.RowKit
import Derived.Test.YtfpianecohobjaaVW
namespace Go.Proofs.Ytfpianecohobjaa.P
open Go.RowKit Go.Proofs.YtfpianecohobjaaW.PrintWords Go.Proofs.YtfpianecohobjaaW.PrintLast Go.Proofs.YtfpianecohobjaaW.PrintMore
set_option linter.unusedVariables false
set_option linter.unusedSimpArgs false
theorem info3 : (Try.prog.info? 3).map (fun i => (i.zero, i.size, i.bytes)) = some (some (.int .i64 0), 1, 8) := by kernel_rfl
theorem info9 : (Try.prog.info? 9).map (fun i => (i.zero, i.size, i.bytes)) = some (some (.string ⟨#[]⟩), 1, 16) := by kernel_rfl
theorem info39 : (Try.prog.info? 39).map (fun i => (i.zero, i.size, i.bytes)) = some (some (.agg #[(.int .i64 0), (.int .i64 0), (.int .i64 0)]), 3, 24) := by kernel_rfl
theorem info68 : (Try.prog.info? 68).map (fun i => (i.zero, i.size, i.bytes)) = some (some (.agg #[(.string ⟨#[]⟩), (.int .i64 0), (.bool false), (.slice none 0 0)]), 4, 56) := by kernel_rfl
theorem info71 : (Try.prog.info? 71).map (fun i => (i.zero, i.size, i.bytes)) = some (some (.agg #[(.string ⟨#[]⟩), (.int .i64 0), (.int .i64 0), (.int .i64 0), (.int .i64 0), (.int .i64 0), (.int .i64 0)]), 7, 64) := by kernel_rfl
theorem info77 : (Try.prog.info? 77).map (fun i => (i.zero, i.size, i.bytes)) = some (some (.agg #[(.string ⟨#[]⟩), (.int .i64 0), (.int .i64 0), (.slice none 0 0)]), 4, 56) := by kernel_rfl
theorem info88 : (Try.prog.info? 88).map (fun i => (i.zero, i.size, i.bytes)) = some (some (.agg #[(.int .i64 0), (.int .i64 0), (.int .i64 0), (.int .i64 0)]), 4, 32) := by kernel_rfl
structure S77 where
  f0 : ByteArray
  f1 : Int
  f2 : Int
  f3 : (List ByteArray)
def z77 : S77 := ⟨(⟨#[]⟩ : ByteArray), (0 : Int), (0 : Int), ([] : List ByteArray)⟩
def k77 : Kd S77 := Kd.iso (Kd.pair Kd.string (Kd.pair (Kd.int .i64) (Kd.pair (Kd.int .i64) (Kd.slice 9 Kd.string)))) (fun x : S77 => (x.f0, x.f1, x.f2, x.f3))
theorem k77_heap : Kd.Heap k77 := Kd.heap_iso _ (Kd.heap_pair Kd.heap_string (Kd.heap_pair (Kd.heap_int .i64) (Kd.heap_pair (Kd.heap_int .i64) (Kd.heap_slice 9 Kd.heap_string))))
theorem k77_open {w : World} {x : S77} {cs : List Value} (h : k77.K w x cs) : ∃ A3 c3, cs = [.string x.f0, .int .i64 x.f1, .int .i64 x.f2, .slice A3 x.f3.length c3] ∧ x.f3.length ≤ c3 ∧ Kd.string.C w A3 x.f3.length x.f3 := by
  obtain ⟨_, _, rfl, rfl, ⟨_, _, rfl, rfl, ⟨_, _, rfl, rfl, ⟨A3, c3, rfl, l3, g3⟩⟩⟩⟩ := h
  exact ⟨A3, c3, rfl, l3, g3⟩
theorem k77_mk (w : World) (x : S77) {A3 : Option Addr} {c3 : Nat} (l3 : x.f3.length ≤ c3) (g3 : Kd.string.C w A3 x.f3.length x.f3) : k77.K w x [.string x.f0, .int .i64 x.f1, .int .i64 x.f2, .slice A3 x.f3.length c3] := ⟨[.string x.f0], [.int .i64 x.f1, .int .i64 x.f2, .slice A3 x.f3.length c3], rfl, rfl, ⟨[.int .i64 x.f1], [.int .i64 x.f2, .slice A3 x.f3.length c3], rfl, rfl, ⟨[.int .i64 x.f2], [.slice A3 x.f3.length c3], rfl, rfl, ⟨A3, c3, rfl, l3, g3⟩⟩⟩⟩
theorem k77_openF {W : World} {ok : Nat → Prop} {x : S77} {cs : List Value} (h : Kd.FK k77 W ok x cs) : ∃ A3 c3, cs = [.string x.f0, .int .i64 x.f1, .int .i64 x.f2, .slice A3 x.f3.length c3] ∧ x.f3.length ≤ c3 ∧ Kd.F Kd.string W ok A3 x.f3.length x.f3 := by
  obtain ⟨A3, c3, rfl, l3, _⟩ := k77_open (Kd.FK_now h)
  exact ⟨A3, c3, rfl, l3, (fun W' hW => by obtain ⟨A3_, c3_, he, l3_, g3_⟩ := k77_open (h W' hW); injection (Option.some.inj (show some (Value.slice A3 x.f3.length c3) = some (Value.slice A3_ x.f3.length c3_) from congrArg (fun l => l[3]?) he)) with ha_ _ _; rw [ha_]; exact g3_)⟩
theorem k77_mkF (W : World) (ok : Nat → Prop) (x : S77) {A3 : Option Addr} {c3 : Nat} (l3 : x.f3.length ≤ c3) (g3 : Kd.F Kd.string W ok A3 x.f3.length x.f3) : Kd.FK k77 W ok x [.string x.f0, .int .i64 x.f1, .int .i64 x.f2, .slice A3 x.f3.length c3] := fun W2 hW => k77_mk W2 x l3 (g3 W2 hW)
def rd_T77 (xs : List S77) (i : Int) : S77 := xs.getD i.toNat z77
theorem at_T77 {w : World} {A : Option Addr} {n : Nat} {xs : List S77} (h : Kd.C k77 w A n xs) (i : Int) (h0 : 0 ≤ i) (h1 : i < n) : ∃ ad A3 c3, A = some ad ∧ w.cell? (ad.add (i.toNat * 4)) = some (.string (rd_T77 xs i).f0) ∧ w.cell? ⟨(ad.add (i.toNat * 4)).block, (ad.add (i.toNat * 4)).off + 1, none⟩ = some (.int .i64 (rd_T77 xs i).f1) ∧ w.cell? ⟨(ad.add (i.toNat * 4)).block, (ad.add (i.toNat * 4)).off + 2, none⟩ = some (.int .i64 (rd_T77 xs i).f2) ∧ w.cell? ⟨(ad.add (i.toNat * 4)).block, (ad.add (i.toNat * 4)).off + 3, none⟩ = some (.slice A3 (rd_T77 xs i).f3.length c3) ∧ (rd_T77 xs i).f3.length ≤ c3 ∧ Kd.string.C w A3 (rd_T77 xs i).f3.length (rd_T77 xs i).f3 := by
  obtain ⟨ad, c, e, _, hK, hc0⟩ := Kd.C_get h z77 i h0 h1
  have hc : ∀ j u, c[j]? = some u → w.cell? (ad.add (i.toNat * 4 + j)) = some u := hc0
  obtain ⟨A3, c3, rfl, l3, g3⟩ := k77_open hK
  exact ⟨ad, A3, c3, e, hc 0 _ rfl, by rw [← add_field _ _ 1 (by omega)]; exact hc 1 _ rfl, by rw [← add_field _ _ 2 (by omega)]; exact hc 2 _ rfl, by rw [← add_field _ _ 3 (by omega)]; exact hc 3 _ rfl, l3, g3⟩
structure S68 where
  f0 : ByteArray
  f1 : Int
  f2 : Bool
  f3 : (List S77)
def z68 : S68 := ⟨(⟨#[]⟩ : ByteArray), (0 : Int), false, ([] : List S77)⟩
def k68 : Kd S68 := Kd.iso (Kd.pair Kd.string (Kd.pair (Kd.int .i64) (Kd.pair Kd.bool (Kd.slice 77 k77)))) (fun x : S68 => (x.f0, x.f1, x.f2, x.f3))
theorem k68_heap : Kd.Heap k68 := Kd.heap_iso _ (Kd.heap_pair Kd.heap_string (Kd.heap_pair (Kd.heap_int .i64) (Kd.heap_pair Kd.heap_bool (Kd.heap_slice 77 k77_heap))))
theorem k68_open {w : World} {x : S68} {cs : List Value} (h : k68.K w x cs) : ∃ A3 c3, cs = [.string x.f0, .int .i64 x.f1, .bool x.f2, .slice A3 x.f3.length c3] ∧ x.f3.length ≤ c3 ∧ k77.C w A3 x.f3.length x.f3 := by
  obtain ⟨_, _, rfl, rfl, ⟨_, _, rfl, rfl, ⟨_, _, rfl, rfl, ⟨A3, c3, rfl, l3, g3⟩⟩⟩⟩ := h
  exact ⟨A3, c3, rfl, l3, g3⟩
theorem k68_mk (w : World) (x : S68) {A3 : Option Addr} {c3 : Nat} (l3 : x.f3.length ≤ c3) (g3 : k77.C w A3 x.f3.length x.f3) : k68.K w x [.string x.f0, .int .i64 x.f1, .bool x.f2, .slice A3 x.f3.length c3] := ⟨[.string x.f0], [.int .i64 x.f1, .bool x.f2, .slice A3 x.f3.length c3], rfl, rfl, ⟨[.int .i64 x.f1], [.bool x.f2, .slice A3 x.f3.length c3], rfl, rfl, ⟨[.bool x.f2], [.slice A3 x.f3.length c3], rfl, rfl, ⟨A3, c3, rfl, l3, g3⟩⟩⟩⟩
theorem k68_openF {W : World} {ok : Nat → Prop} {x : S68} {cs : List Value} (h : Kd.FK k68 W ok x cs) : ∃ A3 c3, cs = [.string x.f0, .int .i64 x.f1, .bool x.f2, .slice A3 x.f3.length c3] ∧ x.f3.length ≤ c3 ∧ Kd.F k77 W ok A3 x.f3.length x.f3 := by
  obtain ⟨A3, c3, rfl, l3, _⟩ := k68_open (Kd.FK_now h)
  exact ⟨A3, c3, rfl, l3, (fun W' hW => by obtain ⟨A3_, c3_, he, l3_, g3_⟩ := k68_open (h W' hW); injection (Option.some.inj (show some (Value.slice A3 x.f3.length c3) = some (Value.slice A3_ x.f3.length c3_) from congrArg (fun l => l[3]?) he)) with ha_ _ _; rw [ha_]; exact g3_)⟩
theorem k68_mkF (W : World) (ok : Nat → Prop) (x : S68) {A3 : Option Addr} {c3 : Nat} (l3 : x.f3.length ≤ c3) (g3 : Kd.F k77 W ok A3 x.f3.length x.f3) : Kd.FK k68 W ok x [.string x.f0, .int .i64 x.f1, .bool x.f2, .slice A3 x.f3.length c3] := fun W2 hW => k68_mk W2 x l3 (g3 W2 hW)
def rd_T68 (xs : List S68) (i : Int) : S68 := xs.getD i.toNat z68
theorem at_T68 {w : World} {A : Option Addr} {n : Nat} {xs : List S68} (h : Kd.C k68 w A n xs) (i : Int) (h0 : 0 ≤ i) (h1 : i < n) : ∃ ad A3 c3, A = some ad ∧ w.cell? (ad.add (i.toNat * 4)) = some (.string (rd_T68 xs i).f0) ∧ w.cell? ⟨(ad.add (i.toNat * 4)).block, (ad.add (i.toNat * 4)).off + 1, none⟩ = some (.int .i64 (rd_T68 xs i).f1) ∧ w.cell? ⟨(ad.add (i.toNat * 4)).block, (ad.add (i.toNat * 4)).off + 2, none⟩ = some (.bool (rd_T68 xs i).f2) ∧ w.cell? ⟨(ad.add (i.toNat * 4)).block, (ad.add (i.toNat * 4)).off + 3, none⟩ = some (.slice A3 (rd_T68 xs i).f3.length c3) ∧ (rd_T68 xs i).f3.length ≤ c3 ∧ k77.C w A3 (rd_T68 xs i).f3.length (rd_T68 xs i).f3 := by
  obtain ⟨ad, c, e, _, hK, hc0⟩ := Kd.C_get h z68 i h0 h1
  have hc : ∀ j u, c[j]? = some u → w.cell? (ad.add (i.toNat * 4 + j)) = some u := hc0
  obtain ⟨A3, c3, rfl, l3, g3⟩ := k68_open hK
  exact ⟨ad, A3, c3, e, hc 0 _ rfl, by rw [← add_field _ _ 1 (by omega)]; exact hc 1 _ rfl, by rw [← add_field _ _ 2 (by omega)]; exact hc 2 _ rfl, by rw [← add_field _ _ 3 (by omega)]; exact hc 3 _ rfl, l3, g3⟩
structure S71 where
  f0 : ByteArray
  f1 : Int
  f2 : Int
  f3 : Int
  f4 : Int
  f5 : Int
  f6 : Int
def z71 : S71 := ⟨(⟨#[]⟩ : ByteArray), (0 : Int), (0 : Int), (0 : Int), (0 : Int), (0 : Int), (0 : Int)⟩
def k71 : Kd S71 := Kd.iso (Kd.pair Kd.string (Kd.pair (Kd.int .i64) (Kd.pair (Kd.int .i64) (Kd.pair (Kd.int .i64) (Kd.pair (Kd.int .i64) (Kd.pair (Kd.int .i64) (Kd.int .i64))))))) (fun x : S71 => (x.f0, x.f1, x.f2, x.f3, x.f4, x.f5, x.f6))
theorem k71_open {w : World} {x : S71} {cs : List Value} (h : k71.K w x cs) : cs = [.string x.f0, .int .i64 x.f1, .int .i64 x.f2, .int .i64 x.f3, .int .i64 x.f4, .int .i64 x.f5, .int .i64 x.f6] := by
  obtain ⟨_, _, rfl, rfl, ⟨_, _, rfl, rfl, ⟨_, _, rfl, rfl, ⟨_, _, rfl, rfl, ⟨_, _, rfl, rfl, ⟨_, _, rfl, rfl, rfl⟩⟩⟩⟩⟩⟩ := h
  exact rfl
theorem k71_mk (w : World) (x : S71)  : k71.K w x [.string x.f0, .int .i64 x.f1, .int .i64 x.f2, .int .i64 x.f3, .int .i64 x.f4, .int .i64 x.f5, .int .i64 x.f6] := ⟨[.string x.f0], [.int .i64 x.f1, .int .i64 x.f2, .int .i64 x.f3, .int .i64 x.f4, .int .i64 x.f5, .int .i64 x.f6], rfl, rfl, ⟨[.int .i64 x.f1], [.int .i64 x.f2, .int .i64 x.f3, .int .i64 x.f4, .int .i64 x.f5, .int .i64 x.f6], rfl, rfl, ⟨[.int .i64 x.f2], [.int .i64 x.f3, .int .i64 x.f4, .int .i64 x.f5, .int .i64 x.f6], rfl, rfl, ⟨[.int .i64 x.f3], [.int .i64 x.f4, .int .i64 x.f5, .int .i64 x.f6], rfl, rfl, ⟨[.int .i64 x.f4], [.int .i64 x.f5, .int .i64 x.f6], rfl, rfl, ⟨[.int .i64 x.f5], [.int .i64 x.f6], rfl, rfl, rfl⟩⟩⟩⟩⟩⟩
theorem k71_mkM (w : World) (base : Nat) (ok : Nat → Prop) (x : S71)  : k71.M w base ok x [.string x.f0, .int .i64 x.f1, .int .i64 x.f2, .int .i64 x.f3, .int .i64 x.f4, .int .i64 x.f5, .int .i64 x.f6] := ⟨[.string x.f0], [.int .i64 x.f1, .int .i64 x.f2, .int .i64 x.f3, .int .i64 x.f4, .int .i64 x.f5, .int .i64 x.f6], rfl, rfl, ⟨[.int .i64 x.f1], [.int .i64 x.f2, .int .i64 x.f3, .int .i64 x.f4, .int .i64 x.f5, .int .i64 x.f6], rfl, rfl, ⟨[.int .i64 x.f2], [.int .i64 x.f3, .int .i64 x.f4, .int .i64 x.f5, .int .i64 x.f6], rfl, rfl, ⟨[.int .i64 x.f3], [.int .i64 x.f4, .int .i64 x.f5, .int .i64 x.f6], rfl, rfl, ⟨[.int .i64 x.f4], [.int .i64 x.f5, .int .i64 x.f6], rfl, rfl, ⟨[.int .i64 x.f5], [.int .i64 x.f6], rfl, rfl, rfl⟩⟩⟩⟩⟩⟩
def rd_T71 (xs : List S71) (i : Int) : S71 := xs.getD i.toNat z71
theorem at_T71 {w : World} {A : Option Addr} {n : Nat} {xs : List S71} (h : Kd.C k71 w A n xs) (i : Int) (h0 : 0 ≤ i) (h1 : i < n) : ∃ ad , A = some ad ∧ w.cell? (ad.add (i.toNat * 7)) = some (.string (rd_T71 xs i).f0) ∧ w.cell? ⟨(ad.add (i.toNat * 7)).block, (ad.add (i.toNat * 7)).off + 1, none⟩ = some (.int .i64 (rd_T71 xs i).f1) ∧ w.cell? ⟨(ad.add (i.toNat * 7)).block, (ad.add (i.toNat * 7)).off + 2, none⟩ = some (.int .i64 (rd_T71 xs i).f2) ∧ w.cell? ⟨(ad.add (i.toNat * 7)).block, (ad.add (i.toNat * 7)).off + 3, none⟩ = some (.int .i64 (rd_T71 xs i).f3) ∧ w.cell? ⟨(ad.add (i.toNat * 7)).block, (ad.add (i.toNat * 7)).off + 4, none⟩ = some (.int .i64 (rd_T71 xs i).f4) ∧ w.cell? ⟨(ad.add (i.toNat * 7)).block, (ad.add (i.toNat * 7)).off + 5, none⟩ = some (.int .i64 (rd_T71 xs i).f5) ∧ w.cell? ⟨(ad.add (i.toNat * 7)).block, (ad.add (i.toNat * 7)).off + 6, none⟩ = some (.int .i64 (rd_T71 xs i).f6) := by
  obtain ⟨ad, c, e, _, hK, hc0⟩ := Kd.C_get h z71 i h0 h1
  have hc : ∀ j u, c[j]? = some u → w.cell? (ad.add (i.toNat * 7 + j)) = some u := hc0
  obtain rfl := k71_open hK
  exact ⟨ad, e, hc 0 _ rfl, by rw [← add_field _ _ 1 (by omega)]; exact hc 1 _ rfl, by rw [← add_field _ _ 2 (by omega)]; exact hc 2 _ rfl, by rw [← add_field _ _ 3 (by omega)]; exact hc 3 _ rfl, by rw [← add_field _ _ 4 (by omega)]; exact hc 4 _ rfl, by rw [← add_field _ _ 5 (by omega)]; exact hc 5 _ rfl, by rw [← add_field _ _ 6 (by omega)]; exact hc 6 _ rfl⟩
structure S81 where
  f0 : Int
  f1 : Int
def z81 : S81 := ⟨(0 : Int), (0 : Int)⟩
def k81 : Kd S81 := Kd.iso (Kd.pair (Kd.int .u8) (Kd.int .u8)) (fun x : S81 => (x.f0, x.f1))
theorem k81_open {w : World} {x : S81} {cs : List Value} (h : k81.K w x cs) : cs = [.int .u8 x.f0, .int .u8 x.f1] := by
  obtain ⟨_, _, rfl, rfl, rfl⟩ := h
  exact rfl
theorem k81_mk (w : World) (x : S81)  : k81.K w x [.int .u8 x.f0, .int .u8 x.f1] := ⟨[.int .u8 x.f0], [.int .u8 x.f1], rfl, rfl, rfl⟩
def rd_T81 (xs : List S81) (i : Int) : S81 := xs.getD i.toNat z81
theorem at_T81 {w : World} {A : Option Addr} {n : Nat} {xs : List S81} (h : Kd.C k81 w A n xs) (i : Int) (h0 : 0 ≤ i) (h1 : i < n) : ∃ ad , A = some ad ∧ w.cell? (ad.add (i.toNat * 2)) = some (.int .u8 (rd_T81 xs i).f0) ∧ w.cell? ⟨(ad.add (i.toNat * 2)).block, (ad.add (i.toNat * 2)).off + 1, none⟩ = some (.int .u8 (rd_T81 xs i).f1) := by
  obtain ⟨ad, c, e, _, hK, hc0⟩ := Kd.C_get h z81 i h0 h1
  have hc : ∀ j u, c[j]? = some u → w.cell? (ad.add (i.toNat * 2 + j)) = some u := hc0
  obtain rfl := k81_open hK
  exact ⟨ad, e, hc 0 _ rfl, by rw [← add_field _ _ 1 (by omega)]; exact hc 1 _ rfl⟩
structure S39 where
  f0 : Int
  f1 : Int
  f2 : Int
def z39 : S39 := ⟨(0 : Int), (0 : Int), (0 : Int)⟩
def k39 : Kd S39 := Kd.iso (Kd.pair (Kd.int .i64) (Kd.pair (Kd.int .i64) (Kd.int .i64))) (fun x : S39 => (x.f0, x.f1, x.f2))
theorem k39_open {w : World} {x : S39} {cs : List Value} (h : k39.K w x cs) : cs = [.int .i64 x.f0, .int .i64 x.f1, .int .i64 x.f2] := by
  obtain ⟨_, _, rfl, rfl, ⟨_, _, rfl, rfl, rfl⟩⟩ := h
  exact rfl
theorem k39_mk (w : World) (x : S39)  : k39.K w x [.int .i64 x.f0, .int .i64 x.f1, .int .i64 x.f2] := ⟨[.int .i64 x.f0], [.int .i64 x.f1, .int .i64 x.f2], rfl, rfl, ⟨[.int .i64 x.f1], [.int .i64 x.f2], rfl, rfl, rfl⟩⟩
theorem k39_mkM (w : World) (base : Nat) (ok : Nat → Prop) (x : S39)  : k39.M w base ok x [.int .i64 x.f0, .int .i64 x.f1, .int .i64 x.f2] := ⟨[.int .i64 x.f0], [.int .i64 x.f1, .int .i64 x.f2], rfl, rfl, ⟨[.int .i64 x.f1], [.int .i64 x.f2], rfl, rfl, rfl⟩⟩
def rd_T39 (xs : List S39) (i : Int) : S39 := xs.getD i.toNat z39
theorem at_T39 {w : World} {A : Option Addr} {n : Nat} {xs : List S39} (h : Kd.C k39 w A n xs) (i : Int) (h0 : 0 ≤ i) (h1 : i < n) : ∃ ad , A = some ad ∧ w.cell? (ad.add (i.toNat * 3)) = some (.int .i64 (rd_T39 xs i).f0) ∧ w.cell? ⟨(ad.add (i.toNat * 3)).block, (ad.add (i.toNat * 3)).off + 1, none⟩ = some (.int .i64 (rd_T39 xs i).f1) ∧ w.cell? ⟨(ad.add (i.toNat * 3)).block, (ad.add (i.toNat * 3)).off + 2, none⟩ = some (.int .i64 (rd_T39 xs i).f2) := by
  obtain ⟨ad, c, e, _, hK, hc0⟩ := Kd.C_get h z39 i h0 h1
  have hc : ∀ j u, c[j]? = some u → w.cell? (ad.add (i.toNat * 3 + j)) = some u := hc0
  obtain rfl := k39_open hK
  exact ⟨ad, e, hc 0 _ rfl, by rw [← add_field _ _ 1 (by omega)]; exact hc 1 _ rfl, by rw [← add_field _ _ 2 (by omega)]; exact hc 2 _ rfl⟩
structure S88 where
  f0 : Int
  f1 : Int
  f2 : Int
  f3 : Int
def z88 : S88 := ⟨(0 : Int), (0 : Int), (0 : Int), (0 : Int)⟩
def k88 : Kd S88 := Kd.iso (Kd.pair (Kd.int .i64) (Kd.pair (Kd.int .i64) (Kd.pair (Kd.int .i64) (Kd.int .i64)))) (fun x : S88 => (x.f0, x.f1, x.f2, x.f3))
theorem k88_open {w : World} {x : S88} {cs : List Value} (h : k88.K w x cs) : cs = [.int .i64 x.f0, .int .i64 x.f1, .int .i64 x.f2, .int .i64 x.f3] := by
  obtain ⟨_, _, rfl, rfl, ⟨_, _, rfl, rfl, ⟨_, _, rfl, rfl, rfl⟩⟩⟩ := h
  exact rfl
theorem k88_openM {w : World} {base : Nat} {ok : Nat → Prop} {x : S88} {cs : List Value} (h : k88.M w base ok x cs) : cs = [.int .i64 x.f0, .int .i64 x.f1, .int .i64 x.f2, .int .i64 x.f3] := by
  obtain ⟨_, _, rfl, rfl, ⟨_, _, rfl, rfl, ⟨_, _, rfl, rfl, rfl⟩⟩⟩ := h
  exact rfl
theorem k88_mk (w : World) (x : S88)  : k88.K w x [.int .i64 x.f0, .int .i64 x.f1, .int .i64 x.f2, .int .i64 x.f3] := ⟨[.int .i64 x.f0], [.int .i64 x.f1, .int .i64 x.f2, .int .i64 x.f3], rfl, rfl, ⟨[.int .i64 x.f1], [.int .i64 x.f2, .int .i64 x.f3], rfl, rfl, ⟨[.int .i64 x.f2], [.int .i64 x.f3], rfl, rfl, rfl⟩⟩⟩
theorem k88_mkM (w : World) (base : Nat) (ok : Nat → Prop) (x : S88)  : k88.M w base ok x [.int .i64 x.f0, .int .i64 x.f1, .int .i64 x.f2, .int .i64 x.f3] := ⟨[.int .i64 x.f0], [.int .i64 x.f1, .int .i64 x.f2, .int .i64 x.f3], rfl, rfl, ⟨[.int .i64 x.f1], [.int .i64 x.f2, .int .i64 x.f3], rfl, rfl, ⟨[.int .i64 x.f2], [.int .i64 x.f3], rfl, rfl, rfl⟩⟩⟩
def rd_T88 (xs : List S88) (i : Int) : S88 := xs.getD i.toNat z88
theorem at_T88 {w : World} {A : Option Addr} {n : Nat} {xs : List S88} (h : Kd.C k88 w A n xs) (i : Int) (h0 : 0 ≤ i) (h1 : i < n) : ∃ ad , A = some ad ∧ w.cell? (ad.add (i.toNat * 4)) = some (.int .i64 (rd_T88 xs i).f0) ∧ w.cell? ⟨(ad.add (i.toNat * 4)).block, (ad.add (i.toNat * 4)).off + 1, none⟩ = some (.int .i64 (rd_T88 xs i).f1) ∧ w.cell? ⟨(ad.add (i.toNat * 4)).block, (ad.add (i.toNat * 4)).off + 2, none⟩ = some (.int .i64 (rd_T88 xs i).f2) ∧ w.cell? ⟨(ad.add (i.toNat * 4)).block, (ad.add (i.toNat * 4)).off + 3, none⟩ = some (.int .i64 (rd_T88 xs i).f3) := by
  obtain ⟨ad, c, e, _, hK, hc0⟩ := Kd.C_get h z88 i h0 h1
  have hc : ∀ j u, c[j]? = some u → w.cell? (ad.add (i.toNat * 4 + j)) = some u := hc0
  obtain rfl := k88_open hK
  exact ⟨ad, e, hc 0 _ rfl, by rw [← add_field _ _ 1 (by omega)]; exact hc 1 _ rfl, by rw [← add_field _ _ 2 (by omega)]; exact hc 2 _ rfl, by rw [← add_field _ _ 3 (by omega)]; exact hc 3 _ rfl⟩
structure S35 where
  f0 : Int
  f1 : Int
  f2 : Int
def z35 : S35 := ⟨(0 : Int), (0 : Int), (0 : Int)⟩
def k35 : Kd S35 := Kd.iso (Kd.pair (Kd.int .u8) (Kd.pair (Kd.int .u8) (Kd.int .u8))) (fun x : S35 => (x.f0, x.f1, x.f2))
theorem k35_open {w : World} {x : S35} {cs : List Value} (h : k35.K w x cs) : cs = [.int .u8 x.f0, .int .u8 x.f1, .int .u8 x.f2] := by
  obtain ⟨_, _, rfl, rfl, ⟨_, _, rfl, rfl, rfl⟩⟩ := h
  exact rfl
theorem k35_mk (w : World) (x : S35)  : k35.K w x [.int .u8 x.f0, .int .u8 x.f1, .int .u8 x.f2] := ⟨[.int .u8 x.f0], [.int .u8 x.f1, .int .u8 x.f2], rfl, rfl, ⟨[.int .u8 x.f1], [.int .u8 x.f2], rfl, rfl, rfl⟩⟩
def rd_T35 (xs : List S35) (i : Int) : S35 := xs.getD i.toNat z35
theorem at_T35 {w : World} {A : Option Addr} {n : Nat} {xs : List S35} (h : Kd.C k35 w A n xs) (i : Int) (h0 : 0 ≤ i) (h1 : i < n) : ∃ ad , A = some ad ∧ w.cell? (ad.add (i.toNat * 3)) = some (.int .u8 (rd_T35 xs i).f0) ∧ w.cell? ⟨(ad.add (i.toNat * 3)).block, (ad.add (i.toNat * 3)).off + 1, none⟩ = some (.int .u8 (rd_T35 xs i).f1) ∧ w.cell? ⟨(ad.add (i.toNat * 3)).block, (ad.add (i.toNat * 3)).off + 2, none⟩ = some (.int .u8 (rd_T35 xs i).f2) := by
  obtain ⟨ad, c, e, _, hK, hc0⟩ := Kd.C_get h z35 i h0 h1
  have hc : ∀ j u, c[j]? = some u → w.cell? (ad.add (i.toNat * 3 + j)) = some u := hc0
  obtain rfl := k35_open hK
  exact ⟨ad, e, hc 0 _ rfl, by rw [← add_field _ _ 1 (by omega)]; exact hc 1 _ rfl, by rw [← add_field _ _ 2 (by omega)]; exact hc 2 _ rfl⟩
theorem bb {w W W1 : World} (H : Aside0 (Below w.heap.size w W)) (f : Below w.heap.size w W → Below w.heap.size w W1 := by intro h; repeat (first | (with_reducible first | exact h | apply below_alloc | apply pw_below_drewN | apply below_drew1 | refine below_set ?_ (Aside0.out (by assumption))) | exact h)) : Below w.heap.size w W1 := f H.out
theorem bstep {w W W1 W2 : World} (H : Aside0 (Below w.heap.size w W)) (hb : Below W1.heap.size W1 W2) (f : Below w.heap.size w W → Below w.heap.size w W1 := by intro h; repeat (first | (with_reducible first | exact h | apply below_alloc | apply pw_below_drewN | apply below_drew1 | refine below_set ?_ (Aside0.out (by assumption))) | exact h)) : Aside0 (Below w.heap.size w W2) := ⟨below_step (f H.out) hb⟩
theorem bsz {w W W1 : World} {g : Nat} (H : Aside0 (Below w.heap.size w W)) (hg : g = W1.heap.size) (f : Below w.heap.size w W → Below w.heap.size w W1 := by intro h; repeat (first | (with_reducible first | exact h | apply below_alloc | apply pw_below_drewN | apply below_drew1 | refine below_set ?_ (Aside0.out (by assumption))) | exact h)) : Aside0 (w.heap.size ≤ g) := ⟨by rw [hg]; exact below_size (f H.out)⟩
theorem bk {W W1 : World} {g : Nat} {o : Obj} (H : Aside0 (W.heap[g]? = some o)) (f : W.heap[g]? = some o → W1.heap[g]? = some o := by intro h; (with_reducible repeat (first | refine blk_drewN ?_ _ | refine blk_drew ?_ | refine blk_alloc ?_ _)); exact h) : W1.heap[g]? = some o := f H.out
theorem bkb {W W1 W2 : World} {g : Nat} {o : Obj} (H : Aside0 (W.heap[g]? = some o)) (hb : Below W1.heap.size W1 W2) (f : W.heap[g]? = some o → W1.heap[g]? = some o := by intro h; (with_reducible repeat (first | refine blk_drewN ?_ _ | refine blk_drew ?_ | refine blk_alloc ?_ _)); exact h) : Aside0 (W2.heap[g]? = some o) := ⟨blk_below (f H.out) hb⟩
theorem blt {W W1 : World} {g g' : Nat} {o : Obj} (H : Aside0 (W.heap[g]? = some o)) (hg : g' = W1.heap.size) (f : W.heap[g]? = some o → W1.heap[g]? = some o := by intro h; (with_reducible repeat (first | refine blk_drewN ?_ _ | refine blk_drew ?_ | refine blk_alloc ?_ _)); exact h) : Aside0 (g ≠ g') := ⟨by rw [hg]; exact Nat.ne_of_lt (blk_lt (f H.out))⟩
theorem bgt {W W1 : World} {g g' : Nat} {o : Obj} (H : Aside0 (W.heap[g]? = some o)) (hg : g' = W1.heap.size) (f : W.heap[g]? = some o → W1.heap[g]? = some o := by intro h; (with_reducible repeat (first | refine blk_drewN ?_ _ | refine blk_drew ?_ | refine blk_alloc ?_ _)); exact h) : Aside0 (g' ≠ g) := ⟨by rw [hg]; exact Nat.ne_of_gt (blk_lt (f H.out))⟩
section
variable {α : Type} {d : Kd α} {e base n : Nat} {W W1 W2 : World} {ok : Nat → Prop} {v : Value} {A : Option Addr} {xs : List α}
theorem kN (H : Aside0 (Kd.N d e W base ok v xs)) (f : Kd.N d e W base ok v xs → Kd.N d e W1 base ok v xs := by intro h; (with_reducible repeat (first | apply Kd.N_alloc | apply Kd.N_drewN | apply Kd.N_drew)); exact h) : Kd.N d e W1 base ok v xs := f H.out
theorem kR (H : Aside0 (Kd.R d e W base ok v xs)) (f : Kd.R d e W base ok v xs → Kd.R d e W1 base ok v xs := by intro h; (with_reducible repeat (first | apply Kd.R_alloc | apply Kd.R_drewN | apply Kd.R_drew)); exact h) : Kd.R d e W1 base ok v xs := f H.out
theorem kV (H : Aside0 (Kd.V d e W base ok v xs)) (f : Kd.V d e W base ok v xs → Kd.V d e W1 base ok v xs := by intro h; (with_reducible repeat (first | apply Kd.V_alloc | apply Kd.V_drewN | apply Kd.V_drew)); exact h) : Kd.V d e W1 base ok v xs := f H.out
theorem kC (H : Aside0 (Kd.C d W A n xs)) (f : Kd.C d W A n xs → Kd.C d W1 A n xs := by intro h; repeat (first | (with_reducible exact h) | (with_reducible refine Kd.C_alloc ?_ _) | (with_reducible refine Kd.C_drewN ?_ _) | (with_reducible refine Kd.C_drew ?_) | exact h)) : Kd.C d W1 A n xs := f H.out
theorem kNb (H : Aside0 (Kd.N d e W base ok v xs)) (hb : Below W1.heap.size W1 W2) (f : Kd.N d e W base ok v xs → Kd.N d e W1 base ok v xs := by intro h; (with_reducible repeat (first | apply Kd.N_alloc | apply Kd.N_drewN | apply Kd.N_drew)); exact h) : Aside0 (Kd.N d e W2 base ok v xs) := ⟨Kd.N_below (f H.out) hb⟩
theorem kRb (H : Aside0 (Kd.R d e W base ok v xs)) (hb : Below W1.heap.size W1 W2) (f : Kd.R d e W base ok v xs → Kd.R d e W1 base ok v xs := by intro h; (with_reducible repeat (first | apply Kd.R_alloc | apply Kd.R_drewN | apply Kd.R_drew)); exact h) : Aside0 (Kd.R d e W2 base ok v xs) := ⟨Kd.R_below (f H.out) hb⟩
theorem kVb (H : Aside0 (Kd.V d e W base ok v xs)) (hb : Below W1.heap.size W1 W2) (f : Kd.V d e W base ok v xs → Kd.V d e W1 base ok v xs := by intro h; (with_reducible repeat (first | apply Kd.V_alloc | apply Kd.V_drewN | apply Kd.V_drew)); exact h) : Aside0 (Kd.V d e W2 base ok v xs) := ⟨Kd.V_below (f H.out) hb⟩
theorem kCb (H : Aside0 (Kd.C d W A n xs)) (hb : Below W1.heap.size W1 W2) (f : Kd.C d W A n xs → Kd.C d W1 A n xs := by intro h; repeat (first | (with_reducible exact h) | (with_reducible refine Kd.C_alloc ?_ _) | (with_reducible refine Kd.C_drewN ?_ _) | (with_reducible refine Kd.C_drew ?_) | exact h)) : Aside0 (Kd.C d W2 A n xs) := ⟨Kd.C_below (f H.out) hb⟩
theorem cb (H : Aside0 (Kd.C d W A n xs)) (hb : Aside0 (Below W.heap.size W W1)) (f : Kd.C d W1 A n xs → Kd.C d W2 A n xs := by intro h; repeat (first | exact h | (with_reducible refine Kd.C_alloc ?_ _) | (with_reducible refine Kd.C_drewN ?_ _) | (with_reducible refine Kd.C_drew ?_))) : Kd.C d W2 A n xs := f (Kd.C_below H.out hb.out)
end
theorem odt {p : Prop} [Decidable p] (h : decide p = true := by first | (with_reducible assumption) | assumption) : p := of_decide_eq_true h
theorem erf {α : Type} {a b : α} (h : a = b := by first | rfl | (simp [errW_none, errW_some] <;> rfl) | (simp [*, errW_none, errW_some] <;> rfl)) : a = b := h
theorem eqs {α : Type} {a b : α} (h : a = b := by first | rfl | (simp; done) | (simp [*]; done)) : a = b := h
theorem drw {w w' : World} (h : Drawn0 w w' := by repeat (first | exact Drawn0.refl _ | apply Drawn0.step)) : Drawn0 w w' := h
theorem hxc {w W : World} {a : Addr} {v : Value} (H : Aside0 (Below w.heap.size w W)) (h : w.cell? a = some v) : W.cell? a = some v := (H.out.cell (World.block_lt_of_cell? w _ h)).trans h
theorem ift {α : Type} {a b r : α} (H : (if true = true then a else b) = r) : a = r := H
theorem iff_ {α : Type} {a b r : α} (H : (if false = true then a else b) = r) : b = r := H
theorem cz2 {w : World} {g : Nat} {t : TypeId} {c0 c1 : Value} (H : Aside0 (w.heap[g]? = some (.cells #[c0, c1] t (0, 0)))) : w.cell? ⟨g, 0, none⟩ = some c0 ∧ w.cell? ⟨g, 1, none⟩ = some c1 ∧ w.frozen? ⟨g, 0, none⟩ = false ∧ w.frozen? ⟨g, 1, none⟩ = false := ⟨(blk_cell H.out 0).trans rfl, (blk_cell H.out 1).trans rfl, blk_frozen H.out 0, blk_frozen H.out 1⟩
theorem cz3 {w : World} {g : Nat} {t : TypeId} {c0 c1 c2 : Value} (H : Aside0 (w.heap[g]? = some (.cells #[c0, c1, c2] t (0, 0)))) : w.cell? ⟨g, 0, none⟩ = some c0 ∧ w.cell? ⟨g, 1, none⟩ = some c1 ∧ w.cell? ⟨g, 2, none⟩ = some c2 ∧ w.frozen? ⟨g, 0, none⟩ = false ∧ w.frozen? ⟨g, 1, none⟩ = false ∧ w.frozen? ⟨g, 2, none⟩ = false := ⟨(blk_cell H.out 0).trans rfl, (blk_cell H.out 1).trans rfl, (blk_cell H.out 2).trans rfl, blk_frozen H.out 0, blk_frozen H.out 1, blk_frozen H.out 2⟩
theorem cz4 {w : World} {g : Nat} {t : TypeId} {c0 c1 c2 c3 : Value} (H : Aside0 (w.heap[g]? = some (.cells #[c0, c1, c2, c3] t (0, 0)))) : w.cell? ⟨g, 0, none⟩ = some c0 ∧ w.cell? ⟨g, 1, none⟩ = some c1 ∧ w.cell? ⟨g, 2, none⟩ = some c2 ∧ w.cell? ⟨g, 3, none⟩ = some c3 ∧ w.frozen? ⟨g, 0, none⟩ = false ∧ w.frozen? ⟨g, 1, none⟩ = false ∧ w.frozen? ⟨g, 2, none⟩ = false ∧ w.frozen? ⟨g, 3, none⟩ = false := ⟨(blk_cell H.out 0).trans rfl, (blk_cell H.out 1).trans rfl, (blk_cell H.out 2).trans rfl, (blk_cell H.out 3).trans rfl, blk_frozen H.out 0, blk_frozen H.out 1, blk_frozen H.out 2, blk_frozen H.out 3⟩
theorem cz7 {w : World} {g : Nat} {t : TypeId} {c0 c1 c2 c3 c4 c5 c6 : Value} (H : Aside0 (w.heap[g]? = some (.cells #[c0, c1, c2, c3, c4, c5, c6] t (0, 0)))) : w.cell? ⟨g, 0, none⟩ = some c0 ∧ w.cell? ⟨g, 1, none⟩ = some c1 ∧ w.cell? ⟨g, 2, none⟩ = some c2 ∧ w.cell? ⟨g, 3, none⟩ = some c3 ∧ w.cell? ⟨g, 4, none⟩ = some c4 ∧ w.cell? ⟨g, 5, none⟩ = some c5 ∧ w.cell? ⟨g, 6, none⟩ = some c6 ∧ w.frozen? ⟨g, 0, none⟩ = false ∧ w.frozen? ⟨g, 1, none⟩ = false ∧ w.frozen? ⟨g, 2, none⟩ = false ∧ w.frozen? ⟨g, 3, none⟩ = false ∧ w.frozen? ⟨g, 4, none⟩ = false ∧ w.frozen? ⟨g, 5, none⟩ = false ∧ w.frozen? ⟨g, 6, none⟩ = false := ⟨(blk_cell H.out 0).trans rfl, (blk_cell H.out 1).trans rfl, (blk_cell H.out 2).trans rfl, (blk_cell H.out 3).trans rfl, (blk_cell H.out 4).trans rfl, (blk_cell H.out 5).trans rfl, (blk_cell H.out 6).trans rfl, blk_frozen H.out 0, blk_frozen H.out 1, blk_frozen H.out 2, blk_frozen H.out 3, blk_frozen H.out 4, blk_frozen H.out 5, blk_frozen H.out 6⟩
theorem gl {P : Program} {ops : Array Oper} {Q : Exit → Act → World → Prop} {rest : List Oper} {oi : Oper} {a : Act} {w : World} (N : Tmp) {f : FuncId} {fn : Func} {as_ : Array Operand} {ts : Array TypeId} (hf : P.funcs[f]? = some fn) (args : Array Value) (hd : oi.dst = some N := by rfl) (hg : oi.guard = none := by rfl) (hname : (fn.name == "runtime.NumGoroutine") = false := by kernel_rfl) (hb : fn.body.isSome = true := by rfl)
    (hop : oi.op = .call { callee := .value (.func f), args := as_, argTypes := ts } := by rfl) (hargs : as_.map a.eval = args := by (try simp only [List.map_toArray, List.map_cons, List.map_nil]); first | done | rfl | (simp only [List.length_drop, List.length_take]; rfl))
    (h : Calls P f args w fun e w' => ∃ v, e = .returned v ∧ wpList P ops Q rest (a.put (some N) v) w') : wpList P ops Q (oi :: rest) a w := goesL_ (some N) hd hg hf hname hb args hop hargs h
theorem pu {P : Program} {ops : Array Oper} {Q : Exit → Act → World → Prop} {md : Region.Mode} {S : World → Prop} {ds : List Nat} {fuel : Nat} {l : Array Bool} {a : Act} {w : World} (i : Nat) (N : Tmp) (l' : Array Bool) {T : Bool × List (List Nat × List Nat)} {oi : Oper} {v : Value} (HT : Aside0 (rtab md ops = T)) (hi : ops[i]? = some oi := by rfl) (hN : oi.dst = some N := by rfl) (hc : anyT T l.toList l'.toList i = true := by kernel_rfl)
    (hQ : ∀ (c : List PanicEntry) (a : Act) (w : World), Q (.panic c) (a.put oi.dst v) w → Q (.panic c) a w := by exact fun _ _ _ h => h) (hy : Yields P ops oi v a := by exact Or.inl ⟨by rfl, by intro w'; go_simp; with_reducible rfl⟩) {a' : Act} (ha : a.put (some N) v = a' := by simp only [Act.put, List.setIfInBounds_toArray, List.set_cons_zero, List.set_cons_succ, i64_w, i32_w]; rfl)
    (h : wpAnyLast P md ops Q S ds fuel l' a' w) : wpAnyLast P md ops Q S ds (fuel + 1) l a w := pure_ l' hi hN (any_of HT.out hc) hQ hy ha h
theorem tk {P : Program} {ops : Array Oper} {Q : Exit → Act → World → Prop} {md : Region.Mode} {S : World → Prop} {ds : List Nat} {fuel : Nat} {l : Array Bool} {a : Act} {w : World} (i : Nat) (N : Tmp) (l' : Array Bool) {T : Bool × List (List Nat × List Nat)} {B : List Nat} {oi : Oper} {v : Value} (HT : Aside0 (rtab md ops = T)) (HW : Aside0 (waitsOk T.2 B = true)) (hS : S w) (hi : ops[i]? = some oi := by rfl) (hN : oi.dst = some N := by rfl) (hc : takeW T B ds l.toList l'.toList i = true := by kernel_rfl)
    (hQ : ∀ (c : List PanicEntry) (a : Act) (w : World), Q (.panic c) (a.put oi.dst v) w → Q (.panic c) a w := by exact fun _ _ _ h => h) (hw : Region.wanted oi (yielded ops a.tmps) = true := by rfl) (hy : ∀ w', S w' → (execOp a.eval oi).run P w' = .ok (.value v) w') {a' : Act} (ha : a.put (some N) v = a' := by simp only [Act.put, List.setIfInBounds_toArray, List.set_cons_zero, List.set_cons_succ, i64_w, i32_w]; rfl)
    (h : wpAnyLast P md ops Q S ds fuel l' a' w) : wpAnyLast P md ops Q S ds (fuel + 1) l a w := take_ l' hi hN (take_ofW HT.out HW.out hc) hQ (Or.inl ⟨hw, hy⟩) hS ha h
theorem bkF {w W : World} {g : Nat} {o : Obj} (H : Aside0 (w.heap[g]? = some o)) (f : w.heap[g]? = some o → W.heap[g]? = some o := by intro h; repeat (first | (with_reducible first | exact h | refine blk_drewN ?_ _ | refine blk_drew ?_ | refine blk_alloc ?_ _) | refine blk_far ?_ (Aside0.out (by assumption)) _ | exact h)) : W.heap[g]? = some o := f H.out
theorem bkx {W : World} {g : Nat} {t : TypeId} {c cs' : Array Value} (h : W.heap[g]? = some (.cells c t (0, 0))) (e : c = cs') : W.heap[g]? = some (.cells cs' t (0, 0)) := e ▸ h
theorem bkP {w W : World} {g : Nat} {t : TypeId} {cs cs' : Array Value} (H : Aside0 (w.heap[g]? = some (.cells cs t (0, 0)))) (f : w.heap[g]? = some (.cells cs t (0, 0)) → W.heap[g]? = some (.cells cs' t (0, 0)) := by intro h; apply bkx; (· repeat (first | (with_reducible first | exact h | refine blk_drewN ?_ _ | refine blk_drew ?_ | refine blk_alloc ?_ _) | apply blk_set | (apply blk_far; case hp => exact Aside0.out (by assumption)))); (· rfl)) : W.heap[g]? = some (.cells cs' t (0, 0)) := f H.out
section
variable {α : Type} {d : Kd α} {e base : Nat} {w W : World} {ok ok' : Nat → Prop} {v : Value} {xs : List α} {g t g2 t2 : Nat} {cs cs2 : Array Value}
theorem kfa (h : Kd.R d e w base (fun k => ok k ∧ k ≠ g) v xs) (i : Nat) (u : Value) : Kd.R d e (w.setCell ⟨g, i, none⟩ u) base (fun k => ok k ∧ k ≠ g) v xs := Kd.R_far h (fun _ hk => hk.2) u
theorem kfb (h : Kd.R d e w base (fun k => (ok k ∧ k ≠ g) ∧ k ≠ g2) v xs) (i : Nat) (u : Value) : Kd.R d e (w.setCell ⟨g, i, none⟩ u) base (fun k => (ok k ∧ k ≠ g) ∧ k ≠ g2) v xs := Kd.R_far h (fun _ hk => hk.1.2) u
theorem kNa (h : Kd.N d e w base (fun k => ok k ∧ k ≠ g) v xs) (i : Nat) (u : Value) : Kd.N d e (w.setCell ⟨g, i, none⟩ u) base (fun k => ok k ∧ k ≠ g) v xs := Kd.N_far h (fun _ hk => hk.2) u
theorem kt (H : Aside0 (Kd.R d e w base ok v xs)) (B : Aside0 (w.heap[g]? = some (.cells cs t (0, 0)))) (f : Kd.R d e w base (fun k => ok k ∧ k ≠ g) v xs → Kd.R d e W base (fun k => ok k ∧ k ≠ g) v xs := by intro h; repeat (first | (with_reducible first | exact h | apply Kd.R_alloc | apply Kd.R_drewN | apply Kd.R_drew) | refine kfa ?_ _ _ | exact h)) (ht : ∀ q, q ∈ e :: d.E → q ≠ t := by decide) : Kd.R d e W base ok v xs := Kd.R_mono (f (Kd.R_types H.out B.out ht)) (fun _ h => h.1)
theorem ktm (H : Aside0 (Kd.R d e w base ok v xs)) (B : Aside0 (w.heap[g]? = some (.cells cs t (0, 0)))) (m : ∀ k, ok k ∧ k ≠ g → ok' k) (f : Kd.R d e w base (fun k => ok k ∧ k ≠ g) v xs → Kd.R d e W base (fun k => ok k ∧ k ≠ g) v xs := by intro h; repeat (first | (with_reducible first | exact h | apply Kd.R_alloc | apply Kd.R_drewN | apply Kd.R_drew) | refine kfa ?_ _ _ | exact h)) (ht : ∀ q, q ∈ e :: d.E → q ≠ t := by decide) : Kd.R d e W base ok' v xs := Kd.R_mono (f (Kd.R_types H.out B.out ht)) m
theorem kt2 (H : Aside0 (Kd.R d e w base ok v xs)) (B : Aside0 (w.heap[g]? = some (.cells cs t (0, 0)))) (B2 : Aside0 (w.heap[g2]? = some (.cells cs2 t2 (0, 0)))) (f : Kd.R d e w base (fun k => (ok k ∧ k ≠ g) ∧ k ≠ g2) v xs → Kd.R d e W base (fun k => (ok k ∧ k ≠ g) ∧ k ≠ g2) v xs := by intro h; repeat (first | (with_reducible first | exact h | apply Kd.R_alloc | apply Kd.R_drewN | apply Kd.R_drew) | refine kfa ?_ _ _ | refine kfb ?_ _ _ | exact h)) (ht : ∀ q, q ∈ e :: d.E → q ≠ t := by decide) (ht2 : ∀ q, q ∈ e :: d.E → q ≠ t2 := by decide) : Kd.R d e W base ok v xs := Kd.R_mono (f (Kd.R_types (Kd.R_types H.out B.out ht) B2.out ht2)) (fun _ h => h.1.1)
theorem kn (H : Aside0 (Kd.R d e w base ok v xs)) (m : ∀ k, ok k → k ≠ g) (f : Kd.R d e w base (fun k => ok k ∧ k ≠ g) v xs → Kd.R d e W base (fun k => ok k ∧ k ≠ g) v xs := by intro h; repeat (first | (with_reducible first | exact h | apply Kd.R_alloc | apply Kd.R_drewN | apply Kd.R_drew) | refine kfa ?_ _ _ | exact h)) : Kd.R d e W base ok v xs := Kd.R_mono (f (Kd.R_mono H.out (fun k h => ⟨h, m k h⟩))) (fun _ h => h.1)
theorem knm (H : Aside0 (Kd.R d e w base ok v xs)) (m : ∀ k, ok k → k ≠ g) (m' : ∀ k, ok k ∧ k ≠ g → ok' k) (f : Kd.R d e w base (fun k => ok k ∧ k ≠ g) v xs → Kd.R d e W base (fun k => ok k ∧ k ≠ g) v xs := by intro h; repeat (first | (with_reducible first | exact h | apply Kd.R_alloc | apply Kd.R_drewN | apply Kd.R_drew) | refine kfa ?_ _ _ | exact h)) : Kd.R d e W base ok' v xs := Kd.R_mono (f (Kd.R_mono H.out (fun k h => ⟨h, m k h⟩))) m'
theorem kNn (H : Aside0 (Kd.N d e w base ok v xs)) (m : ∀ k, ok k → k ≠ g) (f : Kd.N d e w base (fun k => ok k ∧ k ≠ g) v xs → Kd.N d e W base (fun k => ok k ∧ k ≠ g) v xs := by intro h; repeat (first | (with_reducible first | exact h | apply Kd.N_alloc | apply Kd.N_drewN | apply Kd.N_drew) | refine kNa ?_ _ _ | exact h)) : Kd.N d e W base ok v xs := Kd.N_mono (f (Kd.N_mono H.out (fun k h => ⟨h, m k h⟩))) (fun _ h => h.1)
theorem kNm (H : Aside0 (Kd.N d e w base ok v xs)) (m : ∀ k, ok k → k ≠ g) (m' : ∀ k, ok k ∧ k ≠ g → ok' k) (f : Kd.N d e w base (fun k => ok k ∧ k ≠ g) v xs → Kd.N d e W base (fun k => ok k ∧ k ≠ g) v xs := by intro h; repeat (first | (with_reducible first | exact h | apply Kd.N_alloc | apply Kd.N_drewN | apply Kd.N_drew) | refine kNa ?_ _ _ | exact h)) : Kd.N d e W base ok' v xs := Kd.N_mono (f (Kd.N_mono H.out (fun k h => ⟨h, m k h⟩))) m'
theorem kmm (H : Aside0 (Kd.R d e w base ok v xs)) (m : ∀ k, ok k → ok' k) (f : Kd.R d e w base ok v xs → Kd.R d e W base ok v xs := by intro h; (with_reducible repeat (first | apply Kd.R_alloc | apply Kd.R_drewN | apply Kd.R_drew)); exact h) : Kd.R d e W base ok' v xs := Kd.R_mono (f H.out) m
theorem kNmm (H : Aside0 (Kd.N d e w base ok v xs)) (m : ∀ k, ok k → ok' k) (f : Kd.N d e w base ok v xs → Kd.N d e W base ok v xs := by intro h; (with_reducible repeat (first | apply Kd.N_alloc | apply Kd.N_drewN | apply Kd.N_drew)); exact h) : Kd.N d e W base ok' v xs := Kd.N_mono (f H.out) m
end
theorem cfw {w : World} {a b : Addr} {v : Value} {g : Nat} (hw : w.cell? a = some v) (hg : Aside0 (w.heap.size ≤ g)) (hb : b.block = a.block := by first | rfl | simp only [add_block]) : b.block ≠ g := by
  rw [hb]; exact Nat.ne_of_lt (Nat.lt_of_lt_of_le (World.block_lt_of_cell? _ _ hw) hg.out)
theorem cfr {w W : World} {a : Addr} {v : Value} (h : w.cell? a = some v) (f : w.cell? a = some v → W.cell? a = some v := by intro h; repeat (first | exact h | refine (cell_far (Aside0.out (by assumption)) _).trans ?_)) : W.cell? a = some v := f h
theorem cfn {w W : World} {a : Addr} {v : Value} {g : Nat} (h : w.cell? a = some v) (n : a.block ≠ g) (f : w.cell? a = some v → a.block ≠ g → W.cell? a = some v := by intro h n; repeat (first | exact h | refine (cell_far n _).trans ?_ | refine (cell_far (Aside0.out (by assumption)) _).trans ?_)) : W.cell? a = some v := f h n
def bits (n x : Nat) : Array Bool := ⟨(List.range n).map fun i => x.testBit i⟩
theorem pn {P : Program} {ops : Array Oper} {Q : Exit → Act → World → Prop} {md : Region.Mode} {S : World → Prop} {ds : List Nat} {fuel : Nat} {l : Array Bool} {a : Act} {w : World} (i : Nat) (N : Tmp) (l' : Array Bool) {T : Bool × List (List Nat × List Nat)} {oi : Oper} (HT : Aside0 (rtab md ops = T)) (hi : ops[i]? = some oi := by rfl) (hN : oi.dst = some N := by rfl) (hc : anyT T l.toList l'.toList i = true := by kernel_rfl)
    (hQ : ∀ (c : List PanicEntry) (a : Act) (w : World), Q (.panic c) (a.put oi.dst undef) w → Q (.panic c) a w := by exact fun _ _ _ h => h) (hy : Region.wanted oi (yielded ops a.tmps) = false := by rfl) {a' : Act} (ha : a.put (some N) undef = a' := by simp only [Act.put, List.setIfInBounds_toArray, List.set_cons_zero, List.set_cons_succ, i64_w, i32_w]; rfl)
    (h : wpAnyLast P md ops Q S ds fuel l' a' w) : wpAnyLast P md ops Q S ds (fuel + 1) l a w := pure_ l' hi hN (any_of HT.out hc) hQ (Or.inr ⟨hy, rfl⟩) ha h
theorem itn {α : Type} {c : Prop} {_i : Decidable c} {a : Option α} {r : α} (H : (if c then a else none) = some r) : c ∧ a = some r := by
  by_cases h : c
  · rw [if_pos h] at H; exact ⟨h, H⟩
  · rw [if_neg h] at H; cases H
theorem obA {α β : Type} {o : Option α} {f : α → Option β} {r : β} (H : o.bind f = some r) : ∃ t, Aside0 (o = some t) ∧ f t = some r := by
  obtain ⟨t, h1, h2⟩ := Option.bind_eq_some_iff.mp H
  exact ⟨t, ⟨h1⟩, h2⟩
theorem be {P : Program} {ops : Array Oper} {Q : Exit → Act → World → Prop} {rest : List Oper} {o : Oper} {a : Act} {W : World} (N : Tmp) (cs : Array Value) (t : TypeId)
    (h : ∀ g, g = W.heap.size → ∀ w1, w1.heap[g]? = some (.cells cs t (0, 0)) → Below W.heap.size W w1 → wpList P ops Q rest (a.put o.dst (.pointer (some ⟨g, 0, none⟩))) w1)
    (hg : o.guard = none := by rfl) (hd : o.dst = some N := by rfl) (hr : (execOp a.eval o).run P W = .ok (.value (.pointer (some ⟨W.heap.size, 0, none⟩))) (W.alloc (.cells cs t (0, 0))) := by first | (go_simp; done) | (go_simp; rfl)) : wpList P ops Q (o :: rest) a W := box_event hg hd hr h
theorem dN {w : World} {g : Nat} {o : Obj} (h : w.heap[g]? = some o) (n : Nat) : (w.drewN n).heap[g]? = some o := h
theorem dR {w : World} {g : Nat} {o : Obj} (h : w.heap[g]? = some o) : w.drew.heap[g]? = some o := h
theorem dA {w : World} {g : Nat} {o : Obj} (h : w.heap[g]? = some o) (o' : Obj) : (w.alloc o').heap[g]? = some o := blk_alloc h o'
theorem bc {w : World} {g : Nat} {t : TypeId} {cs : Array Value} {v : Value} (H : Aside0 (w.heap[g]? = some (.cells cs t (0, 0)))) (i : Nat) (e : cs[i]? = some v := by rfl) : w.cell? ⟨g, i, none⟩ = some v := (blk_cell H.out i).trans e
end Go.Proofs.Ytfpianecohobjaa.P
