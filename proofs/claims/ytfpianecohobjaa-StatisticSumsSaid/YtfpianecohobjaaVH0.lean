/- StatisticOf: a part of its proof. No condition. -/
import Derived.Test.YtfpianecohobjaaVPx0
import Derived.Laws.Externs
import Derived.Lib.Bytealg
import Derived.Shelf.Abstract
import Derived.Lib.SliceRun
import Derived.WalkSpells
namespace Go.Proofs.Ytfpianecohobjaa.P
open Go.RowKit Go.Proofs.YtfpianecohobjaaW.PrintWords Go.Proofs.YtfpianecohobjaaW.PrintLast Go.Proofs.YtfpianecohobjaaW.PrintMore
set_option linter.unusedVariables false
set_option linter.unusedSimpArgs false
theorem V_block {α : Type} {d : Kd α} {e base n c : Nat} {W : World} {ok : Nat → Prop} {ad : Addr} {xs : List α} (h : Kd.V d e W base ok (.slice (some ad) n c) xs) (hl : 0 < xs.length) (hs : 0 < d.sz) : ok ad.block := by
 obtain ⟨A, c', he, hc, hF⟩ := h
 injection he with h1 h2 h3
 subst h1
 cases xs with
 | nil => exact absurd hl (Nat.lt_irrefl _)
 | cons x xs =>
  obtain ⟨ad', c2, hA, _, _, _, hin⟩ := Kd.F_get hF x 0 (Int.le_refl _) (by simp)
  injection hA with hA
  subst hA
  exact hin hs
def strings_IndexByte.f (a0 : ByteArray) (a1 : Int) : Option Int := some (Lib.indexByte a0.data.toList a1.toNat.toUInt8)
set_option maxHeartbeats 1000000 in
set_option maxRecDepth 100000 in
theorem slite_IndexByte (s : ByteArray) (c : Int) (w : World) :
 Calls Try.prog 126 #[.string s, .int .u8 c] w fun e w' => e = .returned (.int .i64 (Lib.indexByte s.data.toList c.toNat.toUInt8)) ∧ w = w' := by
 go_enter Try.func126, Try.ntmps126
 go_wp2
 rw [run_callFunc_extern Try.func127 (by kernel_rfl) (by kernel_rfl) (by kernel_rfl) (e := Extern.BytealgIndexByte.indexByte) (by kernel_rfl), Lib.run_indexByteString]
 simp only [Result.andThen]
 rw [Oper.upon_value]
 go_wp2
 go_ret
 exact ⟨rfl, rfl⟩
set_option maxHeartbeats 1000000 in
set_option maxRecDepth 100000 in
theorem strings_IndexByte.calls (a0 : ByteArray) (a1 : Int) (r : Int) (w : World) (h : strings_IndexByte.f a0 a1 = some r) :
 Calls Try.prog 117 #[.string a0, .int .u8 a1] w fun e w' => e = .returned (.int .i64 r) ∧ Drawn0 w w' := by
 obtain rfl := Option.some.inj h
 clear h
 go_enter Try.func117, Try.ntmps117
 go_wp2_with (go_at_call 126; refine (slite_IndexByte _ _ _).mono ?_; rintro e w' ⟨rfl, rfl⟩)
 go_ret
 exact ⟨rfl, Drawn0.refl _⟩
def firstAt {α : Type} (p : α → Bool) : List α → Nat → Int
 | [], _ => -1
 | x :: l, k => if p x then (k : Int) else firstAt p l (k + 1)
theorem firstAt_neg {α : Type} (p : α → Bool) : ∀ (l : List α) (k : Nat), (∀ x ∈ l, p x = false) → firstAt p l k = -1
 | [], _, _ => rfl
 | x :: l, k, h => by
  rw [firstAt, if_neg (by simp [h x (List.mem_cons_self ..)])]
  exact firstAt_neg p l (k + 1) (fun y hy => h y (List.mem_cons_of_mem _ hy))
theorem firstAt_pos {α : Type} (p : α → Bool) (d : α) : ∀ (l : List α) (b j : Nat), j < l.length → p (l.getD j d) = true → (∀ i, i < j → p (l.getD i d) = false) → firstAt p l b = ((b + j : Nat) : Int)
 | [], _, _, h, _, _ => absurd h (Nat.not_lt_zero _)
 | x :: l, b, 0, _, hp, _ => by
  have : p x = true := hp
  rw [firstAt, if_pos this]; rfl
 | x :: l, b, j + 1, h, hp, hn => by
  have h0 : p x = false := hn 0 (Nat.succ_pos _)
  rw [firstAt, if_neg (by simp [h0]), firstAt_pos p d l (b + 1) j (Nat.lt_of_succ_lt_succ h) hp (fun i hi => hn (i + 1) (Nat.succ_lt_succ hi))]
  congr 1; omega
theorem firstAt_none {α : Type} (p : α → Bool) (d : α) (l : List α) (b : Nat) (hn : ∀ i, i < l.length → p (l.getD i d) = false) : firstAt p l b = -1 := by
 refine firstAt_neg p l b (fun x hx => ?_)
 obtain ⟨i, hi, rfl⟩ := List.getElem_of_mem hx
 have := hn i hi
 rwa [List.getD_eq_getElem?_getD, List.getElem?_eq_getElem hi] at this
theorem firstAt_any {α : Type} (p : α → Bool) : ∀ (l : List α) (b : Nat), decide (0 ≤ firstAt p l b) = l.any p
 | [], _ => rfl
 | x :: l, b => by
  by_cases h : p x = true
  · rw [firstAt, if_pos h]; simp [h]
  · rw [firstAt, if_neg h, firstAt_any p l (b + 1)]; simp [h]
def PredK {α : Type} (d : Kd α) (P : Program) (g : Nat) (lb : Array Value) (arg : List Value → Value) (p : α → Bool) (w : World) : Prop :=
 ∀ (W : World) (x : α) (cs : List Value), Below w.heap.size w W → d.K W x cs → Calls P g (#[arg cs] ++ lb) W fun e w' => e = .returned (.bool (p x)) ∧ Below W.heap.size W w'
set_option maxHeartbeats 4000000 in
set_option maxRecDepth 100000 in
theorem idx_int (p : Int → Bool) (g : Nat) (lb : Array Value) (eg : ∀ args w, (callFunc g args).run Try.prog w = .ok (.enter g args) w) (A : Option Addr) (c : Nat) (xs : List Int) (w : World)
 (hC : Kd.C (Kd.int .i64) w A xs.length xs) (hcc : xs.length ≤ c) (hcalls0 : PredK (Kd.int .i64) Try.prog g lb (fun cs => cs.headD (.int .i64 0)) p w) :
 Calls Try.prog 91 #[.slice A xs.length c, .func (.func g) #[] lb] w fun e w' => e = .returned (.int .i64 (firstAt p xs 0)) ∧ Below w.heap.size w w' := by
 have hmax : xs.length ≤ 9223372036854775807 := hC.2.1
 unfold PredK at hcalls0
 have HC := Aside0.mk hC
 have HP := Aside0.mk hcalls0
 clear hC hcalls0
 go_enter Try.func91, Try.ntmps91
 go_wp2
 go_loopg [5, 8] xs.length (fun gg _ s8 wr => ∃ kk : Nat, kk ≤ xs.length ∧ xs.length - kk ≤ gg ∧ s8 = .int .i64 kk ∧ Aside0 (Below w.heap.size w wr) ∧ Aside0 (∀ j, j < kk → p (xs.getD j 0) = false))
 case atStart => exact ⟨0, Nat.zero_le _, by omega, rfl, ⟨Below.refl _ w⟩, ⟨fun j hj => absurd hj (Nat.not_lt_zero _)⟩⟩
 case round =>
  obtain ⟨kk, hkk, hg, rfl, BW, AS⟩ := hrel
  by_cases hlt : kk < xs.length
  · have hltz : (kk : Int) < (xs.length : Int) := by omega
    have hcalls0 := HP.out
    have hC1 := Kd.C_below HC.out BW.out
    obtain ⟨ad, c0, hA, _, hK, hc0⟩ := Kd.C_get hC1 (0 : Int) (kk : Int) (by omega) (by omega)
    obtain rfl := hK
    simp only [Int.toNat_natCast] at hc0
    have hx0 : wr.cell? (ad.add kk) = some (.int .i64 (xs.getD kk 0)) := by have hq := hc0 0 _ rfl; rwa [show (Kd.int .i64).sz = 1 from rfl, Nat.mul_one, Nat.add_zero] at hq
    have hcall := hcalls0 wr (xs.getD kk 0) [.int .i64 (xs.getD kk 0)] BW.out rfl
    clear hC1 hcalls0
    subst hA
    generalize hy : xs.getD kk 0 = y at hx0 hcall
    have HY := Aside0.mk hy
    clear hy
    cases hq : p y with
    | true =>
     have HQ := Aside0.mk hq
     clear hq
     replace hcall := hcall.mono (R' := fun e w' => e = .returned (.bool true) ∧ Below wr.heap.size wr w') (fun e w' hh => ⟨hh.1.trans (by rw [HQ.out]), hh.2⟩)
     go_wp2_with (go_at_fn g; refine hcall.mono ?_; rintro e w' ⟨rfl, hb'⟩)
     go_ret
     refine ⟨?_, BW.out.trans (hb'.mono BW.out.size)⟩
     rw [firstAt_pos p 0 xs 0 kk hlt (by rw [HY.out]; exact HQ.out) AS.out, Nat.zero_add]
     rfl
    | false =>
     have HQ := Aside0.mk hq
     clear hq
     replace hcall := hcall.mono (R' := fun e w' => e = .returned (.bool false) ∧ Below wr.heap.size wr w') (fun e w' hh => ⟨hh.1.trans (by rw [HQ.out]), hh.2⟩)
     go_wp2_with (go_at_fn g; refine hcall.mono ?_; rintro e w' ⟨rfl, hb'⟩)
     go_roundg (xs.length - (kk + 1))
     case measure => omega
     case rel =>
      refine ⟨kk + 1, by omega, by omega, by go_num, ⟨BW.out.trans (hb'.mono BW.out.size)⟩, ⟨fun j hj => ?_⟩⟩
      by_cases e : j = kk
      · subst e; rw [HY.out]; exact HQ.out
      · exact AS.out j (by omega)
  · have hltz : ¬ (kk : Int) < (xs.length : Int) := by omega
    have hke : kk = xs.length := by omega
    go_wp2
    go_ret
    refine ⟨?_, BW.out⟩
    rw [firstAt_none p 0 xs 0 (fun i hi => AS.out i (by omega))]
    rfl
set_option maxHeartbeats 4000000 in
set_option maxRecDepth 100000 in
theorem idx_NodeType (p : S68 → Bool) (g : Nat) (lb : Array Value) (eg : ∀ args w, (callFunc g args).run Try.prog w = .ok (.enter g args) w) (A : Option Addr) (c : Nat) (xs : List S68) (w : World)
 (hC : Kd.C k68 w A xs.length xs) (hcc : xs.length ≤ c) (hcalls0 : PredK k68 Try.prog g lb (fun cs => .agg cs.toArray) p w) :
 Calls Try.prog 84 #[.slice A xs.length c, .func (.func g) #[] lb] w fun e w' => e = .returned (.int .i64 (firstAt p xs 0)) ∧ Below w.heap.size w w' := by
 have hmax : xs.length ≤ 9223372036854775807 := hC.2.1
 unfold PredK at hcalls0
 have HC := Aside0.mk hC
 have HP := Aside0.mk hcalls0
 clear hC hcalls0
 go_enter Try.func84, Try.ntmps84
 go_wp2
 go_loopg [5, 8] xs.length (fun gg _ s8 wr => ∃ kk : Nat, kk ≤ xs.length ∧ xs.length - kk ≤ gg ∧ s8 = .int .i64 kk ∧ Aside0 (Below w.heap.size w wr) ∧ Aside0 (∀ j, j < kk → p (xs.getD j z68) = false))
 case atStart => exact ⟨0, Nat.zero_le _, by omega, rfl, ⟨Below.refl _ w⟩, ⟨fun j hj => absurd hj (Nat.not_lt_zero _)⟩⟩
 case round =>
  obtain ⟨kk, hkk, hg, rfl, BW, AS⟩ := hrel
  by_cases hlt : kk < xs.length
  · have hltz : (kk : Int) < (xs.length : Int) := by omega
    have hcalls0 := HP.out
    have hC1 := Kd.C_below HC.out BW.out
    obtain ⟨ad, A3, c3, hA, hx0, hx1, hx2, hx3, hlA3, hiA3⟩ := at_T68 hC1 (kk : Int) (by omega) (by omega)
    have hcall := hcalls0 wr (rd_T68 xs kk) [.string (rd_T68 xs (kk : Int)).f0, .int .i64 (rd_T68 xs (kk : Int)).f1, .bool (rd_T68 xs (kk : Int)).f2, .slice A3 (rd_T68 xs (kk : Int)).f3.length c3] BW.out (k68_mk wr (rd_T68 xs kk) hlA3 hiA3)
    simp only [Int.toNat_natCast] at hx0 hx1 hx2 hx3
    clear hC1 hcalls0
    subst hA
    generalize hy : rd_T68 xs (kk : Int) = y at hcall hx0 hx1 hx2 hx3 hlA3 hiA3
    have HY := Aside0.mk (show xs.getD kk z68 = y from hy)
    clear hy
    cases hq : p y with
    | true =>
     have HQ := Aside0.mk hq
     clear hq
     replace hcall := hcall.mono (R' := fun e w' => e = .returned (.bool true) ∧ Below wr.heap.size wr w') (fun e w' hh => ⟨hh.1.trans (by rw [HQ.out]), hh.2⟩)
     go_wp2_with (go_at_fn g; refine hcall.mono ?_; rintro e w' ⟨rfl, hb'⟩)
     go_ret
     refine ⟨?_, BW.out.trans (hb'.mono BW.out.size)⟩
     rw [firstAt_pos p z68 xs 0 kk hlt (by rw [HY.out]; exact HQ.out) AS.out, Nat.zero_add]
     rfl
    | false =>
     have HQ := Aside0.mk hq
     clear hq
     replace hcall := hcall.mono (R' := fun e w' => e = .returned (.bool false) ∧ Below wr.heap.size wr w') (fun e w' hh => ⟨hh.1.trans (by rw [HQ.out]), hh.2⟩)
     go_wp2_with (go_at_fn g; refine hcall.mono ?_; rintro e w' ⟨rfl, hb'⟩)
     go_roundg (xs.length - (kk + 1))
     case measure => omega
     case rel =>
      refine ⟨kk + 1, by omega, by omega, by go_num, ⟨BW.out.trans (hb'.mono BW.out.size)⟩, ⟨fun j hj => ?_⟩⟩
      by_cases e : j = kk
      · subst e; rw [HY.out]; exact HQ.out
      · exact AS.out j (by omega)
  · have hltz : ¬ (kk : Int) < (xs.length : Int) := by omega
    have hke : kk = xs.length := by omega
    go_wp2
    go_ret
    refine ⟨?_, BW.out⟩
    rw [firstAt_none p z68 xs 0 (fun i hi => AS.out i (by omega))]
    rfl
set_option maxHeartbeats 4000000 in
set_option maxRecDepth 100000 in
theorem idx_EdgeType (p : S71 → Bool) (g : Nat) (lb : Array Value) (eg : ∀ args w, (callFunc g args).run Try.prog w = .ok (.enter g args) w) (A : Option Addr) (c : Nat) (xs : List S71) (w : World)
 (hC : Kd.C k71 w A xs.length xs) (hcc : xs.length ≤ c) (hcalls0 : PredK k71 Try.prog g lb (fun cs => .agg cs.toArray) p w) :
 Calls Try.prog 88 #[.slice A xs.length c, .func (.func g) #[] lb] w fun e w' => e = .returned (.int .i64 (firstAt p xs 0)) ∧ Below w.heap.size w w' := by
 have hmax : xs.length ≤ 9223372036854775807 := hC.2.1
 unfold PredK at hcalls0
 have HC := Aside0.mk hC
 have HP := Aside0.mk hcalls0
 clear hC hcalls0
 go_enter Try.func88, Try.ntmps88
 go_wp2
 go_loopg [5, 8] xs.length (fun gg _ s8 wr => ∃ kk : Nat, kk ≤ xs.length ∧ xs.length - kk ≤ gg ∧ s8 = .int .i64 kk ∧ Aside0 (Below w.heap.size w wr) ∧ Aside0 (∀ j, j < kk → p (xs.getD j z71) = false))
 case atStart => exact ⟨0, Nat.zero_le _, by omega, rfl, ⟨Below.refl _ w⟩, ⟨fun j hj => absurd hj (Nat.not_lt_zero _)⟩⟩
 case round =>
  obtain ⟨kk, hkk, hg, rfl, BW, AS⟩ := hrel
  by_cases hlt : kk < xs.length
  · have hltz : (kk : Int) < (xs.length : Int) := by omega
    have hcalls0 := HP.out
    have hC1 := Kd.C_below HC.out BW.out
    obtain ⟨ad, hA, hx0, hx1, hx2, hx3, hx4, hx5, hx6⟩ := at_T71 hC1 (kk : Int) (by omega) (by omega)
    have hcall := hcalls0 wr (rd_T71 xs kk) [.string (rd_T71 xs (kk : Int)).f0, .int .i64 (rd_T71 xs (kk : Int)).f1, .int .i64 (rd_T71 xs (kk : Int)).f2, .int .i64 (rd_T71 xs (kk : Int)).f3, .int .i64 (rd_T71 xs (kk : Int)).f4, .int .i64 (rd_T71 xs (kk : Int)).f5, .int .i64 (rd_T71 xs (kk : Int)).f6] BW.out (k71_mk wr (rd_T71 xs kk))
    simp only [Int.toNat_natCast] at hx0 hx1 hx2 hx3 hx4 hx5 hx6
    clear hC1 hcalls0
    subst hA
    generalize hy : rd_T71 xs (kk : Int) = y at hcall hx0 hx1 hx2 hx3 hx4 hx5 hx6
    have HY := Aside0.mk (show xs.getD kk z71 = y from hy)
    clear hy
    cases hq : p y with
    | true =>
     have HQ := Aside0.mk hq
     clear hq
     replace hcall := hcall.mono (R' := fun e w' => e = .returned (.bool true) ∧ Below wr.heap.size wr w') (fun e w' hh => ⟨hh.1.trans (by rw [HQ.out]), hh.2⟩)
     go_wp2_with (go_at_fn g; refine hcall.mono ?_; rintro e w' ⟨rfl, hb'⟩)
     go_ret
     refine ⟨?_, BW.out.trans (hb'.mono BW.out.size)⟩
     rw [firstAt_pos p z71 xs 0 kk hlt (by rw [HY.out]; exact HQ.out) AS.out, Nat.zero_add]
     rfl
    | false =>
     have HQ := Aside0.mk hq
     clear hq
     replace hcall := hcall.mono (R' := fun e w' => e = .returned (.bool false) ∧ Below wr.heap.size wr w') (fun e w' hh => ⟨hh.1.trans (by rw [HQ.out]), hh.2⟩)
     go_wp2_with (go_at_fn g; refine hcall.mono ?_; rintro e w' ⟨rfl, hb'⟩)
     go_roundg (xs.length - (kk + 1))
     case measure => omega
     case rel =>
      refine ⟨kk + 1, by omega, by omega, by go_num, ⟨BW.out.trans (hb'.mono BW.out.size)⟩, ⟨fun j hj => ?_⟩⟩
      by_cases e : j = kk
      · subst e; rw [HY.out]; exact HQ.out
      · exact AS.out j (by omega)
  · have hltz : ¬ (kk : Int) < (xs.length : Int) := by omega
    have hke : kk = xs.length := by omega
    go_wp2
    go_ret
    refine ⟨?_, BW.out⟩
    rw [firstAt_none p z71 xs 0 (fun i hi => AS.out i (by omega))]
    rfl
set_option maxHeartbeats 4000000 in
set_option maxRecDepth 100000 in
theorem idx_Attr (p : S77 → Bool) (g : Nat) (lb : Array Value) (eg : ∀ args w, (callFunc g args).run Try.prog w = .ok (.enter g args) w) (A : Option Addr) (c : Nat) (xs : List S77) (w : World)
 (hC : Kd.C k77 w A xs.length xs) (hcc : xs.length ≤ c) (hcalls0 : PredK k77 Try.prog g lb (fun cs => .agg cs.toArray) p w) :
 Calls Try.prog 104 #[.slice A xs.length c, .func (.func g) #[] lb] w fun e w' => e = .returned (.int .i64 (firstAt p xs 0)) ∧ Below w.heap.size w w' := by
 have hmax : xs.length ≤ 9223372036854775807 := hC.2.1
 unfold PredK at hcalls0
 have HC := Aside0.mk hC
 have HP := Aside0.mk hcalls0
 clear hC hcalls0
 go_enter Try.func104, Try.ntmps104
 go_wp2
 go_loopg [5, 8] xs.length (fun gg _ s8 wr => ∃ kk : Nat, kk ≤ xs.length ∧ xs.length - kk ≤ gg ∧ s8 = .int .i64 kk ∧ Aside0 (Below w.heap.size w wr) ∧ Aside0 (∀ j, j < kk → p (xs.getD j z77) = false))
 case atStart => exact ⟨0, Nat.zero_le _, by omega, rfl, ⟨Below.refl _ w⟩, ⟨fun j hj => absurd hj (Nat.not_lt_zero _)⟩⟩
 case round =>
  obtain ⟨kk, hkk, hg, rfl, BW, AS⟩ := hrel
  by_cases hlt : kk < xs.length
  · have hltz : (kk : Int) < (xs.length : Int) := by omega
    have hcalls0 := HP.out
    have hC1 := Kd.C_below HC.out BW.out
    obtain ⟨ad, A3, c3, hA, hx0, hx1, hx2, hx3, hlA3, hiA3⟩ := at_T77 hC1 (kk : Int) (by omega) (by omega)
    have hcall := hcalls0 wr (rd_T77 xs kk) [.string (rd_T77 xs (kk : Int)).f0, .int .i64 (rd_T77 xs (kk : Int)).f1, .int .i64 (rd_T77 xs (kk : Int)).f2, .slice A3 (rd_T77 xs (kk : Int)).f3.length c3] BW.out (k77_mk wr (rd_T77 xs kk) hlA3 hiA3)
    simp only [Int.toNat_natCast] at hx0 hx1 hx2 hx3
    clear hC1 hcalls0
    subst hA
    generalize hy : rd_T77 xs (kk : Int) = y at hcall hx0 hx1 hx2 hx3 hlA3 hiA3
    have HY := Aside0.mk (show xs.getD kk z77 = y from hy)
    clear hy
    cases hq : p y with
    | true =>
     have HQ := Aside0.mk hq
     clear hq
     replace hcall := hcall.mono (R' := fun e w' => e = .returned (.bool true) ∧ Below wr.heap.size wr w') (fun e w' hh => ⟨hh.1.trans (by rw [HQ.out]), hh.2⟩)
     go_wp2_with (go_at_fn g; refine hcall.mono ?_; rintro e w' ⟨rfl, hb'⟩)
     go_ret
     refine ⟨?_, BW.out.trans (hb'.mono BW.out.size)⟩
     rw [firstAt_pos p z77 xs 0 kk hlt (by rw [HY.out]; exact HQ.out) AS.out, Nat.zero_add]
     rfl
    | false =>
     have HQ := Aside0.mk hq
     clear hq
     replace hcall := hcall.mono (R' := fun e w' => e = .returned (.bool false) ∧ Below wr.heap.size wr w') (fun e w' hh => ⟨hh.1.trans (by rw [HQ.out]), hh.2⟩)
     go_wp2_with (go_at_fn g; refine hcall.mono ?_; rintro e w' ⟨rfl, hb'⟩)
     go_roundg (xs.length - (kk + 1))
     case measure => omega
     case rel =>
      refine ⟨kk + 1, by omega, by omega, by go_num, ⟨BW.out.trans (hb'.mono BW.out.size)⟩, ⟨fun j hj => ?_⟩⟩
      by_cases e : j = kk
      · subst e; rw [HY.out]; exact HQ.out
      · exact AS.out j (by omega)
  · have hltz : ¬ (kk : Int) < (xs.length : Int) := by omega
    have hke : kk = xs.length := by omega
    go_wp2
    go_ret
    refine ⟨?_, BW.out⟩
    rw [firstAt_none p z77 xs 0 (fun i hi => AS.out i (by omega))]
    rfl
set_option maxHeartbeats 4000000 in
set_option maxRecDepth 100000 in
theorem idx_Edge (p : S39 → Bool) (g : Nat) (lb : Array Value) (eg : ∀ args w, (callFunc g args).run Try.prog w = .ok (.enter g args) w) (A : Option Addr) (c : Nat) (xs : List S39) (w : World)
 (hC : Kd.C k39 w A xs.length xs) (hcc : xs.length ≤ c) (hcalls0 : PredK k39 Try.prog g lb (fun cs => .agg cs.toArray) p w) :
 Calls Try.prog 108 #[.slice A xs.length c, .func (.func g) #[] lb] w fun e w' => e = .returned (.int .i64 (firstAt p xs 0)) ∧ Below w.heap.size w w' := by
 have hmax : xs.length ≤ 9223372036854775807 := hC.2.1
 unfold PredK at hcalls0
 have HC := Aside0.mk hC
 have HP := Aside0.mk hcalls0
 clear hC hcalls0
 go_enter Try.func108, Try.ntmps108
 go_wp2
 go_loopg [5, 8] xs.length (fun gg _ s8 wr => ∃ kk : Nat, kk ≤ xs.length ∧ xs.length - kk ≤ gg ∧ s8 = .int .i64 kk ∧ Aside0 (Below w.heap.size w wr) ∧ Aside0 (∀ j, j < kk → p (xs.getD j z39) = false))
 case atStart => exact ⟨0, Nat.zero_le _, by omega, rfl, ⟨Below.refl _ w⟩, ⟨fun j hj => absurd hj (Nat.not_lt_zero _)⟩⟩
 case round =>
  obtain ⟨kk, hkk, hg, rfl, BW, AS⟩ := hrel
  by_cases hlt : kk < xs.length
  · have hltz : (kk : Int) < (xs.length : Int) := by omega
    have hcalls0 := HP.out
    have hC1 := Kd.C_below HC.out BW.out
    obtain ⟨ad, hA, hx0, hx1, hx2⟩ := at_T39 hC1 (kk : Int) (by omega) (by omega)
    have hcall := hcalls0 wr (rd_T39 xs kk) [.int .i64 (rd_T39 xs (kk : Int)).f0, .int .i64 (rd_T39 xs (kk : Int)).f1, .int .i64 (rd_T39 xs (kk : Int)).f2] BW.out (k39_mk wr (rd_T39 xs kk))
    simp only [Int.toNat_natCast] at hx0 hx1 hx2
    clear hC1 hcalls0
    subst hA
    generalize hy : rd_T39 xs (kk : Int) = y at hcall hx0 hx1 hx2
    have HY := Aside0.mk (show xs.getD kk z39 = y from hy)
    clear hy
    cases hq : p y with
    | true =>
     have HQ := Aside0.mk hq
     clear hq
     replace hcall := hcall.mono (R' := fun e w' => e = .returned (.bool true) ∧ Below wr.heap.size wr w') (fun e w' hh => ⟨hh.1.trans (by rw [HQ.out]), hh.2⟩)
     go_wp2_with (go_at_fn g; refine hcall.mono ?_; rintro e w' ⟨rfl, hb'⟩)
     go_ret
     refine ⟨?_, BW.out.trans (hb'.mono BW.out.size)⟩
     rw [firstAt_pos p z39 xs 0 kk hlt (by rw [HY.out]; exact HQ.out) AS.out, Nat.zero_add]
     rfl
    | false =>
     have HQ := Aside0.mk hq
     clear hq
     replace hcall := hcall.mono (R' := fun e w' => e = .returned (.bool false) ∧ Below wr.heap.size wr w') (fun e w' hh => ⟨hh.1.trans (by rw [HQ.out]), hh.2⟩)
     go_wp2_with (go_at_fn g; refine hcall.mono ?_; rintro e w' ⟨rfl, hb'⟩)
     go_roundg (xs.length - (kk + 1))
     case measure => omega
     case rel =>
      refine ⟨kk + 1, by omega, by omega, by go_num, ⟨BW.out.trans (hb'.mono BW.out.size)⟩, ⟨fun j hj => ?_⟩⟩
      by_cases e : j = kk
      · subst e; rw [HY.out]; exact HQ.out
      · exact AS.out j (by omega)
  · have hltz : ¬ (kk : Int) < (xs.length : Int) := by omega
    have hke : kk = xs.length := by omega
    go_wp2
    go_ret
    refine ⟨?_, BW.out⟩
    rw [firstAt_none p z39 xs 0 (fun i hi => AS.out i (by omega))]
    rfl
set_option maxHeartbeats 4000000 in
set_option maxRecDepth 100000 in
theorem idx_Count (p : S88 → Bool) (g : Nat) (lb : Array Value) (eg : ∀ args w, (callFunc g args).run Try.prog w = .ok (.enter g args) w) (A : Option Addr) (c : Nat) (xs : List S88) (w : World)
 (hC : Kd.C k88 w A xs.length xs) (hcc : xs.length ≤ c) (hcalls0 : PredK k88 Try.prog g lb (fun cs => .agg cs.toArray) p w) :
 Calls Try.prog 110 #[.slice A xs.length c, .func (.func g) #[] lb] w fun e w' => e = .returned (.int .i64 (firstAt p xs 0)) ∧ Below w.heap.size w w' := by
 have hmax : xs.length ≤ 9223372036854775807 := hC.2.1
 unfold PredK at hcalls0
 have HC := Aside0.mk hC
 have HP := Aside0.mk hcalls0
 clear hC hcalls0
 go_enter Try.func110, Try.ntmps110
 go_wp2
 go_loopg [5, 8] xs.length (fun gg _ s8 wr => ∃ kk : Nat, kk ≤ xs.length ∧ xs.length - kk ≤ gg ∧ s8 = .int .i64 kk ∧ Aside0 (Below w.heap.size w wr) ∧ Aside0 (∀ j, j < kk → p (xs.getD j z88) = false))
 case atStart => exact ⟨0, Nat.zero_le _, by omega, rfl, ⟨Below.refl _ w⟩, ⟨fun j hj => absurd hj (Nat.not_lt_zero _)⟩⟩
 case round =>
  obtain ⟨kk, hkk, hg, rfl, BW, AS⟩ := hrel
  by_cases hlt : kk < xs.length
  · have hltz : (kk : Int) < (xs.length : Int) := by omega
    have hcalls0 := HP.out
    have hC1 := Kd.C_below HC.out BW.out
    obtain ⟨ad, hA, hx0, hx1, hx2, hx3⟩ := at_T88 hC1 (kk : Int) (by omega) (by omega)
    have hcall := hcalls0 wr (rd_T88 xs kk) [.int .i64 (rd_T88 xs (kk : Int)).f0, .int .i64 (rd_T88 xs (kk : Int)).f1, .int .i64 (rd_T88 xs (kk : Int)).f2, .int .i64 (rd_T88 xs (kk : Int)).f3] BW.out (k88_mk wr (rd_T88 xs kk))
    simp only [Int.toNat_natCast] at hx0 hx1 hx2 hx3
    clear hC1 hcalls0
    subst hA
    generalize hy : rd_T88 xs (kk : Int) = y at hcall hx0 hx1 hx2 hx3
    have HY := Aside0.mk (show xs.getD kk z88 = y from hy)
    clear hy
    cases hq : p y with
    | true =>
     have HQ := Aside0.mk hq
     clear hq
     replace hcall := hcall.mono (R' := fun e w' => e = .returned (.bool true) ∧ Below wr.heap.size wr w') (fun e w' hh => ⟨hh.1.trans (by rw [HQ.out]), hh.2⟩)
     go_wp2_with (go_at_fn g; refine hcall.mono ?_; rintro e w' ⟨rfl, hb'⟩)
     go_ret
     refine ⟨?_, BW.out.trans (hb'.mono BW.out.size)⟩
     rw [firstAt_pos p z88 xs 0 kk hlt (by rw [HY.out]; exact HQ.out) AS.out, Nat.zero_add]
     rfl
    | false =>
     have HQ := Aside0.mk hq
     clear hq
     replace hcall := hcall.mono (R' := fun e w' => e = .returned (.bool false) ∧ Below wr.heap.size wr w') (fun e w' hh => ⟨hh.1.trans (by rw [HQ.out]), hh.2⟩)
     go_wp2_with (go_at_fn g; refine hcall.mono ?_; rintro e w' ⟨rfl, hb'⟩)
     go_roundg (xs.length - (kk + 1))
     case measure => omega
     case rel =>
      refine ⟨kk + 1, by omega, by omega, by go_num, ⟨BW.out.trans (hb'.mono BW.out.size)⟩, ⟨fun j hj => ?_⟩⟩
      by_cases e : j = kk
      · subst e; rw [HY.out]; exact HQ.out
      · exact AS.out j (by omega)
  · have hltz : ¬ (kk : Int) < (xs.length : Int) := by omega
    have hke : kk = xs.length := by omega
    go_wp2
    go_ret
    refine ⟨?_, BW.out⟩
    rw [firstAt_none p z88 xs 0 (fun i hi => AS.out i (by omega))]
    rfl
set_option maxHeartbeats 1000000 in
set_option maxRecDepth 100000 in
theorem any_int (p : Int → Bool) (g : Nat) (lb : Array Value) (eg : ∀ args w, (callFunc g args).run Try.prog w = .ok (.enter g args) w) (A : Option Addr) (c : Nat) (xs : List Int) (w : World)
 (hC : Kd.C (Kd.int .i64) w A xs.length xs) (hcc : xs.length ≤ c) (hp : PredK (Kd.int .i64) Try.prog g lb (fun cs => cs.headD (.int .i64 0)) p w) :
 Calls Try.prog 70 #[.slice A xs.length c, .func (.func g) #[] lb] w fun e w' => e = .returned (.bool (xs.any p)) ∧ Below w.heap.size w w' := by
 have hI := idx_int p g lb eg A c xs w hC hcc hp
 have HE := Aside0.mk (firstAt_any p xs 0)
 generalize firstAt p xs 0 = fi at hI HE
 generalize xs.any p = r at HE
 have HI := Aside0.mk hI
 clear hI hp hC eg hcc
 go_enter Try.func70, Try.ntmps70
 go_wp2_with (go_at_call 91; refine HI.out.mono ?_; rintro e w' ⟨rfl, hb'⟩)
 go_ret
 exact ⟨by rw [← HE.out]; rfl, hb'⟩
set_option maxHeartbeats 1000000 in
set_option maxRecDepth 100000 in
theorem any_NodeType (p : S68 → Bool) (g : Nat) (lb : Array Value) (eg : ∀ args w, (callFunc g args).run Try.prog w = .ok (.enter g args) w) (A : Option Addr) (c : Nat) (xs : List S68) (w : World)
 (hC : Kd.C k68 w A xs.length xs) (hcc : xs.length ≤ c) (hp : PredK k68 Try.prog g lb (fun cs => .agg cs.toArray) p w) :
 Calls Try.prog 60 #[.slice A xs.length c, .func (.func g) #[] lb] w fun e w' => e = .returned (.bool (xs.any p)) ∧ Below w.heap.size w w' := by
 have hI := idx_NodeType p g lb eg A c xs w hC hcc hp
 have HE := Aside0.mk (firstAt_any p xs 0)
 generalize firstAt p xs 0 = fi at hI HE
 generalize xs.any p = r at HE
 have HI := Aside0.mk hI
 clear hI hp hC eg hcc
 go_enter Try.func60, Try.ntmps60
 go_wp2_with (go_at_call 84; refine HI.out.mono ?_; rintro e w' ⟨rfl, hb'⟩)
 go_ret
 exact ⟨by rw [← HE.out]; rfl, hb'⟩
set_option maxHeartbeats 1000000 in
set_option maxRecDepth 100000 in
theorem any_EdgeType (p : S71 → Bool) (g : Nat) (lb : Array Value) (eg : ∀ args w, (callFunc g args).run Try.prog w = .ok (.enter g args) w) (A : Option Addr) (c : Nat) (xs : List S71) (w : World)
 (hC : Kd.C k71 w A xs.length xs) (hcc : xs.length ≤ c) (hp : PredK k71 Try.prog g lb (fun cs => .agg cs.toArray) p w) :
 Calls Try.prog 64 #[.slice A xs.length c, .func (.func g) #[] lb] w fun e w' => e = .returned (.bool (xs.any p)) ∧ Below w.heap.size w w' := by
 have hI := idx_EdgeType p g lb eg A c xs w hC hcc hp
 have HE := Aside0.mk (firstAt_any p xs 0)
 generalize firstAt p xs 0 = fi at hI HE
 generalize xs.any p = r at HE
 have HI := Aside0.mk hI
 clear hI hp hC eg hcc
 go_enter Try.func64, Try.ntmps64
 go_wp2_with (go_at_call 88; refine HI.out.mono ?_; rintro e w' ⟨rfl, hb'⟩)
 go_ret
 exact ⟨by rw [← HE.out]; rfl, hb'⟩
set_option maxHeartbeats 1000000 in
set_option maxRecDepth 100000 in
theorem any_Attr (p : S77 → Bool) (g : Nat) (lb : Array Value) (eg : ∀ args w, (callFunc g args).run Try.prog w = .ok (.enter g args) w) (A : Option Addr) (c : Nat) (xs : List S77) (w : World)
 (hC : Kd.C k77 w A xs.length xs) (hcc : xs.length ≤ c) (hp : PredK k77 Try.prog g lb (fun cs => .agg cs.toArray) p w) :
 Calls Try.prog 85 #[.slice A xs.length c, .func (.func g) #[] lb] w fun e w' => e = .returned (.bool (xs.any p)) ∧ Below w.heap.size w w' := by
 have hI := idx_Attr p g lb eg A c xs w hC hcc hp
 have HE := Aside0.mk (firstAt_any p xs 0)
 generalize firstAt p xs 0 = fi at hI HE
 generalize xs.any p = r at HE
 have HI := Aside0.mk hI
 clear hI hp hC eg hcc
 go_enter Try.func85, Try.ntmps85
 go_wp2_with (go_at_call 104; refine HI.out.mono ?_; rintro e w' ⟨rfl, hb'⟩)
 go_ret
 exact ⟨by rw [← HE.out]; rfl, hb'⟩
set_option maxHeartbeats 1000000 in
set_option maxRecDepth 100000 in
theorem any_Edge (p : S39 → Bool) (g : Nat) (lb : Array Value) (eg : ∀ args w, (callFunc g args).run Try.prog w = .ok (.enter g args) w) (A : Option Addr) (c : Nat) (xs : List S39) (w : World)
 (hC : Kd.C k39 w A xs.length xs) (hcc : xs.length ≤ c) (hp : PredK k39 Try.prog g lb (fun cs => .agg cs.toArray) p w) :
 Calls Try.prog 95 #[.slice A xs.length c, .func (.func g) #[] lb] w fun e w' => e = .returned (.bool (xs.any p)) ∧ Below w.heap.size w w' := by
 have hI := idx_Edge p g lb eg A c xs w hC hcc hp
 have HE := Aside0.mk (firstAt_any p xs 0)
 generalize firstAt p xs 0 = fi at hI HE
 generalize xs.any p = r at HE
 have HI := Aside0.mk hI
 clear hI hp hC eg hcc
 go_enter Try.func95, Try.ntmps95
 go_wp2_with (go_at_call 108; refine HI.out.mono ?_; rintro e w' ⟨rfl, hb'⟩)
 go_ret
 exact ⟨by rw [← HE.out]; rfl, hb'⟩
set_option maxHeartbeats 1000000 in
set_option maxRecDepth 100000 in
theorem any_Count (p : S88 → Bool) (g : Nat) (lb : Array Value) (eg : ∀ args w, (callFunc g args).run Try.prog w = .ok (.enter g args) w) (A : Option Addr) (c : Nat) (xs : List S88) (w : World)
 (hC : Kd.C k88 w A xs.length xs) (hcc : xs.length ≤ c) (hp : PredK k88 Try.prog g lb (fun cs => .agg cs.toArray) p w) :
 Calls Try.prog 101 #[.slice A xs.length c, .func (.func g) #[] lb] w fun e w' => e = .returned (.bool (xs.any p)) ∧ Below w.heap.size w w' := by
 have hI := idx_Count p g lb eg A c xs w hC hcc hp
 have HE := Aside0.mk (firstAt_any p xs 0)
 generalize firstAt p xs 0 = fi at hI HE
 generalize xs.any p = r at HE
 have HI := Aside0.mk hI
 clear hI hp hC eg hcc
 go_enter Try.func101, Try.ntmps101
 go_wp2_with (go_at_call 110; refine HI.out.mono ?_; rintro e w' ⟨rfl, hb'⟩)
 go_ret
 exact ⟨by rw [← HE.out]; rfl, hb'⟩
def any_node.f (l0 : List S68) (a0 : ByteArray) : Option Bool := some (l0.any fun m => m.f0.toList == a0.toList)
set_option maxHeartbeats 1000000 in
set_option maxRecDepth 100000 in
theorem any_node.pred (g : Nat) (a0 : ByteArray) {v1 v2 v3 : Value} (w : World) (hb : w.heap[g]? = some (.cells #[.string a0, v1, v2, v3] 68 (0, 0))) :
 PredK k68 Try.prog 61 #[.pointer (some ⟨g, 0, none⟩)] (fun cs => .agg cs.toArray) (fun m => m.f0.toList == a0.toList) w := by
 intro W x cs hB hK
 have hb' := blk_below hb hB
 have hc : W.cell? ⟨g, 0, none⟩ = some (.string a0) := (blk_cell hb' 0).trans rfl
 have hg : g < W.heap.size := blk_lt hb'
 clear hb hb' hB
 obtain ⟨A3, c3, rfl, hlA3, hiA3⟩ := k68_open hK
 show Calls Try.prog 61 #[.agg #[.string x.f0, .int .i64 x.f1, .bool x.f2, .slice A3 x.f3.length c3], .pointer (some ⟨g, 0, none⟩)] W _
 have hu := Try.underlying68
 go_enter Try.func61, Try.ntmps61
 go_wp2
 go_ret
 exact ⟨rfl, (Below.refl _ _).alloc (Nat.le_refl _) _⟩
set_option maxHeartbeats 1000000 in
theorem any_node.calls (A0 : Option Addr) (c0 : Nat) (l0 : List S68) (g : Nat) (a0 : ByteArray) (v1 v2 v3 : Value) (r : Bool) (w : World) (hr0 : Kd.C k68 w A0 l0.length l0) (hc0 : l0.length ≤ c0)
 (hb : w.heap[g]? = some (.cells #[.string a0, v1, v2, v3] 68 (0, 0))) (h : any_node.f l0 a0 = some r) :
 Calls Try.prog 60 #[.slice A0 l0.length c0, .func (.func 61) #[] #[.pointer (some ⟨g, 0, none⟩)]] w fun e w' => e = .returned (.bool r) ∧ Below w.heap.size w w' := by
 obtain rfl := Option.some.inj h
 exact any_NodeType _ _ _ (enters_of Try.func61 (by kernel_rfl) rfl) A0 c0 l0 w hr0 hc0 (any_node.pred g a0 w hb)
def any_edge.f (l0 : List S71) (a0 : ByteArray) : Option Bool := some (l0.any fun m => m.f0.toList == a0.toList)
set_option maxHeartbeats 1000000 in
set_option maxRecDepth 100000 in
theorem any_edge.pred (g : Nat) (a0 : ByteArray) {v1 v2 v3 v4 v5 v6 : Value} (w : World) (hb : w.heap[g]? = some (.cells #[.string a0, v1, v2, v3, v4, v5, v6] 71 (0, 0))) :
 PredK k71 Try.prog 65 #[.pointer (some ⟨g, 0, none⟩)] (fun cs => .agg cs.toArray) (fun m => m.f0.toList == a0.toList) w := by
 intro W x cs hB hK
 have hb' := blk_below hb hB
 have hc : W.cell? ⟨g, 0, none⟩ = some (.string a0) := (blk_cell hb' 0).trans rfl
 have hg : g < W.heap.size := blk_lt hb'
 clear hb hb' hB
 obtain rfl := k71_open hK
 show Calls Try.prog 65 #[.agg #[.string x.f0, .int .i64 x.f1, .int .i64 x.f2, .int .i64 x.f3, .int .i64 x.f4, .int .i64 x.f5, .int .i64 x.f6], .pointer (some ⟨g, 0, none⟩)] W _
 have hu := Try.underlying71
 go_enter Try.func65, Try.ntmps65
 go_wp2
 go_ret
 exact ⟨rfl, (Below.refl _ _).alloc (Nat.le_refl _) _⟩
set_option maxHeartbeats 1000000 in
theorem any_edge.calls (A0 : Option Addr) (c0 : Nat) (l0 : List S71) (g : Nat) (a0 : ByteArray) (v1 v2 v3 v4 v5 v6 : Value) (r : Bool) (w : World) (hr0 : Kd.C k71 w A0 l0.length l0) (hc0 : l0.length ≤ c0)
 (hb : w.heap[g]? = some (.cells #[.string a0, v1, v2, v3, v4, v5, v6] 71 (0, 0))) (h : any_edge.f l0 a0 = some r) :
 Calls Try.prog 64 #[.slice A0 l0.length c0, .func (.func 65) #[] #[.pointer (some ⟨g, 0, none⟩)]] w fun e w' => e = .returned (.bool r) ∧ Below w.heap.size w w' := by
 obtain rfl := Option.some.inj h
 exact any_EdgeType _ _ _ (enters_of Try.func65 (by kernel_rfl) rfl) A0 c0 l0 w hr0 hc0 (any_edge.pred g a0 w hb)
def any_attr.f (l0 : List S77) (a0 : ByteArray) : Option Bool := some (l0.any fun m => m.f0.toList == a0.toList)
set_option maxHeartbeats 1000000 in
set_option maxRecDepth 100000 in
theorem any_attr.pred (g : Nat) (a0 : ByteArray) {v1 v2 v3 : Value} (w : World) (hb : w.heap[g]? = some (.cells #[.string a0, v1, v2, v3] 77 (0, 0))) :
 PredK k77 Try.prog 86 #[.pointer (some ⟨g, 0, none⟩)] (fun cs => .agg cs.toArray) (fun m => m.f0.toList == a0.toList) w := by
 intro W x cs hB hK
 have hb' := blk_below hb hB
 have hc : W.cell? ⟨g, 0, none⟩ = some (.string a0) := (blk_cell hb' 0).trans rfl
 have hg : g < W.heap.size := blk_lt hb'
 clear hb hb' hB
 obtain ⟨A3, c3, rfl, hlA3, hiA3⟩ := k77_open hK
 show Calls Try.prog 86 #[.agg #[.string x.f0, .int .i64 x.f1, .int .i64 x.f2, .slice A3 x.f3.length c3], .pointer (some ⟨g, 0, none⟩)] W _
 have hu := Try.underlying77
 go_enter Try.func86, Try.ntmps86
 go_wp2
 go_ret
 exact ⟨rfl, (Below.refl _ _).alloc (Nat.le_refl _) _⟩
set_option maxHeartbeats 1000000 in
theorem any_attr.calls (A0 : Option Addr) (c0 : Nat) (l0 : List S77) (g : Nat) (a0 : ByteArray) (v1 v2 v3 : Value) (r : Bool) (w : World) (hr0 : Kd.C k77 w A0 l0.length l0) (hc0 : l0.length ≤ c0)
 (hb : w.heap[g]? = some (.cells #[.string a0, v1, v2, v3] 77 (0, 0))) (h : any_attr.f l0 a0 = some r) :
 Calls Try.prog 85 #[.slice A0 l0.length c0, .func (.func 86) #[] #[.pointer (some ⟨g, 0, none⟩)]] w fun e w' => e = .returned (.bool r) ∧ Below w.heap.size w w' := by
 obtain rfl := Option.some.inj h
 exact any_Attr _ _ _ (enters_of Try.func86 (by kernel_rfl) rfl) A0 c0 l0 w hr0 hc0 (any_attr.pred g a0 w hb)
def any_given.f (l0 : List Int) (l1 : List S68) : Option Bool := some (l0.any fun a => decide (a < 0) || decide ((l1.length : Int) ≤ a))
set_option maxHeartbeats 1000000 in
set_option maxRecDepth 100000 in
theorem any_given.pred (g : Nat) (A1 : Option Addr) (c1 : Nat) (n : Nat) {v1 : Value} (w : World) (hb : w.heap[g]? = some (.cells #[.slice A1 n c1, v1] 25 (0, 0))) :
 PredK (Kd.int .i64) Try.prog 71 #[.pointer (some ⟨g, 0, none⟩)] (fun cs => cs.headD (.int .i64 0)) (fun a => decide (a < 0) || decide ((n : Int) ≤ a)) w := by
 intro W x cs hB hK
 have hb' := blk_below hb hB
 have hc : W.cell? ⟨g, 0, none⟩ = some (.slice A1 n c1) := (blk_cell hb' 0).trans rfl
 clear hb hb' hB
 obtain rfl : cs = [.int .i64 x] := hK
 show Calls Try.prog 71 #[.int .i64 x, .pointer (some ⟨g, 0, none⟩)] W _
 have hu := Try.underlying25
 by_cases h : x < 0
 · have hd : decide (x < 0) = true := decide_eq_true h
   have HD := Aside0.mk hd
   go_enter Try.func71, Try.ntmps71
   go_wp2
   go_ret
   exact ⟨by first | rfl | (rw [HD.out]; rfl), Below.refl _ _⟩
 · have hd : decide (x < 0) = false := decide_eq_false h
   have HD := Aside0.mk hd
   go_enter Try.func71, Try.ntmps71
   go_wp2
   go_ret
   exact ⟨by first | rfl | (rw [HD.out]; rfl), Below.refl _ _⟩
set_option maxHeartbeats 1000000 in
theorem any_given.calls (A0 : Option Addr) (c0 : Nat) (l0 : List Int) (g : Nat) (A1 : Option Addr) (c1 : Nat) (l1 : List S68) (v1 : Value) (r : Bool) (w : World) (hr0 : Kd.C (Kd.int .i64) w A0 l0.length l0) (hc0 : l0.length ≤ c0)
 (hb : w.heap[g]? = some (.cells #[.slice A1 l1.length c1, v1] 25 (0, 0))) (h : any_given.f l0 l1 = some r) :
 Calls Try.prog 70 #[.slice A0 l0.length c0, .func (.func 71) #[] #[.pointer (some ⟨g, 0, none⟩)]] w fun e w' => e = .returned (.bool r) ∧ Below w.heap.size w w' := by
 obtain rfl := Option.some.inj h
 exact any_int _ _ _ (enters_of Try.func71 (by kernel_rfl) rfl) A0 c0 l0 w hr0 hc0 (any_given.pred g A1 c1 l1.length w hb)
def edge_inside.f (a0 : Int) (l1 : List S68) : Option Bool := some (decide (0 ≤ a0) && decide (a0 < (l1.length : Int)))
set_option maxHeartbeats 1000000 in
set_option maxRecDepth 100000 in
theorem edge_inside.calls (a0 : Int) (g : Nat) (A1 : Option Addr) (c1 : Nat) (l1 : List S68) (v1 : Value) (r : Bool) (w : World)
 (hb : w.heap[g]? = some (.cells #[.slice A1 l1.length c1, v1] 25 (0, 0))) (h : edge_inside.f a0 l1 = some r) :
 Calls Try.prog 63 #[.int .i64 a0, .pointer (some ⟨g, 0, none⟩)] w fun e w' => e = .returned (.bool r) ∧ Drawn0 w w' := by
 obtain rfl := Option.some.inj h
 have hc : w.cell? ⟨g, 0, none⟩ = some (.slice A1 l1.length c1) := (blk_cell hb 0).trans rfl
 clear hb h
 generalize l1.length = n at *
 have hu := Try.underlying25
 by_cases h : 0 ≤ a0
 · have hd : decide (0 ≤ a0) = true := decide_eq_true h
   have HD := Aside0.mk hd
   go_enter Try.func63, Try.ntmps63
   go_wp2
   go_ret
   exact ⟨by first | rfl | (rw [HD.out]; rfl), Drawn0.refl _⟩
 · have hd : decide (0 ≤ a0) = false := decide_eq_false h
   have HD := Aside0.mk hd
   go_enter Try.func63, Try.ntmps63
   go_wp2
   go_ret
   exact ⟨by first | rfl | (rw [HD.out]; rfl), Drawn0.refl _⟩
def runOf (p : Int → Bool) : List UInt8 → Nat
 | [] => 0
 | b :: l => if p (b.toNat : Int) then runOf p l + 1 else 0
theorem runOf_le (p : Int → Bool) : ∀ l, runOf p l ≤ l.length
 | [] => Nat.le_refl _
 | b :: l => by
  unfold runOf
  split
  · exact Nat.succ_le_succ (runOf_le p l)
  · exact Nat.zero_le _
theorem runOf_stop (p : Int → Bool) : ∀ (l : List UInt8) (k : Nat) (hk : k < l.length), (∀ j (hj : j < l.length), j < k → p (l[j].toNat : Int) = true) → p (l[k].toNat : Int) = false → runOf p l = k
 | b :: l, 0, _, _, h => by
  have : p (b.toNat : Int) = false := h
  simp [runOf, this]
 | b :: l, k + 1, hk, ha, h => by
  have h0 : p (b.toNat : Int) = true := ha 0 (Nat.succ_pos _) (Nat.succ_pos _)
  simp only [runOf, h0, if_true]
  rw [runOf_stop p l k (Nat.lt_of_succ_lt_succ hk) (fun j hj hjk => ha (j + 1) (Nat.succ_lt_succ hj) (Nat.succ_lt_succ hjk)) h]
theorem runOf_all (p : Int → Bool) : ∀ (l : List UInt8), (∀ j (hj : j < l.length), p (l[j].toNat : Int) = true) → runOf p l = l.length
 | [], _ => rfl
 | b :: l, ha => by
  have h0 : p (b.toNat : Int) = true := ha 0 (Nat.succ_pos _)
  simp only [runOf, h0, if_true, List.length_cons]
  rw [runOf_all p l (fun j hj => ha (j + 1) (Nat.succ_lt_succ hj))]
set_option maxHeartbeats 4000000 in
set_option maxRecDepth 100000 in
theorem run_any (p : Int → Bool) (g : Nat) (eg : ∀ args w, (callFunc g args).run Try.prog w = .ok (.enter g args) w) (s : ByteArray) (hs : s.size ≤ 9223372036854775807) (w : World)
 (hp : ∀ (W : World) (x : Int), Calls Try.prog g #[.int .u8 x] W fun e w' => e = .returned (.bool (p x)) ∧ Drawn0 W w') :
 Calls Try.prog 112 #[.string s, .func (.func g) #[] #[]] w fun e w' => e = .returned (.int .i64 (runOf p s.data.toList : Int)) ∧ Drawn0 w w' := by
 have hsl : s.data.toList.length = s.size := data_length s
 have HSL := Aside0.mk hsl
 have HP := Aside0.mk hp
 clear hp hsl
 go_enter Try.func112, Try.ntmps112
 go_wp2
 go_loopg [5] s.size (fun gg s5 wr => ∃ kk : Nat, kk ≤ s.size ∧ s.size - kk ≤ gg ∧ s5 = .int .i64 kk ∧ Aside0 (Drawn0 w wr) ∧ Aside0 (∀ j (hj : j < s.data.toList.length), j < kk → p (s.data.toList[j].toNat : Int) = true))
 case atStart => exact ⟨0, Nat.zero_le _, by omega, rfl, ⟨Drawn0.refl w⟩, ⟨fun j _ hj => absurd hj (Nat.not_lt_zero _)⟩⟩
 case round =>
  obtain ⟨kk, hkk, hg, rfl, BW, AS⟩ := hrel
  by_cases hlt : kk < s.size
  · have hltz : (kk : Int) < (s.size : Int) := by omega
    have hk' : kk < s.data.toList.length := by rw [HSL.out]; exact hlt
    have hcall := HP.out
    have HG := Aside0.mk (show (s[kk].toNat : Int) = (s.data.toList[kk].toNat : Int) from rfl)
    cases hq : p (s[kk].toNat : Int) with
    | true =>
     have HQ := Aside0.mk hq
     clear hq
     replace hcall := fun W => (hcall W (s[kk].toNat : Int)).mono (R' := fun e w' => e = .returned (.bool true) ∧ Drawn0 W w') (fun e w' hh => ⟨hh.1.trans (by rw [HQ.out]), hh.2⟩)
     have HC := Aside0.mk hcall
     clear hcall
     go_wp2_with (go_at_fn g; refine (HC.out _).mono ?_; rintro e w' ⟨rfl, ⟨nd, rfl⟩⟩)
     go_roundg (s.size - (kk + 1))
     case measure => omega
     case rel =>
      refine ⟨kk + 1, by omega, by omega, by go_num, ⟨BW.out.step nd⟩, ⟨fun j hj hjk => ?_⟩⟩
      by_cases e : j = kk
      · subst e; exact HQ.out
      · exact AS.out j hj (by omega)
    | false =>
     have HQ := Aside0.mk hq
     clear hq
     replace hcall := fun W => (hcall W (s[kk].toNat : Int)).mono (R' := fun e w' => e = .returned (.bool false) ∧ Drawn0 W w') (fun e w' hh => ⟨hh.1.trans (by rw [HQ.out]), hh.2⟩)
     have HC := Aside0.mk hcall
     clear hcall
     go_wp2_with (go_at_fn g; refine (HC.out _).mono ?_; rintro e w' ⟨rfl, ⟨nd, rfl⟩⟩)
     go_ret
     refine ⟨?_, BW.out.step nd⟩
     rw [runOf_stop p s.data.toList kk hk' AS.out HQ.out]
     rfl
  · have hltz : ¬ (kk : Int) < (s.size : Int) := by omega
    go_wp2
    go_ret
    refine ⟨?_, BW.out⟩
    rw [runOf_all p s.data.toList (fun j hj => AS.out j hj (by have := HSL.out; omega)), HSL.out]
    have hke : kk = s.size := by omega
    subst hke
    rfl
def letterB (x : Int) : Bool := (decide (97 ≤ x) && decide (x ≤ 122)) || (decide (65 ≤ x) && decide (x ≤ 90))
def digitB (x : Int) : Bool := decide (48 ≤ x) && decide (x ≤ 57)
def partB (x : Int) : Bool := letterB x || digitB x || (x == 95)
def quoteB (x : Int) : Bool := decide (32 ≤ x) && decide (x ≤ 126) && !decide (x = 34)
set_option maxHeartbeats 4000000 in
set_option maxRecDepth 100000 in
theorem letterB.walk (W : World) (x : Int) : Calls Try.prog 111 #[.int .u8 x] W fun e w' => e = .returned (.bool (letterB x)) ∧ Drawn0 W w' := by
 by_cases h0 : 97 ≤ x <;>
 by_cases h1 : x ≤ 122 <;>
 by_cases h2 : 65 ≤ x <;>
 by_cases h3 : x ≤ 90 <;>
 (go_enter Try.func111, Try.ntmps111
  go_wp2
  go_ret
  refine ⟨congrArg (fun b => Ending.returned (Value.bool b)) (?_ : _ = _), Drawn0.refl _⟩
  simp [letterB, *])
set_option maxHeartbeats 4000000 in
set_option maxRecDepth 100000 in
theorem digitB.walk (W : World) (x : Int) : Calls Try.prog 114 #[.int .u8 x] W fun e w' => e = .returned (.bool (digitB x)) ∧ Drawn0 W w' := by
 by_cases h0 : 48 ≤ x <;>
 by_cases h1 : x ≤ 57 <;>
 (go_enter Try.func114, Try.ntmps114
  go_wp2
  go_ret
  refine ⟨congrArg (fun b => Ending.returned (Value.bool b)) (?_ : _ = _), Drawn0.refl _⟩
  simp [digitB, *])
set_option maxHeartbeats 4000000 in
set_option maxRecDepth 100000 in
theorem quoteB.walk (W : World) (x : Int) : Calls Try.prog 125 #[.int .u8 x] W fun e w' => e = .returned (.bool (quoteB x)) ∧ Drawn0 W w' := by
 by_cases h0 : 32 ≤ x <;>
 by_cases h1 : x ≤ 126 <;>
 by_cases h2 : x = 34 <;>
 (go_enter Try.func125, Try.ntmps125
  go_wp2
  go_ret
  refine ⟨congrArg (fun b => Ending.returned (Value.bool b)) (?_ : _ = _), Drawn0.refl _⟩
  simp [quoteB, *])
set_option maxHeartbeats 4000000 in
set_option maxRecDepth 100000 in
theorem partB.walk (W : World) (x : Int) : Calls Try.prog 113 #[.int .u8 x] W fun e w' => e = .returned (.bool (partB x)) ∧ Drawn0 W w' := by
 have HL := Aside0.mk (fun W => letterB.walk W x)
 have HD := Aside0.mk (fun W => digitB.walk W x)
 unfold partB
 generalize letterB x = l at *
 generalize digitB x = d at *
 cases l <;> cases d <;> cases hx : (x == (95 : Int)) <;>
 (go_enter Try.func113, Try.ntmps113
  go_wp2_with (first | (go_at_call 111; refine (HL.out _).mono ?_; rintro e w' ⟨rfl, ⟨n1, rfl⟩⟩) | (go_at_call 114; refine (HD.out _).mono ?_; rintro e w' ⟨rfl, ⟨n2, rfl⟩⟩))
  go_ret
  refine ⟨congrArg (fun b => Ending.returned (Value.bool b)) (?_ : _ = _), by repeat (first | exact Drawn0.refl _ | apply Drawn0.step)⟩
  simp [*])
def token_run_part.f (a0 : ByteArray) : Option Int := if a0.size ≤ 9223372036854775807 then some (runOf partB a0.data.toList : Int) else none
theorem token_run_part.calls (a0 : ByteArray) (r : Int) (w : World) (h : token_run_part.f a0 = some r) :
 Calls Try.prog 112 #[.string a0, .func (.func 113) #[] #[]] w fun e w' => e = .returned (.int .i64 r) ∧ Drawn0 w w' := by
 unfold token_run_part.f at h
 split at h
 · obtain rfl := Option.some.inj h
   rename_i hs
   exact run_any partB 113 (enters_of Try.func113 (by kernel_rfl) rfl) a0 hs w partB.walk
 · cases h
def token_run_digit.f (a0 : ByteArray) : Option Int := if a0.size ≤ 9223372036854775807 then some (runOf digitB a0.data.toList : Int) else none
theorem token_run_digit.calls (a0 : ByteArray) (r : Int) (w : World) (h : token_run_digit.f a0 = some r) :
 Calls Try.prog 112 #[.string a0, .func (.func 114) #[] #[]] w fun e w' => e = .returned (.int .i64 r) ∧ Drawn0 w w' := by
 unfold token_run_digit.f at h
 split at h
 · obtain rfl := Option.some.inj h
   rename_i hs
   exact run_any digitB 114 (enters_of Try.func114 (by kernel_rfl) rfl) a0 hs w digitB.walk
 · cases h
def token_run_quoted.f (a0 : ByteArray) : Option Int := if a0.size ≤ 9223372036854775807 then some (runOf quoteB a0.data.toList : Int) else none
theorem token_run_quoted.calls (a0 : ByteArray) (r : Int) (w : World) (h : token_run_quoted.f a0 = some r) :
 Calls Try.prog 112 #[.string a0, .func (.func 125) #[] #[]] w fun e w' => e = .returned (.int .i64 r) ∧ Drawn0 w w' := by
 unfold token_run_quoted.f at h
 split at h
 · obtain rfl := Option.some.inj h
   rename_i hs
   exact run_any quoteB 125 (enters_of Try.func125 (by kernel_rfl) rfl) a0 hs w quoteB.walk
 · cases h
def clone_Count.f (l0 : List S88) : Option (List S88) := if l0.length < 4398046511104 then some l0 else none
set_option maxHeartbeats 4000000 in
set_option maxRecDepth 100000 in
theorem clone_Count.calls (A0 : Option Addr) (c0 : Nat) (l0 : List S88) (r : List S88) (w : World) (hr0 : Kd.C k88 w A0 l0.length l0) (hc0 : l0.length ≤ c0) (h : clone_Count.f l0 = some r) :
 Calls Try.prog 76 #[.slice A0 l0.length c0] w fun e w' => ∃ v0_ : Value, e = .returned v0_ ∧ Kd.R k88 88 w' w.heap.size (fun _ => True) v0_ r ∧ Below w.heap.size w w' := by
 unfold clone_Count.f at h
 split at h
 rotate_left
 · cases h
 obtain rfl := Option.some.inj h
 rename_i hlim
 clear h
 have q : ∀ (w : World) (a : Option Addr) (n c n' c' : Nat), (binOp .eql 62 (.slice a n c) (.slice none n' c')).run Try.prog w = .ok (.bool a.isNone) w := fun w a n c n' c' => Lib.run_eql_slice_nil w _ _ a n c n' c' Try.underlying62
 cases A0 with
 | none =>
  have hl : l0.length = 0 := by
   rcases Nat.eq_zero_or_pos l0.length with hz | hz
   · exact hz
   · obtain ⟨ad, h', _⟩ := hr0.2.2 hz
     cases h'
  obtain rfl : l0 = [] := List.eq_nil_of_length_eq_zero hl
  clear hl hr0 hlim hc0
  go_enter Try.func76, Try.ntmps76
  go_wp2
  go_ret
  exact ⟨_, rfl, Kd.R_nil _ _ _ _ _, Below.refl _ _⟩
 | some ad =>
  have HR := Aside0.mk hr0
  have HL := Aside0.mk hlim
  clear hr0 hlim
  go_enter Try.func76, Try.ntmps76
  go_wp2_with (at_builtin; refine Kd.R_append_rows k88 (w0 := w) w.heap.size rfl _ _ 62 88 (.agg #[(.int .i64 0), (.int .i64 0), (.int .i64 0), (.int .i64 0)]) 32 rfl Try.underlying62 info88 rfl (by decide) (by omega) (.slice (some ⟨w.heap.size, 0, none⟩) 0 0) [] l0 (some ad) l0.length c0 (fun _ => True) (fun _ => False) rfl rfl ?aO (Kd.C_below HR.out ((Below.refl _ w).alloc (Nat.le_refl _) _)) ?aK (fun _ hk => hk.elim) (fun _ _ => trivial) ((Below.refl _ w).alloc (Nat.le_refl _) _) ?aS ?aL ?_)
  case aO => exact ⟨fun _ _ => trivial, [], World.ownsRow_made w #[] 0 (Nat.le_refl _) (Nat.zero_le _) (by simp), rfl, fun j p hj => by simp at hj⟩
  case aK => exact fun x cs hk => by obtain rfl := k88_open hk; exact k88_mkM _ _ _ x
  case aS => simp
  case aL => have := HL.out; simp; omega
  intro v1 w1 hR hB hg hat
  have HR1 := Aside0.mk hR
  have HB1 := Aside0.mk hB
  clear hR hB hg hat
  go_wp2
  go_ret
  exact ⟨_, rfl, HR1.out, HB1.out⟩
end Go.Proofs.Ytfpianecohobjaa.P
