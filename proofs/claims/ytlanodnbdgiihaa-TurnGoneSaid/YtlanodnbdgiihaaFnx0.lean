-- Written by program (a turned copy of the kit's print) for this seat: functions, contracts. Lean checks it.
import Derived.Test.YtlanodnbdgiihaaProg
import Derived.Below
import Derived.Deep.Draws
import Derived.Deep.AppendLies
import Derived.Maps.AppendAt
import Derived.OwnWalk
import Derived.Laws.BytesArg
import Derived.Laws.MakeOwn
import Derived.Laws.OwnMore
import Derived.Deep.OwnRows
import Derived.Tactics
import Derived.Lib.ConvBytes
import Derived.Laws.Slices
import Derived.WalkKit
import Derived.KernelRfl
import Derived.RowKit3
import Derived.Deep.LoopGhost
import Derived.Deep.QuietTactic
import Derived.BigQuiet
import Derived.WideLaws
import Derived.Deep.DeepCutAuto
import Derived.Deep.CutBlock
import Derived.Deep.RegionHeld3
import Derived.Laws.Rows
import Derived.Lib.AppendStr
import Derived.ArgAppend
import Derived.Laws.IdiomCopy
import Derived.OrdersHeld
import Derived.Lib.SliceRun
import Derived.Laws.BitsLemmas
import Derived.RowKit
import Derived.Test.YtlanodnbdgiihaaWWords
import Derived.Test.YtlanodnbdgiihaaWLast
import Derived.Test.YtlanodnbdgiihaaWTab
import Derived.Test.YtlanodnbdgiihaaWFour
import Derived.Test.YtlanodnbdgiihaaWQPut
import Derived.Test.YtlanodnbdgiihaaWApart
import Derived.Test.YtlanodnbdgiihaaWArr
import Derived.Test.YtlanodnbdgiihaaWZeros
import Derived.Test.YtlanodnbdgiihaaWFoot
import Derived.Test.YtlanodnbdgiihaaWKept
import Derived.Test.YtlanodnbdgiihaaWShare
import Derived.Test.YtlanodnbdgiihaaWN
import Derived.Test.YtlanodnbdgiihaaWFootNe
import Derived.Test.YtlanodnbdgiihaaWAt
import Derived.Test.YtlanodnbdgiihaaWEqStruct
import Derived.Test.YtlanodnbdgiihaaWRepsOne
import Derived.Test.YtlanodnbdgiihaaWInv
import Derived.Test.YtlanodnbdgiihaaWInvWords
import Derived.Test.YtlanodnbdgiihaaWGuard
import Derived.Test.YtlanodnbdgiihaaWNEv
import Derived.Test.YtlanodnbdgiihaaWMore
import Derived.Test.YtlanodnbdgiihaaAid
namespace Go.Proofs.Ytlanodnbdgiihaa.Fn
open Go.RowKit Go.Proofs.YtlanodnbdgiihaaW.PrintWords Go.Proofs.YtlanodnbdgiihaaW.PrintLast Go.Proofs.YtlanodnbdgiihaaW.PrintMore
attribute [local go_sem] max2_int min2_int max_two min_two max_three min_three max_four min_four   -- for this text's walks alone
set_option linter.unusedVariables false
set_option linter.unusedSimpArgs false



def errW : Option Int → Value
  | none => .nilIface
  | some c => .iface 0 (.int .i64 c)
theorem errW_none : errW none = .nilIface := rfl
theorem errW_some (c : Int) : errW (some c) = .iface 0 (.int .i64 c) := rfl

theorem info3 : (Try.prog.info? 3).map (fun i => (i.zero, i.size, i.bytes)) = some (some (.int .i64 0), 1, 8) := by kernel_rfl
-- the values' own types
/-! #### struct type 23 -/
structure S23 where
  f0 : ByteArray
  f1 : Int
def z23 : S23 := ⟨(⟨#[]⟩ : ByteArray), (0 : Int)⟩
def k23 : Kd S23 := Kd.iso (Kd.pair Kd.string (Kd.int .i64)) (fun x : S23 => (x.f0, x.f1))
theorem k23_heap : Kd.Heap k23 := Kd.heap_iso _ (Kd.heap_pair Kd.heap_string (Kd.heap_int .i64))
theorem k23_open {w : World} {x : S23} {cs : List Value} (h : k23.K w x cs) : cs = [.string x.f0, .int .i64 x.f1] := by
  obtain ⟨_, _, rfl, rfl, rfl⟩ := h
  exact rfl
theorem k23_openM {w : World} {base : Nat} {ok : Nat → Prop} {x : S23} {cs : List Value} (h : k23.M w base ok x cs) : cs = [.string x.f0, .int .i64 x.f1] := by
  obtain ⟨_, _, rfl, rfl, rfl⟩ := h
  exact rfl
theorem k23_mk (w : World) (x : S23)  : k23.K w x [.string x.f0, .int .i64 x.f1] := ⟨[.string x.f0], [.int .i64 x.f1], rfl, rfl, rfl⟩
theorem k23_mkM (w : World) (base : Nat) (ok : Nat → Prop) (x : S23)  : k23.M w base ok x [.string x.f0, .int .i64 x.f1] := ⟨[.string x.f0], [.int .i64 x.f1], rfl, rfl, rfl⟩
theorem k23_mkF (W : World) (ok : Nat → Prop) (x : S23) : Kd.FK k23 W ok x [.string x.f0, .int .i64 x.f1] := fun W2 _ => k23_mk W2 x
def rd_T23 (xs : List S23) (i : Int) : S23 := xs.getD i.toNat z23
theorem at_T23 {w : World} {A : Option Addr} {n : Nat} {xs : List S23} (h : Kd.C k23 w A n xs) (i : Int) (h0 : 0 ≤ i) (h1 : i < n) : ∃ ad , A = some ad ∧ w.cell? (ad.add (i.toNat * 2)) = some (.string (rd_T23 xs i).f0) ∧ w.cell? ⟨(ad.add (i.toNat * 2)).block, (ad.add (i.toNat * 2)).off + 1, none⟩ = some (.int .i64 (rd_T23 xs i).f1) := by
  obtain ⟨ad, c, e, _, hK, hc0⟩ := Kd.C_get h z23 i h0 h1
  have hc : ∀ j u, c[j]? = some u → w.cell? (ad.add (i.toNat * 2 + j)) = some u := hc0
  obtain rfl := k23_open hK
  exact ⟨ad, e, hc 0 _ rfl, by rw [← add_field _ _ 1 (by omega)]; exact hc 1 _ rfl⟩

def rd_L3 (xs : List (List Int)) (i : Int) : (List Int) := xs.getD i.toNat ([] : List Int)
theorem at_L3 {w : World} {A : Option Addr} {n : Nat} {xs : List (List Int)} (h : Kd.C (Kd.slice 3 (Kd.int .i64)) w A n xs) (i : Int) (h0 : 0 ≤ i) (h1 : i < n) : ∃ ad A0 c0, A = some ad ∧ w.cell? (ad.add i.toNat) = some (.slice A0 (rd_L3 xs i).length c0) ∧ (rd_L3 xs i).length ≤ c0 ∧ (Kd.int .i64).C w A0 (rd_L3 xs i).length (rd_L3 xs i) := by
  obtain ⟨ad, c, e, _, hK, hc0⟩ := Kd.C_get h ([] : List Int) i h0 h1
  have hc : ∀ j u, c[j]? = some u → w.cell? (ad.add (i.toNat * 1 + j)) = some u := hc0
  obtain ⟨A0, c0, rfl, l0, g0⟩ := hK
  exact ⟨ad, A0, c0, e, by have hq := hc 0 _ rfl; rwa [Nat.mul_one, Nat.add_zero] at hq, l0, g0⟩

/-! #### struct type 45 -/
structure S45 where
  f0 : S23
  f1 : ByteArray
  f2 : ByteArray
  f3 : (List Int)
def z45 : S45 := ⟨z23, (⟨#[]⟩ : ByteArray), (⟨#[]⟩ : ByteArray), ([] : List Int)⟩
def k45 : Kd S45 := Kd.iso (Kd.pair k23 (Kd.pair Kd.string (Kd.pair Kd.string (Kd.slice 3 (Kd.int .i64))))) (fun x : S45 => (x.f0, x.f1, x.f2, x.f3))
theorem k45_heap : Kd.Heap k45 := Kd.heap_iso _ (Kd.heap_pair k23_heap (Kd.heap_pair Kd.heap_string (Kd.heap_pair Kd.heap_string (Kd.heap_slice 3 (Kd.heap_int .i64)))))
theorem k45_open {w : World} {x : S45} {cs : List Value} (h : k45.K w x cs) : ∃ A4 c4, cs = [.string x.f0.f0, .int .i64 x.f0.f1, .string x.f1, .string x.f2, .slice A4 x.f3.length c4] ∧ x.f3.length ≤ c4 ∧ (Kd.int .i64).C w A4 x.f3.length x.f3 := by
  obtain ⟨_, _, rfl, s0, ⟨_, _, rfl, rfl, ⟨_, _, rfl, rfl, ⟨A4, c4, rfl, l4, g4⟩⟩⟩⟩ := h
  obtain rfl := k23_open s0
  exact ⟨A4, c4, rfl, l4, g4⟩
theorem k45_openM {w : World} {base : Nat} {ok : Nat → Prop} {x : S45} {cs : List Value} (h : k45.M w base ok x cs) : ∃ v4, cs = [.string x.f0.f0, .int .i64 x.f0.f1, .string x.f1, .string x.f2, v4] ∧ (Kd.int .i64).R 3 w base ok v4 x.f3 := by
  obtain ⟨_, _, rfl, s0, ⟨_, _, rfl, rfl, ⟨_, _, rfl, rfl, ⟨v4, rfl, g4⟩⟩⟩⟩ := h
  obtain rfl := k23_openM s0
  exact ⟨v4, rfl, g4⟩
theorem k45_mk (w : World) (x : S45) {A4 : Option Addr} {c4 : Nat} (l4 : x.f3.length ≤ c4) (g4 : (Kd.int .i64).C w A4 x.f3.length x.f3) : k45.K w x [.string x.f0.f0, .int .i64 x.f0.f1, .string x.f1, .string x.f2, .slice A4 x.f3.length c4] := ⟨[.string x.f0.f0, .int .i64 x.f0.f1], [.string x.f1, .string x.f2, .slice A4 x.f3.length c4], rfl, (k23_mk w x.f0 ), ⟨[.string x.f1], [.string x.f2, .slice A4 x.f3.length c4], rfl, rfl, ⟨[.string x.f2], [.slice A4 x.f3.length c4], rfl, rfl, ⟨A4, c4, rfl, l4, g4⟩⟩⟩⟩
theorem k45_mkM (w : World) (base : Nat) (ok : Nat → Prop) (x : S45) {v4 : Value} (g4 : (Kd.int .i64).R 3 w base ok v4 x.f3) : k45.M w base ok x [.string x.f0.f0, .int .i64 x.f0.f1, .string x.f1, .string x.f2, v4] := ⟨[.string x.f0.f0, .int .i64 x.f0.f1], [.string x.f1, .string x.f2, v4], rfl, (k23_mkM w base ok x.f0 ), ⟨[.string x.f1], [.string x.f2, v4], rfl, rfl, ⟨[.string x.f2], [v4], rfl, rfl, ⟨v4, rfl, g4⟩⟩⟩⟩
theorem k45_openF {W : World} {ok : Nat → Prop} {x : S45} {cs : List Value} (h : Kd.FK k45 W ok x cs) : ∃ A4 c4, cs = [.string x.f0.f0, .int .i64 x.f0.f1, .string x.f1, .string x.f2, .slice A4 x.f3.length c4] ∧ x.f3.length ≤ c4 ∧ Kd.F (Kd.int .i64) W ok A4 x.f3.length x.f3 := by
  obtain ⟨A4, c4, rfl, l4, _⟩ := k45_open (Kd.FK_now h)
  exact ⟨A4, c4, rfl, l4, (fun W' hW => by obtain ⟨A4_, c4_, he, l4_, g4_⟩ := k45_open (h W' hW); injection (Option.some.inj (show some (Value.slice A4 x.f3.length c4) = some (Value.slice A4_ x.f3.length c4_) from congrArg (fun l => l[4]?) he)) with ha_ _ _; rw [ha_]; exact g4_)⟩
theorem k45_mkF (W : World) (ok : Nat → Prop) (x : S45) {A4 : Option Addr} {c4 : Nat} (l4 : x.f3.length ≤ c4) (g4 : Kd.F (Kd.int .i64) W ok A4 x.f3.length x.f3) : Kd.FK k45 W ok x [.string x.f0.f0, .int .i64 x.f0.f1, .string x.f1, .string x.f2, .slice A4 x.f3.length c4] := fun W2 hW => k45_mk W2 x l4 (g4 W2 hW)
def rd_T45 (xs : List S45) (i : Int) : S45 := xs.getD i.toNat z45
theorem at_T45 {w : World} {A : Option Addr} {n : Nat} {xs : List S45} (h : Kd.C k45 w A n xs) (i : Int) (h0 : 0 ≤ i) (h1 : i < n) : ∃ ad A4 c4, A = some ad ∧ w.cell? (ad.add (i.toNat * 5)) = some (.string (rd_T45 xs i).f0.f0) ∧ w.cell? ⟨(ad.add (i.toNat * 5)).block, (ad.add (i.toNat * 5)).off + 1, none⟩ = some (.int .i64 (rd_T45 xs i).f0.f1) ∧ w.cell? ⟨(ad.add (i.toNat * 5)).block, (ad.add (i.toNat * 5)).off + 2, none⟩ = some (.string (rd_T45 xs i).f1) ∧ w.cell? ⟨(ad.add (i.toNat * 5)).block, (ad.add (i.toNat * 5)).off + 3, none⟩ = some (.string (rd_T45 xs i).f2) ∧ w.cell? ⟨(ad.add (i.toNat * 5)).block, (ad.add (i.toNat * 5)).off + 4, none⟩ = some (.slice A4 (rd_T45 xs i).f3.length c4) ∧ (rd_T45 xs i).f3.length ≤ c4 ∧ (Kd.int .i64).C w A4 (rd_T45 xs i).f3.length (rd_T45 xs i).f3 := by
  obtain ⟨ad, c, e, _, hK, hc0⟩ := Kd.C_get h z45 i h0 h1
  have hc : ∀ j u, c[j]? = some u → w.cell? (ad.add (i.toNat * 5 + j)) = some u := hc0
  obtain ⟨A4, c4, rfl, l4, g4⟩ := k45_open hK
  exact ⟨ad, A4, c4, e, hc 0 _ rfl, by rw [← add_field _ _ 1 (by omega)]; exact hc 1 _ rfl, by rw [← add_field _ _ 2 (by omega)]; exact hc 2 _ rfl, by rw [← add_field _ _ 3 (by omega)]; exact hc 3 _ rfl, by rw [← add_field _ _ 4 (by omega)]; exact hc 4 _ rfl, l4, g4⟩

/-! #### struct type 49 -/
structure S49 where
  f0 : (List Int)
  f1 : Int
def z49 : S49 := ⟨([] : List Int), (0 : Int)⟩
def k49 : Kd S49 := Kd.iso (Kd.pair (Kd.slice 3 (Kd.int .i64)) (Kd.int .i64)) (fun x : S49 => (x.f0, x.f1))
theorem k49_heap : Kd.Heap k49 := Kd.heap_iso _ (Kd.heap_pair (Kd.heap_slice 3 (Kd.heap_int .i64)) (Kd.heap_int .i64))
theorem k49_open {w : World} {x : S49} {cs : List Value} (h : k49.K w x cs) : ∃ A0 c0, cs = [.slice A0 x.f0.length c0, .int .i64 x.f1] ∧ x.f0.length ≤ c0 ∧ (Kd.int .i64).C w A0 x.f0.length x.f0 := by
  obtain ⟨_, _, rfl, ⟨A0, c0, rfl, l0, g0⟩, rfl⟩ := h
  exact ⟨A0, c0, rfl, l0, g0⟩
theorem k49_openM {w : World} {base : Nat} {ok : Nat → Prop} {x : S49} {cs : List Value} (h : k49.M w base ok x cs) : ∃ v0, cs = [v0, .int .i64 x.f1] ∧ (Kd.int .i64).R 3 w base ok v0 x.f0 := by
  obtain ⟨_, _, rfl, ⟨v0, rfl, g0⟩, rfl⟩ := h
  exact ⟨v0, rfl, g0⟩
theorem k49_mk (w : World) (x : S49) {A0 : Option Addr} {c0 : Nat} (l0 : x.f0.length ≤ c0) (g0 : (Kd.int .i64).C w A0 x.f0.length x.f0) : k49.K w x [.slice A0 x.f0.length c0, .int .i64 x.f1] := ⟨[.slice A0 x.f0.length c0], [.int .i64 x.f1], rfl, ⟨A0, c0, rfl, l0, g0⟩, rfl⟩
theorem k49_mkM (w : World) (base : Nat) (ok : Nat → Prop) (x : S49) {v0 : Value} (g0 : (Kd.int .i64).R 3 w base ok v0 x.f0) : k49.M w base ok x [v0, .int .i64 x.f1] := ⟨[v0], [.int .i64 x.f1], rfl, ⟨v0, rfl, g0⟩, rfl⟩
theorem k49_openF {W : World} {ok : Nat → Prop} {x : S49} {cs : List Value} (h : Kd.FK k49 W ok x cs) : ∃ A0 c0, cs = [.slice A0 x.f0.length c0, .int .i64 x.f1] ∧ x.f0.length ≤ c0 ∧ Kd.F (Kd.int .i64) W ok A0 x.f0.length x.f0 := by
  obtain ⟨A0, c0, rfl, l0, _⟩ := k49_open (Kd.FK_now h)
  exact ⟨A0, c0, rfl, l0, (fun W' hW => by obtain ⟨A0_, c0_, he, l0_, g0_⟩ := k49_open (h W' hW); injection (Option.some.inj (show some (Value.slice A0 x.f0.length c0) = some (Value.slice A0_ x.f0.length c0_) from congrArg (fun l => l[0]?) he)) with ha_ _ _; rw [ha_]; exact g0_)⟩
theorem k49_mkF (W : World) (ok : Nat → Prop) (x : S49) {A0 : Option Addr} {c0 : Nat} (l0 : x.f0.length ≤ c0) (g0 : Kd.F (Kd.int .i64) W ok A0 x.f0.length x.f0) : Kd.FK k49 W ok x [.slice A0 x.f0.length c0, .int .i64 x.f1] := fun W2 hW => k49_mk W2 x l0 (g0 W2 hW)
def rd_T49 (xs : List S49) (i : Int) : S49 := xs.getD i.toNat z49
theorem at_T49 {w : World} {A : Option Addr} {n : Nat} {xs : List S49} (h : Kd.C k49 w A n xs) (i : Int) (h0 : 0 ≤ i) (h1 : i < n) : ∃ ad A0 c0, A = some ad ∧ w.cell? (ad.add (i.toNat * 2)) = some (.slice A0 (rd_T49 xs i).f0.length c0) ∧ w.cell? ⟨(ad.add (i.toNat * 2)).block, (ad.add (i.toNat * 2)).off + 1, none⟩ = some (.int .i64 (rd_T49 xs i).f1) ∧ (rd_T49 xs i).f0.length ≤ c0 ∧ (Kd.int .i64).C w A0 (rd_T49 xs i).f0.length (rd_T49 xs i).f0 := by
  obtain ⟨ad, c, e, _, hK, hc0⟩ := Kd.C_get h z49 i h0 h1
  have hc : ∀ j u, c[j]? = some u → w.cell? (ad.add (i.toNat * 2 + j)) = some u := hc0
  obtain ⟨A0, c0, rfl, l0, g0⟩ := k49_open hK
  exact ⟨ad, A0, c0, e, hc 0 _ rfl, by rw [← add_field _ _ 1 (by omega)]; exact hc 1 _ rfl, l0, g0⟩

/-! #### struct type 57 -/
structure S57 where
  f0 : S49
  f1 : S23
  f2 : (List Int)
  f3 : Int
  f4 : Int
def z57 : S57 := ⟨z49, z23, ([] : List Int), (0 : Int), (0 : Int)⟩
def k57 : Kd S57 := Kd.iso (Kd.pair k49 (Kd.pair k23 (Kd.pair (Kd.slice 3 (Kd.int .i64)) (Kd.pair (Kd.int .u8) (Kd.int .u8))))) (fun x : S57 => (x.f0, x.f1, x.f2, x.f3, x.f4))
theorem k57_heap : Kd.Heap k57 := Kd.heap_iso _ (Kd.heap_pair k49_heap (Kd.heap_pair k23_heap (Kd.heap_pair (Kd.heap_slice 3 (Kd.heap_int .i64)) (Kd.heap_pair (Kd.heap_int .u8) (Kd.heap_int .u8)))))
theorem k57_open {w : World} {x : S57} {cs : List Value} (h : k57.K w x cs) : ∃ A0 c0 A4 c4, cs = [.slice A0 x.f0.f0.length c0, .int .i64 x.f0.f1, .string x.f1.f0, .int .i64 x.f1.f1, .slice A4 x.f2.length c4, .int .u8 x.f3, .int .u8 x.f4] ∧ x.f0.f0.length ≤ c0 ∧ (Kd.int .i64).C w A0 x.f0.f0.length x.f0.f0 ∧ x.f2.length ≤ c4 ∧ (Kd.int .i64).C w A4 x.f2.length x.f2 := by
  obtain ⟨_, _, rfl, s0, ⟨_, _, rfl, s2, ⟨_, _, rfl, ⟨A4, c4, rfl, l4, g4⟩, ⟨_, _, rfl, rfl, rfl⟩⟩⟩⟩ := h
  obtain ⟨A0, c0, rfl, l0, g0⟩ := k49_open s0
  obtain rfl := k23_open s2
  exact ⟨A0, c0, A4, c4, rfl, l0, g0, l4, g4⟩
theorem k57_openM {w : World} {base : Nat} {ok : Nat → Prop} {x : S57} {cs : List Value} (h : k57.M w base ok x cs) : ∃ v0 v4, cs = [v0, .int .i64 x.f0.f1, .string x.f1.f0, .int .i64 x.f1.f1, v4, .int .u8 x.f3, .int .u8 x.f4] ∧ (Kd.int .i64).R 3 w base ok v0 x.f0.f0 ∧ (Kd.int .i64).R 3 w base ok v4 x.f2 := by
  obtain ⟨_, _, rfl, s0, ⟨_, _, rfl, s2, ⟨_, _, rfl, ⟨v4, rfl, g4⟩, ⟨_, _, rfl, rfl, rfl⟩⟩⟩⟩ := h
  obtain ⟨v0, rfl, g0⟩ := k49_openM s0
  obtain rfl := k23_openM s2
  exact ⟨v0, v4, rfl, g0, g4⟩
theorem k57_mk (w : World) (x : S57) {A0 : Option Addr} {c0 : Nat} (l0 : x.f0.f0.length ≤ c0) (g0 : (Kd.int .i64).C w A0 x.f0.f0.length x.f0.f0) {A4 : Option Addr} {c4 : Nat} (l4 : x.f2.length ≤ c4) (g4 : (Kd.int .i64).C w A4 x.f2.length x.f2) : k57.K w x [.slice A0 x.f0.f0.length c0, .int .i64 x.f0.f1, .string x.f1.f0, .int .i64 x.f1.f1, .slice A4 x.f2.length c4, .int .u8 x.f3, .int .u8 x.f4] := ⟨[.slice A0 x.f0.f0.length c0, .int .i64 x.f0.f1], [.string x.f1.f0, .int .i64 x.f1.f1, .slice A4 x.f2.length c4, .int .u8 x.f3, .int .u8 x.f4], rfl, (k49_mk w x.f0 l0 g0), ⟨[.string x.f1.f0, .int .i64 x.f1.f1], [.slice A4 x.f2.length c4, .int .u8 x.f3, .int .u8 x.f4], rfl, (k23_mk w x.f1 ), ⟨[.slice A4 x.f2.length c4], [.int .u8 x.f3, .int .u8 x.f4], rfl, ⟨A4, c4, rfl, l4, g4⟩, ⟨[.int .u8 x.f3], [.int .u8 x.f4], rfl, rfl, rfl⟩⟩⟩⟩
theorem k57_mkM (w : World) (base : Nat) (ok : Nat → Prop) (x : S57) {v0 : Value} (g0 : (Kd.int .i64).R 3 w base ok v0 x.f0.f0) {v4 : Value} (g4 : (Kd.int .i64).R 3 w base ok v4 x.f2) : k57.M w base ok x [v0, .int .i64 x.f0.f1, .string x.f1.f0, .int .i64 x.f1.f1, v4, .int .u8 x.f3, .int .u8 x.f4] := ⟨[v0, .int .i64 x.f0.f1], [.string x.f1.f0, .int .i64 x.f1.f1, v4, .int .u8 x.f3, .int .u8 x.f4], rfl, (k49_mkM w base ok x.f0 g0), ⟨[.string x.f1.f0, .int .i64 x.f1.f1], [v4, .int .u8 x.f3, .int .u8 x.f4], rfl, (k23_mkM w base ok x.f1 ), ⟨[v4], [.int .u8 x.f3, .int .u8 x.f4], rfl, ⟨v4, rfl, g4⟩, ⟨[.int .u8 x.f3], [.int .u8 x.f4], rfl, rfl, rfl⟩⟩⟩⟩
theorem k57_openF {W : World} {ok : Nat → Prop} {x : S57} {cs : List Value} (h : Kd.FK k57 W ok x cs) : ∃ A0 c0 A4 c4, cs = [.slice A0 x.f0.f0.length c0, .int .i64 x.f0.f1, .string x.f1.f0, .int .i64 x.f1.f1, .slice A4 x.f2.length c4, .int .u8 x.f3, .int .u8 x.f4] ∧ x.f0.f0.length ≤ c0 ∧ Kd.F (Kd.int .i64) W ok A0 x.f0.f0.length x.f0.f0 ∧ x.f2.length ≤ c4 ∧ Kd.F (Kd.int .i64) W ok A4 x.f2.length x.f2 := by
  obtain ⟨A0, c0, A4, c4, rfl, l0, _, l4, _⟩ := k57_open (Kd.FK_now h)
  exact ⟨A0, c0, A4, c4, rfl, l0, (fun W' hW => by obtain ⟨A0_, c0_, A4_, c4_, he, l0_, g0_, l4_, g4_⟩ := k57_open (h W' hW); injection (Option.some.inj (show some (Value.slice A0 x.f0.f0.length c0) = some (Value.slice A0_ x.f0.f0.length c0_) from congrArg (fun l => l[0]?) he)) with ha_ _ _; rw [ha_]; exact g0_), l4, (fun W' hW => by obtain ⟨A0_, c0_, A4_, c4_, he, l0_, g0_, l4_, g4_⟩ := k57_open (h W' hW); injection (Option.some.inj (show some (Value.slice A4 x.f2.length c4) = some (Value.slice A4_ x.f2.length c4_) from congrArg (fun l => l[4]?) he)) with ha_ _ _; rw [ha_]; exact g4_)⟩
theorem k57_mkF (W : World) (ok : Nat → Prop) (x : S57) {A0 : Option Addr} {c0 : Nat} (l0 : x.f0.f0.length ≤ c0) (g0 : Kd.F (Kd.int .i64) W ok A0 x.f0.f0.length x.f0.f0) {A4 : Option Addr} {c4 : Nat} (l4 : x.f2.length ≤ c4) (g4 : Kd.F (Kd.int .i64) W ok A4 x.f2.length x.f2) : Kd.FK k57 W ok x [.slice A0 x.f0.f0.length c0, .int .i64 x.f0.f1, .string x.f1.f0, .int .i64 x.f1.f1, .slice A4 x.f2.length c4, .int .u8 x.f3, .int .u8 x.f4] := fun W2 hW => k57_mk W2 x l0 (g0 W2 hW) l4 (g4 W2 hW)
def rd_T57 (xs : List S57) (i : Int) : S57 := xs.getD i.toNat z57
theorem at_T57 {w : World} {A : Option Addr} {n : Nat} {xs : List S57} (h : Kd.C k57 w A n xs) (i : Int) (h0 : 0 ≤ i) (h1 : i < n) : ∃ ad A0 c0 A4 c4, A = some ad ∧ w.cell? (ad.add (i.toNat * 7)) = some (.slice A0 (rd_T57 xs i).f0.f0.length c0) ∧ w.cell? ⟨(ad.add (i.toNat * 7)).block, (ad.add (i.toNat * 7)).off + 1, none⟩ = some (.int .i64 (rd_T57 xs i).f0.f1) ∧ w.cell? ⟨(ad.add (i.toNat * 7)).block, (ad.add (i.toNat * 7)).off + 2, none⟩ = some (.string (rd_T57 xs i).f1.f0) ∧ w.cell? ⟨(ad.add (i.toNat * 7)).block, (ad.add (i.toNat * 7)).off + 3, none⟩ = some (.int .i64 (rd_T57 xs i).f1.f1) ∧ w.cell? ⟨(ad.add (i.toNat * 7)).block, (ad.add (i.toNat * 7)).off + 4, none⟩ = some (.slice A4 (rd_T57 xs i).f2.length c4) ∧ w.cell? ⟨(ad.add (i.toNat * 7)).block, (ad.add (i.toNat * 7)).off + 5, none⟩ = some (.int .u8 (rd_T57 xs i).f3) ∧ w.cell? ⟨(ad.add (i.toNat * 7)).block, (ad.add (i.toNat * 7)).off + 6, none⟩ = some (.int .u8 (rd_T57 xs i).f4) ∧ (rd_T57 xs i).f0.f0.length ≤ c0 ∧ (Kd.int .i64).C w A0 (rd_T57 xs i).f0.f0.length (rd_T57 xs i).f0.f0 ∧ (rd_T57 xs i).f2.length ≤ c4 ∧ (Kd.int .i64).C w A4 (rd_T57 xs i).f2.length (rd_T57 xs i).f2 := by
  obtain ⟨ad, c, e, _, hK, hc0⟩ := Kd.C_get h z57 i h0 h1
  have hc : ∀ j u, c[j]? = some u → w.cell? (ad.add (i.toNat * 7 + j)) = some u := hc0
  obtain ⟨A0, c0, A4, c4, rfl, l0, g0, l4, g4⟩ := k57_open hK
  exact ⟨ad, A0, c0, A4, c4, e, hc 0 _ rfl, by rw [← add_field _ _ 1 (by omega)]; exact hc 1 _ rfl, by rw [← add_field _ _ 2 (by omega)]; exact hc 2 _ rfl, by rw [← add_field _ _ 3 (by omega)]; exact hc 3 _ rfl, by rw [← add_field _ _ 4 (by omega)]; exact hc 4 _ rfl, by rw [← add_field _ _ 5 (by omega)]; exact hc 5 _ rfl, by rw [← add_field _ _ 6 (by omega)]; exact hc 6 _ rfl, l0, g0, l4, g4⟩

end Go.Proofs.Ytlanodnbdgiihaa.Fn
