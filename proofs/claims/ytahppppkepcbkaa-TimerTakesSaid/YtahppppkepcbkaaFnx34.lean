-- Written by program (a turned copy of the kit's print) for this seat: functions, contracts. Lean checks it.
import Derived.Test.YtahppppkepcbkaaFnx0
import Derived.Test.YtahppppkepcbkaaFnx1
import Derived.Test.YtahppppkepcbkaaFnx23
import Derived.Test.YtahppppkepcbkaaFnx27
import Derived.Test.YtahppppkepcbkaaFnx28
import Derived.Test.YtahppppkepcbkaaFnx32
import Derived.Test.YtahppppkepcbkaaFnx33
import Derived.Test.YtahppppkepcbkaaAw29
import Derived.Test.YtahppppkepcbkaaExDrop
import Derived.Test.YtahppppkepcbkaaExDue
namespace Go.Proofs.Ytahppppkepcbkaa.Fn
open Go.RowKit Go.Proofs.YtahppppkepcbkaaW.PrintWords Go.Proofs.YtahppppkepcbkaaW.PrintLast Go.Proofs.YtahppppkepcbkaaW.PrintMore
attribute [local go_sem] max2_int min2_int max_two min_two max_three min_three max_four min_four   -- for this text's walks alone
set_option linter.unusedVariables false
set_option linter.unusedSimpArgs false

attribute [local go_sem high] eqA52
/-! ### tattlelaw03_TimerTakes: function 12 -/
def tattlelaw03_TimerTakes.j0 : Nat → List (S52) → Int → Bool → Int → Int → Int → Int → Option (Bool)
  | 0, _, _, _, _, _, _, _ => none
  | k + 1, x3, x13, x108, x557000, x557001, x557002, x557003 => if x108 = true then (some false) else (if (x3.length : Int) = 0 then (if (x557000 == 0 && (x557001 == 0 && (x557002 == 0 && (x557003 == 0)))) = true then (if x13 = 6 then ((tattlelaw03_awakeT.f).bind fun t571 => (some t571)) else (some false)) else (some false)) else (if 0 < (x3.length : Int) then (if (x557000 == ((rd_T52 x3 0).f0) && (x557001 == ((rd_T52 x3 0).f1) && (x557002 == ((rd_T52 x3 0).f2) && (x557003 == ((rd_T52 x3 0).f3))))) = true then (if x13 = 0 then ((tattlelaw03_awakeT.f).bind fun t573 => (some t573)) else (some false)) else (some false)) else (none)))
def tattlelaw03_TimerTakes.f (k : Nat) (l0_0 : List (S52)) (a0_1 : Int) (a0_2 : Int) (a0_3 : Int) : Option (Bool) := (tattlelaw03_Few.f l0_0).bind fun t537 => ((timer_Due.f t537 a0_1).bind fun bt540 => ((timer_Drop.f t537 a0_2 a0_3).bind fun bt547 => ((timer_Next.f t537).bind fun bt551 => ((tattleref03_May.f k t537).bind fun t557 => (if t557 = true then ((tattleref03_Due.f k t537 a0_1 true).bind fun t559 => ((tattleref03_Same.f k bt540.1 t559).bind fun t562 => (if t562 = true then ((tattleref03_Due.f k t537 a0_1 false).bind fun t563 => ((tattleref03_Same.f k bt540.2.1 t563).bind fun t566 => (if t566 = true then (if bt540.2.2 = 0 then ((tattleref03_Drop.f k t537 a0_2 a0_3).bind fun t567 => ((tattleref03_Same.f k bt547.1 t567).bind fun t570 => (if t570 = true then (tattlelaw03_TimerTakes.j0 k t537 bt551.2.2.2.2 (bt547.2 != 0) bt551.1 bt551.2.1 bt551.2.2.1 bt551.2.2.2.1) else (tattlelaw03_TimerTakes.j0 k t537 bt551.2.2.2.2 true bt551.1 bt551.2.1 bt551.2.2.1 bt551.2.2.2.1)))) else (tattlelaw03_TimerTakes.j0 k t537 bt551.2.2.2.2 true bt551.1 bt551.2.1 bt551.2.2.1 bt551.2.2.2.1)) else (tattlelaw03_TimerTakes.j0 k t537 bt551.2.2.2.2 true bt551.1 bt551.2.1 bt551.2.2.1 bt551.2.2.2.1)))) else (tattlelaw03_TimerTakes.j0 k t537 bt551.2.2.2.2 true bt551.1 bt551.2.1 bt551.2.2.1 bt551.2.2.2.1)))) else (if (bt540.1.length : Int) = 0 then (if (bt540.2.1.length : Int) = 0 then (if bt540.2.2 = 1 then (if (bt547.1.length : Int) = 0 then (if bt547.2 = 1 then (if (bt551.1 == 0 && (bt551.2.1 == 0 && (bt551.2.2.1 == 0 && (bt551.2.2.2.1 == 0)))) = true then (if bt551.2.2.2.2 = 1 then ((tattlelaw03_awakeT.f).bind fun t558 => (some t558)) else (some false)) else (some false)) else (some false)) else (some false)) else (some false)) else (some false)) else (some false)))))))
theorem tattlelaw03_TimerTakes.mono_l : ∀ k, (∀ y0 y1 y2 y3 y4 y5 y6, LeO (tattlelaw03_TimerTakes.j0 k y0 y1 y2 y3 y4 y5 y6) (tattlelaw03_TimerTakes.j0 (k + 1) y0 y1 y2 y3 y4 y5 y6))
  | 0 => fun _ _ _ _ _ _ _ r h => by simp [tattlelaw03_TimerTakes.j0] at h
  | k + 1 => by
    have ih0 := tattlelaw03_TimerTakes.mono_l k
    · intro y0 y1 y2 y3 y4 y5 y6
      unfold tattlelaw03_TimerTakes.j0
      repeat' first
      | (with_reducible exact ih0 _ _ _ _ _ _ _)
      | (with_reducible exact tattleref03_Drop.mono _ _ _ _)
      | (with_reducible exact tattleref03_Due.mono _ _ _ _)
      | (with_reducible exact tattleref03_May.mono _ _)
      | (with_reducible exact tattleref03_Same.mono _ _ _)
      | (with_reducible exact LeO.refl _)
      | (with_reducible exact LeO.none _)
      | (with_reducible refine LeO.ite ?_ ?_)
      | (with_reducible refine LeO.bind ?_ (fun _ => ?_))
      | exact ih0 _ _ _ _ _ _ _
      | exact tattleref03_Drop.mono _ _ _ _
      | exact tattleref03_Due.mono _ _ _ _
      | exact tattleref03_May.mono _ _
      | exact tattleref03_Same.mono _ _ _
      | exact LeO.none _
      | refine LeO.ite ?_ ?_
      | refine LeO.bind ?_ (fun _ => ?_)
theorem tattlelaw03_TimerTakes.mono : ∀ a0 a1 a2 a3 k, LeO (tattlelaw03_TimerTakes.f k a0 a1 a2 a3) (tattlelaw03_TimerTakes.f (k + 1) a0 a1 a2 a3) := by
  intro a0 a1 a2 a3 k
  have ih0 := tattlelaw03_TimerTakes.mono_l k
  unfold tattlelaw03_TimerTakes.f
  repeat' first
      | (with_reducible exact ih0 _ _ _ _ _ _ _)
      | (with_reducible exact tattleref03_Drop.mono _ _ _ _)
      | (with_reducible exact tattleref03_Due.mono _ _ _ _)
      | (with_reducible exact tattleref03_May.mono _ _)
      | (with_reducible exact tattleref03_Same.mono _ _ _)
      | (with_reducible exact LeO.refl _)
      | (with_reducible exact LeO.none _)
      | (with_reducible refine LeO.ite ?_ ?_)
      | (with_reducible refine LeO.bind ?_ (fun _ => ?_))
      | exact ih0 _ _ _ _ _ _ _
      | exact tattleref03_Drop.mono _ _ _ _
      | exact tattleref03_Due.mono _ _ _ _
      | exact tattleref03_May.mono _ _
      | exact tattleref03_Same.mono _ _ _
      | exact LeO.none _
      | refine LeO.ite ?_ ?_
      | refine LeO.bind ?_ (fun _ => ?_)
def tattlelaw03_TimerTakes.T1 : Bool × List (List Nat × List Nat) := (true, [([], []), ([0], [0]), ([1], [1]), ([], []), ([3], [3]), ([], []), ([5], [5]), ([], []), ([7], [7]), ([2, 2, 0, 1, 2], [2]), ([4, 9, 0, 1, 2, 3, 4, 9], [4]), ([6, 10, 0, 1, 2, 3, 4, 5, 6, 9, 10], [6]), ([8, 11, 0, 1, 2, 3, 4, 5, 6, 7, 8, 9, 10, 11], [8])])
def tattlelaw03_TimerTakes.B1 : List Nat := [0, 1, 3, 0, 8, 0, 32, 0, 128, 7, 543, 1663, 4095]
theorem tattlelaw03_TimerTakes.tab1 : rtab .any (opsOf Try.f12 1) = tattlelaw03_TimerTakes.T1 := by kernel_rfl
theorem tattlelaw03_TimerTakes.bits1 : waitsOk tattlelaw03_TimerTakes.T1.2 tattlelaw03_TimerTakes.B1 = true := by kernel_rfl
def tattlelaw03_TimerTakes.T11 : Bool × List (List Nat × List Nat) := (true, [([], []), ([], []), ([1], [1]), ([2], [2]), ([0, 3], [0, 3]), ([4], [4]), ([5], [5]), ([6, 5], [5, 6]), ([5, 7], [5, 7]), ([8, 5], [8]), ([9, 9], [9]), ([9, 10], [9, 10]), ([11, 10, 0, 1, 2, 3, 4, 5, 6, 7, 8, 9, 10, 11], [11])])
def tattlelaw03_TimerTakes.B11 : List Nat := [0, 0, 2, 6, 15, 31, 63, 127, 255, 511, 1023, 2047, 4095]
theorem tattlelaw03_TimerTakes.tab11 : rtab .any (opsOf Try.f12 11) = tattlelaw03_TimerTakes.T11 := by kernel_rfl
theorem tattlelaw03_TimerTakes.bits11 : waitsOk tattlelaw03_TimerTakes.T11.2 tattlelaw03_TimerTakes.B11 = true := by kernel_rfl
set_option maxHeartbeats 8000000 in
set_option maxRecDepth 100000 in
theorem tattlelaw03_TimerTakes.calls (k : Nat) (A0_0 : Option Addr) (c0_0 : Nat) (l0_0 : List (S52)) (a0_1 : Int) (a0_2 : Int) (a0_3 : Int) (r : Bool) (w : World) (hr0_0 : Kd.C k52 w A0_0 l0_0.length l0_0) (hc0_0 : l0_0.length ≤ c0_0) (hrt : Aside0 (r = true)) (h : tattlelaw03_TimerTakes.f k l0_0 a0_1 a0_2 a0_3 = some r) :
    Calls Try.prog 12 #[.agg #[.slice A0_0 l0_0.length c0_0, .int .i64 a0_1, .int .i64 a0_2, .int .i64 a0_3]] w fun e w' => e = .returned (.bool r) ∧ Below w.heap.size w w' := by
  have hu69 := Try.underlying69
  have hu52 := Try.underlying52
  have HR0_0 := Aside0.mk hr0_0
  have HC0_0 := Aside0.mk hc0_0
  clear hr0_0 hc0_0
  have HB := Aside0.mk (Below.refl w.heap.size w)
  have H : ((tattlelaw03_Few.f l0_0).bind fun t537 => ((timer_Due.f t537 a0_1).bind fun bt540 => ((timer_Drop.f t537 a0_2 a0_3).bind fun bt547 => ((timer_Next.f t537).bind fun bt551 => ((tattleref03_May.f k t537).bind fun t557 => (if t557 = true then ((tattleref03_Due.f k t537 a0_1 true).bind fun t559 => ((tattleref03_Same.f k bt540.1 t559).bind fun t562 => (if t562 = true then ((tattleref03_Due.f k t537 a0_1 false).bind fun t563 => ((tattleref03_Same.f k bt540.2.1 t563).bind fun t566 => (if t566 = true then (if bt540.2.2 = 0 then ((tattleref03_Drop.f k t537 a0_2 a0_3).bind fun t567 => ((tattleref03_Same.f k bt547.1 t567).bind fun t570 => (if t570 = true then (tattlelaw03_TimerTakes.j0 k t537 bt551.2.2.2.2 (bt547.2 != 0) bt551.1 bt551.2.1 bt551.2.2.1 bt551.2.2.2.1) else (tattlelaw03_TimerTakes.j0 k t537 bt551.2.2.2.2 true bt551.1 bt551.2.1 bt551.2.2.1 bt551.2.2.2.1)))) else (tattlelaw03_TimerTakes.j0 k t537 bt551.2.2.2.2 true bt551.1 bt551.2.1 bt551.2.2.1 bt551.2.2.2.1)) else (tattlelaw03_TimerTakes.j0 k t537 bt551.2.2.2.2 true bt551.1 bt551.2.1 bt551.2.2.1 bt551.2.2.2.1)))) else (tattlelaw03_TimerTakes.j0 k t537 bt551.2.2.2.2 true bt551.1 bt551.2.1 bt551.2.2.1 bt551.2.2.2.1)))) else (if (bt540.1.length : Int) = 0 then (if (bt540.2.1.length : Int) = 0 then (if bt540.2.2 = 1 then (if (bt547.1.length : Int) = 0 then (if bt547.2 = 1 then (if (bt551.1 == 0 && (bt551.2.1 == 0 && (bt551.2.2.1 == 0 && (bt551.2.2.2.1 == 0)))) = true then (if bt551.2.2.2.2 = 1 then ((tattlelaw03_awakeT.f).bind fun t558 => (some t558)) else (some false)) else (some false)) else (some false)) else (some false)) else (some false)) else (some false)) else (some false)))))))) = some r := h
  clear h
  replace H := Option.bind_eq_some_iff.mp H
  obtain ⟨t537, A20, H⟩ := H
  replace H : ((timer_Due.f t537 a0_1).bind fun bt540 => ((timer_Drop.f t537 a0_2 a0_3).bind fun bt547 => ((timer_Next.f t537).bind fun bt551 => ((tattleref03_May.f k t537).bind fun t557 => (if t557 = true then ((tattleref03_Due.f k t537 a0_1 true).bind fun t559 => ((tattleref03_Same.f k bt540.1 t559).bind fun t562 => (if t562 = true then ((tattleref03_Due.f k t537 a0_1 false).bind fun t563 => ((tattleref03_Same.f k bt540.2.1 t563).bind fun t566 => (if t566 = true then (if bt540.2.2 = 0 then ((tattleref03_Drop.f k t537 a0_2 a0_3).bind fun t567 => ((tattleref03_Same.f k bt547.1 t567).bind fun t570 => (if t570 = true then (tattlelaw03_TimerTakes.j0 k t537 bt551.2.2.2.2 (bt547.2 != 0) bt551.1 bt551.2.1 bt551.2.2.1 bt551.2.2.2.1) else (tattlelaw03_TimerTakes.j0 k t537 bt551.2.2.2.2 true bt551.1 bt551.2.1 bt551.2.2.1 bt551.2.2.2.1)))) else (tattlelaw03_TimerTakes.j0 k t537 bt551.2.2.2.2 true bt551.1 bt551.2.1 bt551.2.2.1 bt551.2.2.2.1)) else (tattlelaw03_TimerTakes.j0 k t537 bt551.2.2.2.2 true bt551.1 bt551.2.1 bt551.2.2.1 bt551.2.2.2.1)))) else (tattlelaw03_TimerTakes.j0 k t537 bt551.2.2.2.2 true bt551.1 bt551.2.1 bt551.2.2.1 bt551.2.2.2.1)))) else (if (bt540.1.length : Int) = 0 then (if (bt540.2.1.length : Int) = 0 then (if bt540.2.2 = 1 then (if (bt547.1.length : Int) = 0 then (if bt547.2 = 1 then (if (bt551.1 == 0 && (bt551.2.1 == 0 && (bt551.2.2.1 == 0 && (bt551.2.2.2.1 == 0)))) = true then (if bt551.2.2.2.2 = 1 then ((tattlelaw03_awakeT.f).bind fun t558 => (some t558)) else (some false)) else (some false)) else (some false)) else (some false)) else (some false)) else (some false)) else (some false))))))) = some r := H
  have A2 := Aside0.mk A20
  clear A20
  replace H := Option.bind_eq_some_iff.mp H
  obtain ⟨⟨t540, t541, t542⟩, A30, H⟩ := H
  replace H : ((timer_Drop.f t537 a0_2 a0_3).bind fun bt547 => ((timer_Next.f t537).bind fun bt551 => ((tattleref03_May.f k t537).bind fun t557 => (if t557 = true then ((tattleref03_Due.f k t537 a0_1 true).bind fun t559 => ((tattleref03_Same.f k t540 t559).bind fun t562 => (if t562 = true then ((tattleref03_Due.f k t537 a0_1 false).bind fun t563 => ((tattleref03_Same.f k t541 t563).bind fun t566 => (if t566 = true then (if t542 = 0 then ((tattleref03_Drop.f k t537 a0_2 a0_3).bind fun t567 => ((tattleref03_Same.f k bt547.1 t567).bind fun t570 => (if t570 = true then (tattlelaw03_TimerTakes.j0 k t537 bt551.2.2.2.2 (bt547.2 != 0) bt551.1 bt551.2.1 bt551.2.2.1 bt551.2.2.2.1) else (tattlelaw03_TimerTakes.j0 k t537 bt551.2.2.2.2 true bt551.1 bt551.2.1 bt551.2.2.1 bt551.2.2.2.1)))) else (tattlelaw03_TimerTakes.j0 k t537 bt551.2.2.2.2 true bt551.1 bt551.2.1 bt551.2.2.1 bt551.2.2.2.1)) else (tattlelaw03_TimerTakes.j0 k t537 bt551.2.2.2.2 true bt551.1 bt551.2.1 bt551.2.2.1 bt551.2.2.2.1)))) else (tattlelaw03_TimerTakes.j0 k t537 bt551.2.2.2.2 true bt551.1 bt551.2.1 bt551.2.2.1 bt551.2.2.2.1)))) else (if (t540.length : Int) = 0 then (if (t541.length : Int) = 0 then (if t542 = 1 then (if (bt547.1.length : Int) = 0 then (if bt547.2 = 1 then (if (bt551.1 == 0 && (bt551.2.1 == 0 && (bt551.2.2.1 == 0 && (bt551.2.2.2.1 == 0)))) = true then (if bt551.2.2.2.2 = 1 then ((tattlelaw03_awakeT.f).bind fun t558 => (some t558)) else (some false)) else (some false)) else (some false)) else (some false)) else (some false)) else (some false)) else (some false)))))) = some r := H
  have A3 := Aside0.mk A30
  clear A30
  replace H := Option.bind_eq_some_iff.mp H
  obtain ⟨⟨t547, t548⟩, A40, H⟩ := H
  replace H : ((timer_Next.f t537).bind fun bt551 => ((tattleref03_May.f k t537).bind fun t557 => (if t557 = true then ((tattleref03_Due.f k t537 a0_1 true).bind fun t559 => ((tattleref03_Same.f k t540 t559).bind fun t562 => (if t562 = true then ((tattleref03_Due.f k t537 a0_1 false).bind fun t563 => ((tattleref03_Same.f k t541 t563).bind fun t566 => (if t566 = true then (if t542 = 0 then ((tattleref03_Drop.f k t537 a0_2 a0_3).bind fun t567 => ((tattleref03_Same.f k t547 t567).bind fun t570 => (if t570 = true then (tattlelaw03_TimerTakes.j0 k t537 bt551.2.2.2.2 (t548 != 0) bt551.1 bt551.2.1 bt551.2.2.1 bt551.2.2.2.1) else (tattlelaw03_TimerTakes.j0 k t537 bt551.2.2.2.2 true bt551.1 bt551.2.1 bt551.2.2.1 bt551.2.2.2.1)))) else (tattlelaw03_TimerTakes.j0 k t537 bt551.2.2.2.2 true bt551.1 bt551.2.1 bt551.2.2.1 bt551.2.2.2.1)) else (tattlelaw03_TimerTakes.j0 k t537 bt551.2.2.2.2 true bt551.1 bt551.2.1 bt551.2.2.1 bt551.2.2.2.1)))) else (tattlelaw03_TimerTakes.j0 k t537 bt551.2.2.2.2 true bt551.1 bt551.2.1 bt551.2.2.1 bt551.2.2.2.1)))) else (if (t540.length : Int) = 0 then (if (t541.length : Int) = 0 then (if t542 = 1 then (if (t547.length : Int) = 0 then (if t548 = 1 then (if (bt551.1 == 0 && (bt551.2.1 == 0 && (bt551.2.2.1 == 0 && (bt551.2.2.2.1 == 0)))) = true then (if bt551.2.2.2.2 = 1 then ((tattlelaw03_awakeT.f).bind fun t558 => (some t558)) else (some false)) else (some false)) else (some false)) else (some false)) else (some false)) else (some false)) else (some false))))) = some r := H
  have A4 := Aside0.mk A40
  clear A40
  replace H := Option.bind_eq_some_iff.mp H
  obtain ⟨⟨t551, t552, t553, t554, t555⟩, A50, H⟩ := H
  replace H : ((tattleref03_May.f k t537).bind fun t557 => (if t557 = true then ((tattleref03_Due.f k t537 a0_1 true).bind fun t559 => ((tattleref03_Same.f k t540 t559).bind fun t562 => (if t562 = true then ((tattleref03_Due.f k t537 a0_1 false).bind fun t563 => ((tattleref03_Same.f k t541 t563).bind fun t566 => (if t566 = true then (if t542 = 0 then ((tattleref03_Drop.f k t537 a0_2 a0_3).bind fun t567 => ((tattleref03_Same.f k t547 t567).bind fun t570 => (if t570 = true then (tattlelaw03_TimerTakes.j0 k t537 t555 (t548 != 0) t551 t552 t553 t554) else (tattlelaw03_TimerTakes.j0 k t537 t555 true t551 t552 t553 t554)))) else (tattlelaw03_TimerTakes.j0 k t537 t555 true t551 t552 t553 t554)) else (tattlelaw03_TimerTakes.j0 k t537 t555 true t551 t552 t553 t554)))) else (tattlelaw03_TimerTakes.j0 k t537 t555 true t551 t552 t553 t554)))) else (if (t540.length : Int) = 0 then (if (t541.length : Int) = 0 then (if t542 = 1 then (if (t547.length : Int) = 0 then (if t548 = 1 then (if (t551 == 0 && (t552 == 0 && (t553 == 0 && (t554 == 0)))) = true then (if t555 = 1 then ((tattlelaw03_awakeT.f).bind fun t558 => (some t558)) else (some false)) else (some false)) else (some false)) else (some false)) else (some false)) else (some false)) else (some false)))) = some r := H
  have A5 := Aside0.mk A50
  clear A50
  replace H := Option.bind_eq_some_iff.mp H
  obtain ⟨t557, A60, H⟩ := H
  replace H : (if t557 = true then ((tattleref03_Due.f k t537 a0_1 true).bind fun t559 => ((tattleref03_Same.f k t540 t559).bind fun t562 => (if t562 = true then ((tattleref03_Due.f k t537 a0_1 false).bind fun t563 => ((tattleref03_Same.f k t541 t563).bind fun t566 => (if t566 = true then (if t542 = 0 then ((tattleref03_Drop.f k t537 a0_2 a0_3).bind fun t567 => ((tattleref03_Same.f k t547 t567).bind fun t570 => (if t570 = true then (tattlelaw03_TimerTakes.j0 k t537 t555 (t548 != 0) t551 t552 t553 t554) else (tattlelaw03_TimerTakes.j0 k t537 t555 true t551 t552 t553 t554)))) else (tattlelaw03_TimerTakes.j0 k t537 t555 true t551 t552 t553 t554)) else (tattlelaw03_TimerTakes.j0 k t537 t555 true t551 t552 t553 t554)))) else (tattlelaw03_TimerTakes.j0 k t537 t555 true t551 t552 t553 t554)))) else (if (t540.length : Int) = 0 then (if (t541.length : Int) = 0 then (if t542 = 1 then (if (t547.length : Int) = 0 then (if t548 = 1 then (if (t551 == 0 && (t552 == 0 && (t553 == 0 && (t554 == 0)))) = true then (if t555 = 1 then ((tattlelaw03_awakeT.f).bind fun t558 => (some t558)) else (some false)) else (some false)) else (some false)) else (some false)) else (some false)) else (some false)) else (some false))) = some r := H
  have A6 := Aside0.mk A60
  clear A60
  by_cases c7 : t557 = true
  · subst c7
    have H1 : ((tattleref03_Due.f k t537 a0_1 true).bind fun t559 => ((tattleref03_Same.f k t540 t559).bind fun t562 => (if t562 = true then ((tattleref03_Due.f k t537 a0_1 false).bind fun t563 => ((tattleref03_Same.f k t541 t563).bind fun t566 => (if t566 = true then (if t542 = 0 then ((tattleref03_Drop.f k t537 a0_2 a0_3).bind fun t567 => ((tattleref03_Same.f k t547 t567).bind fun t570 => (if t570 = true then (tattlelaw03_TimerTakes.j0 k t537 t555 (t548 != 0) t551 t552 t553 t554) else (tattlelaw03_TimerTakes.j0 k t537 t555 true t551 t552 t553 t554)))) else (tattlelaw03_TimerTakes.j0 k t537 t555 true t551 t552 t553 t554)) else (tattlelaw03_TimerTakes.j0 k t537 t555 true t551 t552 t553 t554)))) else (tattlelaw03_TimerTakes.j0 k t537 t555 true t551 t552 t553 t554)))) = some r := by rw [if_pos rfl] at H; exact H
    clear H
    have H := H1
    clear H1
    have HC8 := Aside0.mk H
    clear H
    go_enter Try.func12, Try.ntmps12
    try go_wp2_with (first | ((with_reducible refine gate_dst (N := 1) rfl ?_); (try (refine gate_guard (by rfl) ?_; dsimp only)); refine box_event ?hg (N := 1) ?hd (cs := #[.slice A0_0 l0_0.length c0_0, .int .i64 a0_1, .int .i64 a0_2, .int .i64 a0_3]) (t := 69) ?hr ?_; (case hd => rfl); (case hg => rfl); (case hr => first | (go_simp; done) | (go_simp; rfl)); intro gb536 hg w9 hbox hb; have n0_ := Aside0.mk (below_step (by repeat (first | (with_reducible first | exact HB.out | apply below_alloc | apply pw_below_drewN | apply below_drew1) | exact HB.out)) hb); have n1_ := Aside0.mk (hbox); have n2_ := Aside0.mk ((by rw [hg]; exact (below_size (by repeat (first | (with_reducible first | exact HB.out | apply below_alloc | apply pw_below_drewN | apply below_drew1) | exact HB.out))) : w.heap.size ≤ gb536)); have n3_ := Aside0.mk ((by rw [hg]; exact (below_size (by repeat (first | (with_reducible first | exact HB.out | apply below_alloc | apply pw_below_drewN | apply below_drew1) | exact HB.out))) : w.heap.size ≤ gb536)); clear HB; have HB := n0_; have BK536 := n1_; have GW536 := n2_; have GE536 := n3_; clear n0_ n1_ n2_ n3_; clear hb hbox hg))
    have n0_ := Aside0.mk (blk_drew BK536.out)
    have n1_ := Aside0.mk (below_drew1 HB.out)
    clear BK536
    clear HB
    have BK536 := n0_
    have HB := n1_
    clear n0_ n1_
    refine start_ (n := 13) (S := fun w' => w'.cell? ⟨gb536, 0, none⟩ = some (.slice A0_0 l0_0.length c0_0) ∧ w'.cell? ⟨gb536, 1, none⟩ = some (.int .i64 a0_1) ∧ w'.cell? ⟨gb536, 2, none⟩ = some (.int .i64 a0_2) ∧ w'.cell? ⟨gb536, 3, none⟩ = some (.int .i64 a0_3)) (ds := []) #[false, false, false, false, false, false, false, false, false, false, false, false, false] (by kernel_rfl) rfl rfl ⟨(blk_cell BK536.out 0).trans rfl, (blk_cell BK536.out 1).trans rfl, (blk_cell BK536.out 2).trans rfl, (blk_cell BK536.out 3).trans rfl⟩ (fun hHeld => ?_); refine with_tabW tattlelaw03_TimerTakes.tab1 tattlelaw03_TimerTakes.bits1 (fun HT_ HW_ => ?_)
    generalize w9.drew = w10 at BK536 HB hHeld ⊢
    refine pure_ (i := 0) (N := some 14) (v := ?_) (a' := ?_) #[true, false, false, false, false, false, false, false, false, false, false, false, false] rfl rfl (any_of HT_.out (by kernel_rfl)) (fun _ _ _ h => h) (Or.inl ⟨by rfl, ?_⟩) ?_ ?_
    rotate_left
    · intro w'
      go_simp
      with_reducible rfl
    rotate_left
    · simp only [Act.put, List.setIfInBounds_toArray, List.set_cons_zero, List.set_cons_succ, i64_w, i32_w]
      rfl
    refine pure_ (i := 3) (N := some 17) (v := ?_) (a' := ?_) #[true, false, false, true, false, false, false, false, false, false, false, false, false] rfl rfl (any_of HT_.out (by kernel_rfl)) (fun _ _ _ h => h) (Or.inl ⟨by rfl, ?_⟩) ?_ ?_
    rotate_left
    · intro w'
      go_simp
      with_reducible rfl
    rotate_left
    · simp only [Act.put, List.setIfInBounds_toArray, List.set_cons_zero, List.set_cons_succ, i64_w, i32_w]
      rfl
    refine pure_ (i := 5) (N := some 19) (v := ?_) (a' := ?_) #[true, false, false, true, false, true, false, false, false, false, false, false, false] rfl rfl (any_of HT_.out (by kernel_rfl)) (fun _ _ _ h => h) (Or.inl ⟨by rfl, ?_⟩) ?_ ?_
    rotate_left
    · intro w'
      go_simp
      with_reducible rfl
    rotate_left
    · simp only [Act.put, List.setIfInBounds_toArray, List.set_cons_zero, List.set_cons_succ, i64_w, i32_w]
      rfl
    refine pure_ (i := 7) (N := some 21) (v := ?_) (a' := ?_) #[true, false, false, true, false, true, false, true, false, false, false, false, false] rfl rfl (any_of HT_.out (by kernel_rfl)) (fun _ _ _ h => h) (Or.inl ⟨by rfl, ?_⟩) ?_ ?_
    rotate_left
    · intro w'
      go_simp
      with_reducible rfl
    rotate_left
    · simp only [Act.put, List.setIfInBounds_toArray, List.set_cons_zero, List.set_cons_succ, i64_w, i32_w]
      rfl
    refine take_ (i := 1) (N := some 15) (v := ?_) (a' := ?_) #[true, true, false, true, false, true, false, true, false, false, false, false, false] rfl rfl (take_ofW HT_.out HW_.out (by kernel_rfl)) (fun _ _ _ h => h) (Or.inl ⟨by rfl, ?_⟩) hHeld ?_ ?_
    rotate_left
    · rintro w' ⟨s0, s1, s2, s3⟩
      go_simp
      with_reducible rfl
    rotate_left
    · simp only [Act.put, List.setIfInBounds_toArray, List.set_cons_zero, List.set_cons_succ, i64_w, i32_w]
      rfl
    refine take_ (i := 4) (N := some 18) (v := ?_) (a' := ?_) #[true, true, false, true, true, true, false, true, false, false, false, false, false] rfl rfl (take_ofW HT_.out HW_.out (by kernel_rfl)) (fun _ _ _ h => h) (Or.inl ⟨by rfl, ?_⟩) hHeld ?_ ?_
    rotate_left
    · rintro w' ⟨s0, s1, s2, s3⟩
      go_simp
      with_reducible rfl
    rotate_left
    · simp only [Act.put, List.setIfInBounds_toArray, List.set_cons_zero, List.set_cons_succ, i64_w, i32_w]
      rfl
    refine take_ (i := 6) (N := some 20) (v := ?_) (a' := ?_) #[true, true, false, true, true, true, true, true, false, false, false, false, false] rfl rfl (take_ofW HT_.out HW_.out (by kernel_rfl)) (fun _ _ _ h => h) (Or.inl ⟨by rfl, ?_⟩) hHeld ?_ ?_
    rotate_left
    · rintro w' ⟨s0, s1, s2, s3⟩
      go_simp
      with_reducible rfl
    rotate_left
    · simp only [Act.put, List.setIfInBounds_toArray, List.set_cons_zero, List.set_cons_succ, i64_w, i32_w]
      rfl
    refine take_ (i := 8) (N := some 22) (v := ?_) (a' := ?_) #[true, true, false, true, true, true, true, true, true, false, false, false, false] rfl rfl (take_ofW HT_.out HW_.out (by kernel_rfl)) (fun _ _ _ h => h) (Or.inl ⟨by rfl, ?_⟩) hHeld ?_ ?_
    rotate_left
    · rintro w' ⟨s0, s1, s2, s3⟩
      go_simp
      with_reducible rfl
    rotate_left
    · simp only [Act.put, List.setIfInBounds_toArray, List.set_cons_zero, List.set_cons_succ, i64_w, i32_w]
      rfl
    refine one_ (i := 2) (N := some 16) #[true, true, true, true, true, true, true, true, true, false, false, false, false] rfl rfl (one_of HT_.out (by kernel_rfl)) (by decide) (fun K hK => ?_)
    refine goes_ Try.func30 (by kernel_rfl) rfl #[.slice A0_0 l0_0.length c0_0] (by rfl) rfl rfl (by (try simp only [List.map_toArray, List.map_cons, List.map_nil]); first | done | rfl | (simp only [List.length_drop, List.length_take]; rfl)) ?_
    with_reducible refine (tattlelaw03_Few.calls (fun k_ => k_ < w.heap.size) _ _ l0_0 t537 _ ?side1 A2.out).mono ?_
    (case side1 => exact Kd.V_mk HC0_0.out (Kd.F_below (Kd.C_F k52_heap HR0_0.out) (by repeat (first | (with_reducible first | exact HB.out | apply below_alloc | apply pw_below_drewN | apply below_drew1 | refine below_set ?_ GE536.out) | exact HB.out))))
    rintro e w11 ⟨v538, rfl, ho0, hb⟩
    refine ⟨_, rfl, ?_⟩
    have n0_ := Aside0.mk (Kd.V_lower (Kd.V_mono (ok' := fun k_ => k_ ≠ gb536) ho0 (fun k_ hk_ => Or.elim hk_ (fun hs_ => fun e_ => Nat.not_le.2 hs_ (by rw [e_]; exact GW536.out)) (fun hn_ => (Kd.freshB (g := gb536) (o := .cells #[.slice A0_0 l0_0.length c0_0, .int .i64 a0_1, .int .i64 a0_2, .int .i64 a0_3] 69 (0, 0)) (by (with_reducible repeat (first | refine blk_drewN ?_ _ | refine blk_drew ?_ | refine blk_alloc ?_ _)); exact BK536.out) k_ hn_)))) (below_size (by repeat (first | (with_reducible first | exact HB.out | apply below_alloc | apply pw_below_drewN | apply below_drew1 | refine below_set ?_ GE536.out) | exact HB.out))))
    have n1_ := Aside0.mk (blk_below (g := gb536) (o := .cells #[.slice A0_0 l0_0.length c0_0, .int .i64 a0_1, .int .i64 a0_2, .int .i64 a0_3] 69 (0, 0)) (by (with_reducible repeat (first | refine blk_drewN ?_ _ | refine blk_drew ?_ | refine blk_alloc ?_ _)); exact BK536.out) hb)
    have n2_ := Aside0.mk (below_step (by repeat (first | (with_reducible first | exact HB.out | apply below_alloc | apply pw_below_drewN | apply below_drew1 | refine below_set ?_ GE536.out) | exact HB.out)) hb)
    clear BK536
    clear HB
    have HO539 := n0_
    have BK536 := n1_
    have HB := n2_
    clear n0_ n1_ n2_
    (try clear hb)
    (try clear hb2)
    (try clear hk)
    (try clear hi)
    (try clear ho0)
    refine hK.out _ _ ⟨(blk_cell BK536.out 0).trans rfl, (blk_cell BK536.out 1).trans rfl, (blk_cell BK536.out 2).trans rfl, (blk_cell BK536.out 3).trans rfl⟩ (fun hHeld => ?_)
    clear hK K
    refine norm_ (a' := ?_) ?_ ?_
    rotate_left
    · show Act.put _ (some 16) _ = _
      simp only [Act.put, List.setIfInBounds_toArray, List.set_cons_zero, List.set_cons_succ, i64_w, i32_w]
      rfl
    refine pure_ (i := 9) (N := some 3) (v := ?_) (a' := ?_) #[true, true, true, true, true, true, true, true, true, true, false, false, false] rfl rfl (any_of HT_.out (by kernel_rfl)) (fun _ _ _ h => h) (Or.inl ⟨by rfl, ?_⟩) ?_ ?_
    rotate_left
    · intro w'
      go_simp
      with_reducible rfl
    rotate_left
    · simp only [Act.put, List.setIfInBounds_toArray, List.set_cons_zero, List.set_cons_succ, i64_w, i32_w]
      rfl
    refine pure_ (i := 10) (N := some 4) (v := ?_) (a' := ?_) #[true, true, true, true, true, true, true, true, true, true, true, false, false] rfl rfl (any_of HT_.out (by kernel_rfl)) (fun _ _ _ h => h) (Or.inl ⟨by rfl, ?_⟩) ?_ ?_
    rotate_left
    · intro w'
      go_simp
      with_reducible rfl
    rotate_left
    · simp only [Act.put, List.setIfInBounds_toArray, List.set_cons_zero, List.set_cons_succ, i64_w, i32_w]
      rfl
    refine pure_ (i := 11) (N := some 5) (v := ?_) (a' := ?_) #[true, true, true, true, true, true, true, true, true, true, true, true, false] rfl rfl (any_of HT_.out (by kernel_rfl)) (fun _ _ _ h => h) (Or.inl ⟨by rfl, ?_⟩) ?_ ?_
    rotate_left
    · intro w'
      go_simp
      with_reducible rfl
    rotate_left
    · simp only [Act.put, List.setIfInBounds_toArray, List.set_cons_zero, List.set_cons_succ, i64_w, i32_w]
      rfl
    refine pure_ (i := 12) (N := some 6) (v := ?_) (a' := ?_) #[true, true, true, true, true, true, true, true, true, true, true, true, true] rfl rfl (any_of HT_.out (by kernel_rfl)) (fun _ _ _ h => h) (Or.inl ⟨by rfl, ?_⟩) ?_ ?_
    rotate_left
    · intro w'
      go_simp
      with_reducible rfl
    rotate_left
    · simp only [Act.put, List.setIfInBounds_toArray, List.set_cons_zero, List.set_cons_succ, i64_w, i32_w]
      rfl
    refine done_ (done_of HT_.out (by kernel_rfl)) ?_
    obtain ⟨Ao12, co12, eo12⟩ := Kd.V_slice HO539.out
    subst eo12
    go_upto_region 7 with (first | ((with_reducible refine gate_callee (f := 36) rfl ?_); refine goesL_ (some 26) rfl rfl Try.func36 (by kernel_rfl) rfl #[.slice Ao12 t537.length co12, .int .i64 a0_1] rfl (by (try simp only [List.map_toArray, List.map_cons, List.map_nil]); first | done | rfl | (simp only [List.length_drop, List.length_take]; rfl)) ?_; (with_reducible refine (timer_Due.calls _ _ t537 a0_1 t540 t541 t542 _ ?side1 ?side2 A3.out).mono ?_); (case side1 => repeat (first | exact (Kd.V_reads' HO539.out).2.2 | (with_reducible refine Kd.C_alloc ?_ _) | (with_reducible refine Kd.C_drewN ?_ _) | (with_reducible refine Kd.C_drew ?_))); (case side2 => exact (Kd.V_reads' HO539.out).2.1); rintro e w13 ⟨v543, v545, rfl, ho0, ho1, hb⟩; refine ⟨_, rfl, ?_⟩; have n0_ := Aside0.mk (Kd.V_mono (Kd.V_told (Kd.V_told (Kd.V_old (by (with_reducible repeat (first | apply Kd.V_alloc | apply Kd.V_drewN | apply Kd.V_drew)); exact HO539.out) hb) (Kd.R_base ho0)) (Kd.R_base ho1)) (fun _ h_ => h_.1)); have n1_ := Aside0.mk (Kd.R_lower ho0 (below_size (by repeat (first | (with_reducible first | exact HB.out | apply below_alloc | apply pw_below_drewN | apply below_drew1 | refine below_set ?_ GE536.out) | exact HB.out)))); have n2_ := Aside0.mk (Kd.R_lower ho1 (below_size (by repeat (first | (with_reducible first | exact HB.out | apply below_alloc | apply pw_below_drewN | apply below_drew1 | refine below_set ?_ GE536.out) | exact HB.out)))); have n3_ := Aside0.mk (blk_below (g := gb536) (o := .cells #[.slice A0_0 l0_0.length c0_0, .int .i64 a0_1, .int .i64 a0_2, .int .i64 a0_3] 69 (0, 0)) (by (with_reducible repeat (first | refine blk_drewN ?_ _ | refine blk_drew ?_ | refine blk_alloc ?_ _)); exact BK536.out) hb); have n4_ := Aside0.mk (below_step (by repeat (first | (with_reducible first | exact HB.out | apply below_alloc | apply pw_below_drewN | apply below_drew1 | refine below_set ?_ GE536.out) | exact HB.out)) hb); clear HO539; clear BK536; clear HB; have HO539 := n0_; have HO544 := n1_; have HO546 := n2_; have BK536 := n3_; have HB := n4_; clear n0_ n1_ n2_ n3_ n4_; (try clear hb); (try clear hb2); (try clear hk); (try clear hi); (try clear ho0); (try clear ho1)) | ((with_reducible refine gate_callee (f := 38) rfl ?_); refine goesL_ (some 34) rfl rfl Try.func38 (by kernel_rfl) rfl #[.slice Ao12 t537.length co12, .int .i64 a0_2, .int .i64 a0_3] rfl (by (try simp only [List.map_toArray, List.map_cons, List.map_nil]); first | done | rfl | (simp only [List.length_drop, List.length_take]; rfl)) ?_; (with_reducible refine (timer_Drop.calls _ _ t537 a0_2 a0_3 t547 t548 _ ?side1 ?side2 A4.out).mono ?_); (case side1 => repeat (first | exact (Kd.V_reads' HO539.out).2.2 | (with_reducible refine Kd.C_alloc ?_ _) | (with_reducible refine Kd.C_drewN ?_ _) | (with_reducible refine Kd.C_drew ?_))); (case side2 => exact (Kd.V_reads' HO539.out).2.1); rintro e w14 ⟨v549, rfl, ho0, hb⟩; refine ⟨_, rfl, ?_⟩; have n0_ := Aside0.mk (Kd.V_elder' (by (with_reducible repeat (first | apply Kd.V_alloc | apply Kd.V_drewN | apply Kd.V_drew)); exact HO539.out) (Kd.R_base ho0) hb); have n1_ := Aside0.mk (Kd.R_elder' (by (with_reducible repeat (first | apply Kd.R_alloc | apply Kd.R_drewN | apply Kd.R_drew)); exact HO544.out) (Kd.R_base ho0) hb); have n2_ := Aside0.mk (Kd.R_elder' (by (with_reducible repeat (first | apply Kd.R_alloc | apply Kd.R_drewN | apply Kd.R_drew)); exact HO546.out) (Kd.R_base ho0) hb); have n3_ := Aside0.mk (Kd.R_lower (Kd.R_new' (Kd.R_new' ho0 (Kd.R_lt (by (with_reducible repeat (first | apply Kd.R_alloc | apply Kd.R_drewN | apply Kd.R_drew)); exact HO544.out))) (Kd.R_lt (by (with_reducible repeat (first | apply Kd.R_alloc | apply Kd.R_drewN | apply Kd.R_drew)); exact HO546.out))) (below_size (by repeat (first | (with_reducible first | exact HB.out | apply below_alloc | apply pw_below_drewN | apply below_drew1 | refine below_set ?_ GE536.out) | exact HB.out)))); have n4_ := Aside0.mk (blk_below (g := gb536) (o := .cells #[.slice A0_0 l0_0.length c0_0, .int .i64 a0_1, .int .i64 a0_2, .int .i64 a0_3] 69 (0, 0)) (by (with_reducible repeat (first | refine blk_drewN ?_ _ | refine blk_drew ?_ | refine blk_alloc ?_ _)); exact BK536.out) hb); have n5_ := Aside0.mk (below_step (by repeat (first | (with_reducible first | exact HB.out | apply below_alloc | apply pw_below_drewN | apply below_drew1 | refine below_set ?_ GE536.out) | exact HB.out)) hb); clear HO539; clear HO544; clear HO546; clear BK536; clear HB; have HO539 := n0_; have HO544 := n1_; have HO546 := n2_; have HO550 := n3_; have BK536 := n4_; have HB := n5_; clear n0_ n1_ n2_ n3_ n4_ n5_; (try clear hb); (try clear hb2); (try clear hk); (try clear hi); (try clear ho0)) | ((with_reducible refine gate_callee (f := 37) rfl ?_); refine goesL_ (some 39) rfl rfl Try.func37 (by kernel_rfl) rfl #[.slice Ao12 t537.length co12] rfl (by (try simp only [List.map_toArray, List.map_cons, List.map_nil]); first | done | rfl | (simp only [List.length_drop, List.length_take]; rfl)) ?_; (with_reducible refine (timer_Next.calls _ _ t537 t551 t552 t553 t554 t555 _ ?side1 ?side2 A5.out).mono ?_); (case side1 => repeat (first | exact (Kd.V_reads' HO539.out).2.2 | (with_reducible refine Kd.C_alloc ?_ _) | (with_reducible refine Kd.C_drewN ?_ _) | (with_reducible refine Kd.C_drew ?_))); (case side2 => exact (Kd.V_reads' HO539.out).2.1); rintro e w15 ⟨rfl, hb⟩; refine ⟨_, rfl, ?_⟩; have n0_ := Aside0.mk (Kd.V_below (by (with_reducible repeat (first | apply Kd.V_alloc | apply Kd.V_drewN | apply Kd.V_drew)); exact HO539.out) hb); have n1_ := Aside0.mk (Kd.R_below (by (with_reducible repeat (first | apply Kd.R_alloc | apply Kd.R_drewN | apply Kd.R_drew)); exact HO544.out) hb); have n2_ := Aside0.mk (Kd.R_below (by (with_reducible repeat (first | apply Kd.R_alloc | apply Kd.R_drewN | apply Kd.R_drew)); exact HO546.out) hb); have n3_ := Aside0.mk (Kd.R_below (by (with_reducible repeat (first | apply Kd.R_alloc | apply Kd.R_drewN | apply Kd.R_drew)); exact HO550.out) hb); have n4_ := Aside0.mk (blk_below (g := gb536) (o := .cells #[.slice A0_0 l0_0.length c0_0, .int .i64 a0_1, .int .i64 a0_2, .int .i64 a0_3] 69 (0, 0)) (by (with_reducible repeat (first | refine blk_drewN ?_ _ | refine blk_drew ?_ | refine blk_alloc ?_ _)); exact BK536.out) hb); have n5_ := Aside0.mk (below_step (by repeat (first | (with_reducible first | exact HB.out | apply below_alloc | apply pw_below_drewN | apply below_drew1 | refine below_set ?_ GE536.out) | exact HB.out)) hb); clear HO539; clear HO544; clear HO546; clear HO550; clear BK536; clear HB; have HO539 := n0_; have HO544 := n1_; have HO546 := n2_; have HO550 := n3_; have BK536 := n4_; have HB := n5_; clear n0_ n1_ n2_ n3_ n4_ n5_; (try clear hb); (try clear hb2); (try clear hk); (try clear hi)) | ((with_reducible refine gate_dst (N := 12) rfl ?_); (try (refine gate_guard (by rfl) ?_; dsimp only)); refine box_event ?hg (N := 12) ?hd (cs := #[.int .i64 0, .int .i64 0, .int .i64 0, .int .u64 0]) (t := 52) ?hr ?_; (case hd => rfl); (case hg => rfl); (case hr => first | (go_simp; done) | (go_simp; rfl)); intro gb556 hg w16 hbox hb; have n0_ := Aside0.mk (Kd.V_below (Kd.V_elderB (by (with_reducible repeat (first | apply Kd.V_alloc | apply Kd.V_drewN | apply Kd.V_drew)); exact HO539.out) gb556 (Nat.le_of_eq hg.symm)) hb); have n1_ := Aside0.mk (Kd.R_below (Kd.R_elderB (by (with_reducible repeat (first | apply Kd.R_alloc | apply Kd.R_drewN | apply Kd.R_drew)); exact HO544.out) gb556 (Nat.le_of_eq hg.symm)) hb); have n2_ := Aside0.mk (Kd.R_below (Kd.R_elderB (by (with_reducible repeat (first | apply Kd.R_alloc | apply Kd.R_drewN | apply Kd.R_drew)); exact HO546.out) gb556 (Nat.le_of_eq hg.symm)) hb); have n3_ := Aside0.mk (Kd.R_below (Kd.R_elderB (by (with_reducible repeat (first | apply Kd.R_alloc | apply Kd.R_drewN | apply Kd.R_drew)); exact HO550.out) gb556 (Nat.le_of_eq hg.symm)) hb); have n4_ := Aside0.mk (blk_below (g := gb536) (o := .cells #[.slice A0_0 l0_0.length c0_0, .int .i64 a0_1, .int .i64 a0_2, .int .i64 a0_3] 69 (0, 0)) (by (with_reducible repeat (first | refine blk_drewN ?_ _ | refine blk_drew ?_ | refine blk_alloc ?_ _)); exact BK536.out) hb); have n5_ := Aside0.mk (below_step (by repeat (first | (with_reducible first | exact HB.out | apply below_alloc | apply pw_below_drewN | apply below_drew1 | refine below_set ?_ GE536.out) | exact HB.out)) hb); have n6_ := Aside0.mk (hbox); have n7_ := Aside0.mk ((by rw [hg]; exact (below_size (by repeat (first | (with_reducible first | exact HB.out | apply below_alloc | apply pw_below_drewN | apply below_drew1 | refine below_set ?_ GE536.out) | exact HB.out))) : w.heap.size ≤ gb556)); have n8_ := Aside0.mk ((by rw [hg]; exact (below_size (by repeat (first | (with_reducible first | exact HB.out | apply below_alloc | apply pw_below_drewN | apply below_drew1 | refine below_set ?_ GE536.out) | exact HB.out))) : w.heap.size ≤ gb556)); have n9_ := Aside0.mk ((by rw [hg]; exact Nat.ne_of_lt (blk_lt (g := gb536) (o := .cells #[.slice A0_0 l0_0.length c0_0, .int .i64 a0_1, .int .i64 a0_2, .int .i64 a0_3] 69 (0, 0)) (by (with_reducible repeat (first | refine blk_drewN ?_ _ | refine blk_drew ?_ | refine blk_alloc ?_ _)); exact BK536.out)) : gb536 ≠ gb556)); have n10_ := Aside0.mk ((by rw [hg]; exact Nat.ne_of_gt (blk_lt (g := gb536) (o := .cells #[.slice A0_0 l0_0.length c0_0, .int .i64 a0_1, .int .i64 a0_2, .int .i64 a0_3] 69 (0, 0)) (by (with_reducible repeat (first | refine blk_drewN ?_ _ | refine blk_drew ?_ | refine blk_alloc ?_ _)); exact BK536.out)) : gb556 ≠ gb536)); clear HO539; clear HO544; clear HO546; clear HO550; clear BK536; clear HB; have HO539 := n0_; have HO544 := n1_; have HO546 := n2_; have HO550 := n3_; have BK536 := n4_; have HB := n5_; have BK556 := n6_; have GW556 := n7_; have GE556 := n8_; have NB536_556 := n9_; have NB556_536 := n10_; clear n0_ n1_ n2_ n3_ n4_ n5_ n6_ n7_ n8_ n9_ n10_; clear hb hbox hg; have hnb17 := NB556_536.out; have hnc17 := NB536_556.out; have hcz18_0 : w16.cell? ⟨gb556, 0, none⟩ = some (.int .i64 0) := (blk_cell BK556.out 0).trans rfl; have hcz18_1 : w16.cell? ⟨gb556, 1, none⟩ = some (.int .i64 0) := (blk_cell BK556.out 1).trans rfl; have hcz18_2 : w16.cell? ⟨gb556, 2, none⟩ = some (.int .i64 0) := (blk_cell BK556.out 2).trans rfl; have hcz18_3 : w16.cell? ⟨gb556, 3, none⟩ = some (.int .u64 0) := (blk_cell BK556.out 3).trans rfl; have hfz18_0 := blk_frozen BK556.out 0; have hfz18_1 := blk_frozen BK556.out 1; have hfz18_2 := blk_frozen BK556.out 2; have hfz18_3 := blk_frozen BK556.out 3) | ((with_reducible refine gate_callee (f := 33) rfl ?_); refine goesL_ (some 43) rfl rfl Try.func33 (by kernel_rfl) rfl #[.slice Ao12 t537.length co12] rfl (by (try simp only [List.map_toArray, List.map_cons, List.map_nil]); first | done | rfl | (simp only [List.length_drop, List.length_take]; rfl)) ?_; (with_reducible refine (tattleref03_May.calls k _ _ t537 true _ ?side1 ?side2 A6.out).mono ?_); (case side1 => refine (Kd.V_reads' (e := 52) (base := w.heap.size) (ok := fun k_ => ((((k_ ≠ gb536 ∧ some k_ ≠ (v543 : Value).ownBlock) ∧ some k_ ≠ (v545 : Value).ownBlock) ∧ some k_ ≠ (v549 : Value).ownBlock) ∧ k_ ≠ gb556)) (n := t537.length) (c := co12) ?_).2.2; exact (by (with_reducible repeat (first | apply Kd.V_alloc | apply Kd.V_drewN | apply Kd.V_drew)); exact (Kd.V_mono (Kd.V_far (p := ⟨gb556, 3, none⟩) (Kd.V_far (p := ⟨gb556, 2, none⟩) (Kd.V_far (p := ⟨gb556, 1, none⟩) (Kd.V_far (p := ⟨gb556, 0, none⟩) (Kd.V_mono HO539.out (fun k_ hk => (⟨hk, hk.2⟩ : _ ∧ k_ ≠ gb556))) (fun _ hk => hk.2) (.int .i64 t551)) (fun _ hk => hk.2) (.int .i64 t552)) (fun _ hk => hk.2) (.int .i64 t553)) (fun _ hk => hk.2) (.int .u64 t554)) (fun _ h_ => h_.1)))); (case side2 => exact (Kd.V_reads' HO539.out).2.1); rintro e w19 ⟨rfl, hb⟩; refine ⟨_, rfl, ?_⟩; have n0_ := Aside0.mk (Kd.V_below (by (with_reducible repeat (first | apply Kd.V_alloc | apply Kd.V_drewN | apply Kd.V_drew)); exact (Kd.V_mono (Kd.V_far (p := ⟨gb556, 3, none⟩) (Kd.V_far (p := ⟨gb556, 2, none⟩) (Kd.V_far (p := ⟨gb556, 1, none⟩) (Kd.V_far (p := ⟨gb556, 0, none⟩) (Kd.V_mono HO539.out (fun k_ hk => (⟨hk, hk.2⟩ : _ ∧ k_ ≠ gb556))) (fun _ hk => hk.2) (.int .i64 t551)) (fun _ hk => hk.2) (.int .i64 t552)) (fun _ hk => hk.2) (.int .i64 t553)) (fun _ hk => hk.2) (.int .u64 t554)) (fun _ h_ => h_.1))) hb); have n1_ := Aside0.mk (Kd.R_below (by (with_reducible repeat (first | apply Kd.R_alloc | apply Kd.R_drewN | apply Kd.R_drew)); exact (Kd.R_mono (Kd.R_far (p := ⟨gb556, 3, none⟩) (Kd.R_far (p := ⟨gb556, 2, none⟩) (Kd.R_far (p := ⟨gb556, 1, none⟩) (Kd.R_far (p := ⟨gb556, 0, none⟩) (Kd.R_mono HO544.out (fun k_ hk => (⟨hk, hk.2⟩ : _ ∧ k_ ≠ gb556))) (fun _ hk => hk.2) (.int .i64 t551)) (fun _ hk => hk.2) (.int .i64 t552)) (fun _ hk => hk.2) (.int .i64 t553)) (fun _ hk => hk.2) (.int .u64 t554)) (fun _ h_ => h_.1))) hb); have n2_ := Aside0.mk (Kd.R_below (by (with_reducible repeat (first | apply Kd.R_alloc | apply Kd.R_drewN | apply Kd.R_drew)); exact (Kd.R_mono (Kd.R_far (p := ⟨gb556, 3, none⟩) (Kd.R_far (p := ⟨gb556, 2, none⟩) (Kd.R_far (p := ⟨gb556, 1, none⟩) (Kd.R_far (p := ⟨gb556, 0, none⟩) (Kd.R_mono HO546.out (fun k_ hk => (⟨hk, hk.2⟩ : _ ∧ k_ ≠ gb556))) (fun _ hk => hk.2) (.int .i64 t551)) (fun _ hk => hk.2) (.int .i64 t552)) (fun _ hk => hk.2) (.int .i64 t553)) (fun _ hk => hk.2) (.int .u64 t554)) (fun _ h_ => h_.1))) hb); have n3_ := Aside0.mk (Kd.R_below (by (with_reducible repeat (first | apply Kd.R_alloc | apply Kd.R_drewN | apply Kd.R_drew)); exact (Kd.R_mono (Kd.R_far (p := ⟨gb556, 3, none⟩) (Kd.R_far (p := ⟨gb556, 2, none⟩) (Kd.R_far (p := ⟨gb556, 1, none⟩) (Kd.R_far (p := ⟨gb556, 0, none⟩) (Kd.R_mono HO550.out (fun k_ hk => (⟨hk, hk.2⟩ : _ ∧ k_ ≠ gb556))) (fun _ hk => hk.2) (.int .i64 t551)) (fun _ hk => hk.2) (.int .i64 t552)) (fun _ hk => hk.2) (.int .i64 t553)) (fun _ hk => hk.2) (.int .u64 t554)) (fun _ h_ => h_.1))) hb); have n4_ := Aside0.mk (blk_below (g := gb536) (o := .cells #[.slice A0_0 l0_0.length c0_0, .int .i64 a0_1, .int .i64 a0_2, .int .i64 a0_3] 69 (0, 0)) (by (with_reducible repeat (first | refine blk_drewN ?_ _ | refine blk_drew ?_ | refine blk_alloc ?_ _)); refine blk_far ?_ NB536_556.out _; (with_reducible repeat (first | refine blk_drewN ?_ _ | refine blk_drew ?_ | refine blk_alloc ?_ _)); refine blk_far ?_ NB536_556.out _; (with_reducible repeat (first | refine blk_drewN ?_ _ | refine blk_drew ?_ | refine blk_alloc ?_ _)); refine blk_far ?_ NB536_556.out _; (with_reducible repeat (first | refine blk_drewN ?_ _ | refine blk_drew ?_ | refine blk_alloc ?_ _)); refine blk_far ?_ NB536_556.out _; (with_reducible repeat (first | refine blk_drewN ?_ _ | refine blk_drew ?_ | refine blk_alloc ?_ _)); exact BK536.out) hb); have n5_ := Aside0.mk (blk_below (g := gb556) (o := .cells #[.int .i64 t551, .int .i64 t552, .int .i64 t553, .int .u64 t554] 52 (0, 0)) (by (with_reducible repeat (first | refine blk_drewN ?_ _ | refine blk_drew ?_ | refine blk_alloc ?_ _)); refine blk_put (cs := #[.int .i64 t551, .int .i64 t552, .int .i64 t553, .int .u64 0]) ?_ 3 _ rfl; (with_reducible repeat (first | refine blk_drewN ?_ _ | refine blk_drew ?_ | refine blk_alloc ?_ _)); refine blk_put (cs := #[.int .i64 t551, .int .i64 t552, .int .i64 0, .int .u64 0]) ?_ 2 _ rfl; (with_reducible repeat (first | refine blk_drewN ?_ _ | refine blk_drew ?_ | refine blk_alloc ?_ _)); refine blk_put (cs := #[.int .i64 t551, .int .i64 0, .int .i64 0, .int .u64 0]) ?_ 1 _ rfl; (with_reducible repeat (first | refine blk_drewN ?_ _ | refine blk_drew ?_ | refine blk_alloc ?_ _)); refine blk_put (cs := #[.int .i64 0, .int .i64 0, .int .i64 0, .int .u64 0]) ?_ 0 _ rfl; (with_reducible repeat (first | refine blk_drewN ?_ _ | refine blk_drew ?_ | refine blk_alloc ?_ _)); exact BK556.out) hb); have n6_ := Aside0.mk (below_step (by repeat (first | (with_reducible first | exact HB.out | apply below_alloc | apply pw_below_drewN | apply below_drew1 | refine below_set ?_ GE536.out | refine below_set ?_ GE556.out) | exact HB.out)) hb); clear HO539; clear HO544; clear HO546; clear HO550; clear BK536; clear BK556; clear HB; have HO539 := n0_; have HO544 := n1_; have HO546 := n2_; have HO550 := n3_; have BK536 := n4_; have BK556 := n5_; have HB := n6_; clear n0_ n1_ n2_ n3_ n4_ n5_ n6_; (try clear hb); (try clear hb2); (try clear hk); (try clear hi)))
    (try simp only [Act.put, List.setIfInBounds_toArray, List.set_cons_zero, List.set_cons_succ])
    go_cut [108] (fun v108 wc => ∃ (kq : Nat) (x108_7 : Bool), v108 = .bool x108_7 ∧ Aside0 (tattlelaw03_TimerTakes.j0 kq t537 t555 x108_7 t551 t552 t553 t554 = some r) ∧ Aside0 (kq ≤ k) ∧ Aside0 (Kd.V k52 52 wc w.heap.size (fun k_ => k_ ≠ gb536 ∧ k_ ≠ gb556) (.slice Ao12 t537.length co12) t537) ∧ Aside0 (wc.heap[gb536]? = some (.cells #[(.slice A0_0 l0_0.length c0_0), .int .i64 a0_1, .int .i64 a0_2, .int .i64 a0_3] 69 (0, 0))) ∧ Aside0 (wc.heap[gb556]? = some (.cells #[.int .i64 t551, .int .i64 t552, .int .i64 t553, .int .u64 t554] 52 (0, 0))) ∧ Aside0 (Below w.heap.size w wc))
    case first =>
      have H := HC8.out
      clear HC8
      replace H := Option.bind_eq_some_iff.mp H
      obtain ⟨t559, A200, H⟩ := H
      replace H : ((tattleref03_Same.f k t540 t559).bind fun t562 => (if t562 = true then ((tattleref03_Due.f k t537 a0_1 false).bind fun t563 => ((tattleref03_Same.f k t541 t563).bind fun t566 => (if t566 = true then (if t542 = 0 then ((tattleref03_Drop.f k t537 a0_2 a0_3).bind fun t567 => ((tattleref03_Same.f k t547 t567).bind fun t570 => (if t570 = true then (tattlelaw03_TimerTakes.j0 k t537 t555 (t548 != 0) t551 t552 t553 t554) else (tattlelaw03_TimerTakes.j0 k t537 t555 true t551 t552 t553 t554)))) else (tattlelaw03_TimerTakes.j0 k t537 t555 true t551 t552 t553 t554)) else (tattlelaw03_TimerTakes.j0 k t537 t555 true t551 t552 t553 t554)))) else (tattlelaw03_TimerTakes.j0 k t537 t555 true t551 t552 t553 t554))) = some r := H
      have A20 := Aside0.mk A200
      clear A200
      replace H := Option.bind_eq_some_iff.mp H
      obtain ⟨t562, A210, H⟩ := H
      replace H : (if t562 = true then ((tattleref03_Due.f k t537 a0_1 false).bind fun t563 => ((tattleref03_Same.f k t541 t563).bind fun t566 => (if t566 = true then (if t542 = 0 then ((tattleref03_Drop.f k t537 a0_2 a0_3).bind fun t567 => ((tattleref03_Same.f k t547 t567).bind fun t570 => (if t570 = true then (tattlelaw03_TimerTakes.j0 k t537 t555 (t548 != 0) t551 t552 t553 t554) else (tattlelaw03_TimerTakes.j0 k t537 t555 true t551 t552 t553 t554)))) else (tattlelaw03_TimerTakes.j0 k t537 t555 true t551 t552 t553 t554)) else (tattlelaw03_TimerTakes.j0 k t537 t555 true t551 t552 t553 t554)))) else (tattlelaw03_TimerTakes.j0 k t537 t555 true t551 t552 t553 t554)) = some r := H
      have A21 := Aside0.mk A210
      clear A210
      by_cases c22 : t562 = true
      · subst c22
        have H1 : ((tattleref03_Due.f k t537 a0_1 false).bind fun t563 => ((tattleref03_Same.f k t541 t563).bind fun t566 => (if t566 = true then (if t542 = 0 then ((tattleref03_Drop.f k t537 a0_2 a0_3).bind fun t567 => ((tattleref03_Same.f k t547 t567).bind fun t570 => (if t570 = true then (tattlelaw03_TimerTakes.j0 k t537 t555 (t548 != 0) t551 t552 t553 t554) else (tattlelaw03_TimerTakes.j0 k t537 t555 true t551 t552 t553 t554)))) else (tattlelaw03_TimerTakes.j0 k t537 t555 true t551 t552 t553 t554)) else (tattlelaw03_TimerTakes.j0 k t537 t555 true t551 t552 t553 t554)))) = some r := by rw [if_pos rfl] at H; exact H
        clear H
        have H := H1
        clear H1
        replace H := Option.bind_eq_some_iff.mp H
        obtain ⟨t563, A230, H⟩ := H
        replace H : ((tattleref03_Same.f k t541 t563).bind fun t566 => (if t566 = true then (if t542 = 0 then ((tattleref03_Drop.f k t537 a0_2 a0_3).bind fun t567 => ((tattleref03_Same.f k t547 t567).bind fun t570 => (if t570 = true then (tattlelaw03_TimerTakes.j0 k t537 t555 (t548 != 0) t551 t552 t553 t554) else (tattlelaw03_TimerTakes.j0 k t537 t555 true t551 t552 t553 t554)))) else (tattlelaw03_TimerTakes.j0 k t537 t555 true t551 t552 t553 t554)) else (tattlelaw03_TimerTakes.j0 k t537 t555 true t551 t552 t553 t554))) = some r := H
        have A23 := Aside0.mk A230
        clear A230
        replace H := Option.bind_eq_some_iff.mp H
        obtain ⟨t566, A240, H⟩ := H
        replace H : (if t566 = true then (if t542 = 0 then ((tattleref03_Drop.f k t537 a0_2 a0_3).bind fun t567 => ((tattleref03_Same.f k t547 t567).bind fun t570 => (if t570 = true then (tattlelaw03_TimerTakes.j0 k t537 t555 (t548 != 0) t551 t552 t553 t554) else (tattlelaw03_TimerTakes.j0 k t537 t555 true t551 t552 t553 t554)))) else (tattlelaw03_TimerTakes.j0 k t537 t555 true t551 t552 t553 t554)) else (tattlelaw03_TimerTakes.j0 k t537 t555 true t551 t552 t553 t554)) = some r := H
        have A24 := Aside0.mk A240
        clear A240
        by_cases c25 : t566 = true
        · subst c25
          have H1 : (if t542 = 0 then ((tattleref03_Drop.f k t537 a0_2 a0_3).bind fun t567 => ((tattleref03_Same.f k t547 t567).bind fun t570 => (if t570 = true then (tattlelaw03_TimerTakes.j0 k t537 t555 (t548 != 0) t551 t552 t553 t554) else (tattlelaw03_TimerTakes.j0 k t537 t555 true t551 t552 t553 t554)))) else (tattlelaw03_TimerTakes.j0 k t537 t555 true t551 t552 t553 t554)) = some r := by rw [if_pos rfl] at H; exact H
          clear H
          have H := H1
          clear H1
          by_cases c26 : t542 = 0
          · rw [if_pos c26] at H
            have c26b0 : (t542 == 0) = true := beq_iff_eq.mpr c26
            have c26b1 : (t542 != 0) = false := bne_eq_false_iff_eq.mpr c26
            clear c26
            (first | rw [c26b0] | (simp only [i64_w, i32_w]; rw [c26b0]) | skip)
            replace H := Option.bind_eq_some_iff.mp H
            obtain ⟨t567, A270, H⟩ := H
            replace H : ((tattleref03_Same.f k t547 t567).bind fun t570 => (if t570 = true then (tattlelaw03_TimerTakes.j0 k t537 t555 (t548 != 0) t551 t552 t553 t554) else (tattlelaw03_TimerTakes.j0 k t537 t555 true t551 t552 t553 t554))) = some r := H
            have A27 := Aside0.mk A270
            clear A270
            replace H := Option.bind_eq_some_iff.mp H
            obtain ⟨t570, A280, H⟩ := H
            replace H : (if t570 = true then (tattlelaw03_TimerTakes.j0 k t537 t555 (t548 != 0) t551 t552 t553 t554) else (tattlelaw03_TimerTakes.j0 k t537 t555 true t551 t552 t553 t554)) = some r := H
            have A28 := Aside0.mk A280
            clear A280
            by_cases c29 : t570 = true
            · subst c29
              have H1 : (tattlelaw03_TimerTakes.j0 k t537 t555 (t548 != 0) t551 t552 t553 t554) = some r := by rw [if_pos rfl] at H; exact H
              clear H
              have H := H1
              clear H1
              have H' := Aside0.mk H
              clear H
              go_wp2_with (first | ((with_reducible refine gate_callee (f := 39) rfl ?_); refine goesL_ (some 81) rfl rfl Try.func39 (by kernel_rfl) rfl #[.slice Ao12 t537.length co12, .int .i64 a0_1, .bool true] rfl (by (try simp only [List.map_toArray, List.map_cons, List.map_nil]); first | done | rfl | (simp only [List.length_drop, List.length_take]; rfl)) ?_; (with_reducible refine (tattleref03_Due.calls k _ _ t537 a0_1 true t559 _ ?side1 ?side2 A20.out).mono ?_); (case side1 => repeat (first | exact (Kd.V_reads' HO539.out).2.2 | (with_reducible refine Kd.C_alloc ?_ _) | (with_reducible refine Kd.C_drewN ?_ _) | (with_reducible refine Kd.C_drew ?_))); (case side2 => exact (Kd.V_reads' HO539.out).2.1); rintro e w30 ⟨v560, rfl, ho0, hb⟩; refine ⟨_, rfl, ?_⟩; have n0_ := Aside0.mk (Kd.V_elder' (by (with_reducible repeat (first | apply Kd.V_alloc | apply Kd.V_drewN | apply Kd.V_drew)); exact HO539.out) (Kd.R_base ho0) hb); have n1_ := Aside0.mk (Kd.R_elder' (by (with_reducible repeat (first | apply Kd.R_alloc | apply Kd.R_drewN | apply Kd.R_drew)); exact HO544.out) (Kd.R_base ho0) hb); have n2_ := Aside0.mk (Kd.R_elder' (by (with_reducible repeat (first | apply Kd.R_alloc | apply Kd.R_drewN | apply Kd.R_drew)); exact HO546.out) (Kd.R_base ho0) hb); have n3_ := Aside0.mk (Kd.R_elder' (by (with_reducible repeat (first | apply Kd.R_alloc | apply Kd.R_drewN | apply Kd.R_drew)); exact HO550.out) (Kd.R_base ho0) hb); have n4_ := Aside0.mk (Kd.R_lower (Kd.R_newB (Kd.R_new' (Kd.R_new' (Kd.R_new' ho0 (Kd.R_lt (by (with_reducible repeat (first | apply Kd.R_alloc | apply Kd.R_drewN | apply Kd.R_drew)); exact HO544.out))) (Kd.R_lt (by (with_reducible repeat (first | apply Kd.R_alloc | apply Kd.R_drewN | apply Kd.R_drew)); exact HO546.out))) (Kd.R_lt (by (with_reducible repeat (first | apply Kd.R_alloc | apply Kd.R_drewN | apply Kd.R_drew)); exact HO550.out))) (g := gb556) (o := .cells #[.int .i64 t551, .int .i64 t552, .int .i64 t553, .int .u64 t554] 52 (0, 0)) (by (with_reducible repeat (first | refine blk_drewN ?_ _ | refine blk_drew ?_ | refine blk_alloc ?_ _)); exact BK556.out)) (below_size (by repeat (first | (with_reducible first | exact HB.out | apply below_alloc | apply pw_below_drewN | apply below_drew1 | refine below_set ?_ GE536.out | refine below_set ?_ GE556.out) | exact HB.out)))); have n5_ := Aside0.mk (blk_below (g := gb536) (o := .cells #[.slice A0_0 l0_0.length c0_0, .int .i64 a0_1, .int .i64 a0_2, .int .i64 a0_3] 69 (0, 0)) (by (with_reducible repeat (first | refine blk_drewN ?_ _ | refine blk_drew ?_ | refine blk_alloc ?_ _)); exact BK536.out) hb); have n6_ := Aside0.mk (blk_below (g := gb556) (o := .cells #[.int .i64 t551, .int .i64 t552, .int .i64 t553, .int .u64 t554] 52 (0, 0)) (by (with_reducible repeat (first | refine blk_drewN ?_ _ | refine blk_drew ?_ | refine blk_alloc ?_ _)); exact BK556.out) hb); have n7_ := Aside0.mk (below_step (by repeat (first | (with_reducible first | exact HB.out | apply below_alloc | apply pw_below_drewN | apply below_drew1 | refine below_set ?_ GE536.out | refine below_set ?_ GE556.out) | exact HB.out)) hb); clear HO539; clear HO544; clear HO546; clear HO550; clear BK536; clear BK556; clear HB; have HO539 := n0_; have HO544 := n1_; have HO546 := n2_; have HO550 := n3_; have HO561 := n4_; have BK536 := n5_; have BK556 := n6_; have HB := n7_; clear n0_ n1_ n2_ n3_ n4_ n5_ n6_ n7_; (try clear hb); (try clear hb2); (try clear hk); (try clear hi); (try clear ho0); obtain ⟨Ao31, co31, eo31⟩ := Kd.R_slice HO544.out; subst eo31; obtain ⟨Ao32, co32, eo32⟩ := Kd.R_slice HO561.out; subst eo32) | ((with_reducible refine gate_callee (f := 28) rfl ?_); refine goesL_ (some 82) rfl rfl Try.func28 (by kernel_rfl) rfl #[.slice Ao31 t540.length co31, .slice Ao32 t559.length co32] rfl (by (try simp only [List.map_toArray, List.map_cons, List.map_nil]); first | done | rfl | (simp only [List.length_drop, List.length_take]; rfl)) ?_; (with_reducible refine (tattleref03_Same.calls k _ _ t540 _ _ t559 true _ ?side1 ?side2 ?side3 ?side4 A21.out).mono ?_); (case side1 => repeat (first | exact (Kd.R_reads' HO544.out).2.2 | (with_reducible refine Kd.C_alloc ?_ _) | (with_reducible refine Kd.C_drewN ?_ _) | (with_reducible refine Kd.C_drew ?_))); (case side2 => exact (Kd.R_reads' HO544.out).2.1); (case side3 => repeat (first | exact (Kd.R_reads' HO561.out).2.2 | (with_reducible refine Kd.C_alloc ?_ _) | (with_reducible refine Kd.C_drewN ?_ _) | (with_reducible refine Kd.C_drew ?_))); (case side4 => exact (Kd.R_reads' HO561.out).2.1); rintro e w' ⟨rfl, ⟨nd, rfl⟩⟩; refine ⟨_, rfl, ?_⟩) | (go_at_call 39; (with_reducible refine (tattleref03_Due.calls k _ _ t537 a0_1 false t563 _ ?side1 ?side2 A23.out).mono ?_); (case side1 => repeat (first | exact (Kd.V_reads' HO539.out).2.2 | (with_reducible refine Kd.C_alloc ?_ _) | (with_reducible refine Kd.C_drewN ?_ _) | (with_reducible refine Kd.C_drew ?_))); (case side2 => exact (Kd.V_reads' HO539.out).2.1); rintro e w33 ⟨v564, rfl, ho0, hb⟩; have n0_ := Aside0.mk (Kd.V_elder' (by (with_reducible repeat (first | apply Kd.V_alloc | apply Kd.V_drewN | apply Kd.V_drew)); exact HO539.out) (Kd.R_base ho0) hb); have n1_ := Aside0.mk (Kd.R_elder' (by (with_reducible repeat (first | apply Kd.R_alloc | apply Kd.R_drewN | apply Kd.R_drew)); exact HO544.out) (Kd.R_base ho0) hb); have n2_ := Aside0.mk (Kd.R_elder' (by (with_reducible repeat (first | apply Kd.R_alloc | apply Kd.R_drewN | apply Kd.R_drew)); exact HO546.out) (Kd.R_base ho0) hb); have n3_ := Aside0.mk (Kd.R_elder' (by (with_reducible repeat (first | apply Kd.R_alloc | apply Kd.R_drewN | apply Kd.R_drew)); exact HO550.out) (Kd.R_base ho0) hb); have n4_ := Aside0.mk (Kd.R_elder' (by (with_reducible repeat (first | apply Kd.R_alloc | apply Kd.R_drewN | apply Kd.R_drew)); exact HO561.out) (Kd.R_base ho0) hb); have n5_ := Aside0.mk (Kd.R_lower (Kd.R_newB (Kd.R_new' (Kd.R_new' (Kd.R_new' (Kd.R_new' ho0 (Kd.R_lt (by (with_reducible repeat (first | apply Kd.R_alloc | apply Kd.R_drewN | apply Kd.R_drew)); exact HO544.out))) (Kd.R_lt (by (with_reducible repeat (first | apply Kd.R_alloc | apply Kd.R_drewN | apply Kd.R_drew)); exact HO546.out))) (Kd.R_lt (by (with_reducible repeat (first | apply Kd.R_alloc | apply Kd.R_drewN | apply Kd.R_drew)); exact HO550.out))) (Kd.R_lt (by (with_reducible repeat (first | apply Kd.R_alloc | apply Kd.R_drewN | apply Kd.R_drew)); exact HO561.out))) (g := gb556) (o := .cells #[.int .i64 t551, .int .i64 t552, .int .i64 t553, .int .u64 t554] 52 (0, 0)) (by (with_reducible repeat (first | refine blk_drewN ?_ _ | refine blk_drew ?_ | refine blk_alloc ?_ _)); exact BK556.out)) (below_size (by repeat (first | (with_reducible first | exact HB.out | apply below_alloc | apply pw_below_drewN | apply below_drew1 | refine below_set ?_ GE536.out | refine below_set ?_ GE556.out) | exact HB.out)))); have n6_ := Aside0.mk (blk_below (g := gb536) (o := .cells #[.slice A0_0 l0_0.length c0_0, .int .i64 a0_1, .int .i64 a0_2, .int .i64 a0_3] 69 (0, 0)) (by (with_reducible repeat (first | refine blk_drewN ?_ _ | refine blk_drew ?_ | refine blk_alloc ?_ _)); exact BK536.out) hb); have n7_ := Aside0.mk (blk_below (g := gb556) (o := .cells #[.int .i64 t551, .int .i64 t552, .int .i64 t553, .int .u64 t554] 52 (0, 0)) (by (with_reducible repeat (first | refine blk_drewN ?_ _ | refine blk_drew ?_ | refine blk_alloc ?_ _)); exact BK556.out) hb); have n8_ := Aside0.mk (below_step (by repeat (first | (with_reducible first | exact HB.out | apply below_alloc | apply pw_below_drewN | apply below_drew1 | refine below_set ?_ GE536.out | refine below_set ?_ GE556.out) | exact HB.out)) hb); clear HO539; clear HO544; clear HO546; clear HO550; clear HO561; clear BK536; clear BK556; clear HB; have HO539 := n0_; have HO544 := n1_; have HO546 := n2_; have HO550 := n3_; have HO561 := n4_; have HO565 := n5_; have BK536 := n6_; have BK556 := n7_; have HB := n8_; clear n0_ n1_ n2_ n3_ n4_ n5_ n6_ n7_ n8_; (try clear hb); (try clear hb2); (try clear hk); (try clear hi); (try clear ho0); obtain ⟨Ao34, co34, eo34⟩ := Kd.R_slice HO546.out; subst eo34; obtain ⟨Ao35, co35, eo35⟩ := Kd.R_slice HO565.out; subst eo35) | (go_at_call 28; (with_reducible refine (tattleref03_Same.calls k _ _ t541 _ _ t563 true _ ?side1 ?side2 ?side3 ?side4 A24.out).mono ?_); (case side1 => repeat (first | exact (Kd.R_reads' HO546.out).2.2 | (with_reducible refine Kd.C_alloc ?_ _) | (with_reducible refine Kd.C_drewN ?_ _) | (with_reducible refine Kd.C_drew ?_))); (case side2 => exact (Kd.R_reads' HO546.out).2.1); (case side3 => repeat (first | exact (Kd.R_reads' HO565.out).2.2 | (with_reducible refine Kd.C_alloc ?_ _) | (with_reducible refine Kd.C_drewN ?_ _) | (with_reducible refine Kd.C_drew ?_))); (case side4 => exact (Kd.R_reads' HO565.out).2.1); rintro e w' ⟨rfl, ⟨nd, rfl⟩⟩) | (go_at_call 40; (with_reducible refine (tattleref03_Drop.calls k _ _ t537 a0_2 a0_3 t567 _ ?side1 ?side2 A27.out).mono ?_); (case side1 => repeat (first | exact (Kd.V_reads' HO539.out).2.2 | (with_reducible refine Kd.C_alloc ?_ _) | (with_reducible refine Kd.C_drewN ?_ _) | (with_reducible refine Kd.C_drew ?_))); (case side2 => exact (Kd.V_reads' HO539.out).2.1); rintro e w36 ⟨v568, rfl, ho0, hb⟩; have n0_ := Aside0.mk (Kd.V_elder' (by (with_reducible repeat (first | apply Kd.V_alloc | apply Kd.V_drewN | apply Kd.V_drew)); exact HO539.out) (Kd.R_base ho0) hb); have n1_ := Aside0.mk (Kd.R_elder' (by (with_reducible repeat (first | apply Kd.R_alloc | apply Kd.R_drewN | apply Kd.R_drew)); exact HO544.out) (Kd.R_base ho0) hb); have n2_ := Aside0.mk (Kd.R_elder' (by (with_reducible repeat (first | apply Kd.R_alloc | apply Kd.R_drewN | apply Kd.R_drew)); exact HO546.out) (Kd.R_base ho0) hb); have n3_ := Aside0.mk (Kd.R_elder' (by (with_reducible repeat (first | apply Kd.R_alloc | apply Kd.R_drewN | apply Kd.R_drew)); exact HO550.out) (Kd.R_base ho0) hb); have n4_ := Aside0.mk (Kd.R_elder' (by (with_reducible repeat (first | apply Kd.R_alloc | apply Kd.R_drewN | apply Kd.R_drew)); exact HO561.out) (Kd.R_base ho0) hb); have n5_ := Aside0.mk (Kd.R_elder' (by (with_reducible repeat (first | apply Kd.R_alloc | apply Kd.R_drewN | apply Kd.R_drew)); exact HO565.out) (Kd.R_base ho0) hb); have n6_ := Aside0.mk (Kd.R_lower (Kd.R_newB (Kd.R_new' (Kd.R_new' (Kd.R_new' (Kd.R_new' (Kd.R_new' ho0 (Kd.R_lt (by (with_reducible repeat (first | apply Kd.R_alloc | apply Kd.R_drewN | apply Kd.R_drew)); exact HO544.out))) (Kd.R_lt (by (with_reducible repeat (first | apply Kd.R_alloc | apply Kd.R_drewN | apply Kd.R_drew)); exact HO546.out))) (Kd.R_lt (by (with_reducible repeat (first | apply Kd.R_alloc | apply Kd.R_drewN | apply Kd.R_drew)); exact HO550.out))) (Kd.R_lt (by (with_reducible repeat (first | apply Kd.R_alloc | apply Kd.R_drewN | apply Kd.R_drew)); exact HO561.out))) (Kd.R_lt (by (with_reducible repeat (first | apply Kd.R_alloc | apply Kd.R_drewN | apply Kd.R_drew)); exact HO565.out))) (g := gb556) (o := .cells #[.int .i64 t551, .int .i64 t552, .int .i64 t553, .int .u64 t554] 52 (0, 0)) (by (with_reducible repeat (first | refine blk_drewN ?_ _ | refine blk_drew ?_ | refine blk_alloc ?_ _)); exact BK556.out)) (below_size (by repeat (first | (with_reducible first | exact HB.out | apply below_alloc | apply pw_below_drewN | apply below_drew1 | refine below_set ?_ GE536.out | refine below_set ?_ GE556.out) | exact HB.out)))); have n7_ := Aside0.mk (blk_below (g := gb536) (o := .cells #[.slice A0_0 l0_0.length c0_0, .int .i64 a0_1, .int .i64 a0_2, .int .i64 a0_3] 69 (0, 0)) (by (with_reducible repeat (first | refine blk_drewN ?_ _ | refine blk_drew ?_ | refine blk_alloc ?_ _)); exact BK536.out) hb); have n8_ := Aside0.mk (blk_below (g := gb556) (o := .cells #[.int .i64 t551, .int .i64 t552, .int .i64 t553, .int .u64 t554] 52 (0, 0)) (by (with_reducible repeat (first | refine blk_drewN ?_ _ | refine blk_drew ?_ | refine blk_alloc ?_ _)); exact BK556.out) hb); have n9_ := Aside0.mk (below_step (by repeat (first | (with_reducible first | exact HB.out | apply below_alloc | apply pw_below_drewN | apply below_drew1 | refine below_set ?_ GE536.out | refine below_set ?_ GE556.out) | exact HB.out)) hb); clear HO539; clear HO544; clear HO546; clear HO550; clear HO561; clear HO565; clear BK536; clear BK556; clear HB; have HO539 := n0_; have HO544 := n1_; have HO546 := n2_; have HO550 := n3_; have HO561 := n4_; have HO565 := n5_; have HO569 := n6_; have BK536 := n7_; have BK556 := n8_; have HB := n9_; clear n0_ n1_ n2_ n3_ n4_ n5_ n6_ n7_ n8_ n9_; (try clear hb); (try clear hb2); (try clear hk); (try clear hi); (try clear ho0); obtain ⟨Ao37, co37, eo37⟩ := Kd.R_slice HO550.out; subst eo37; obtain ⟨Ao38, co38, eo38⟩ := Kd.R_slice HO569.out; subst eo38) | (go_at_call 28; (with_reducible refine (tattleref03_Same.calls k _ _ t547 _ _ t567 true _ ?side1 ?side2 ?side3 ?side4 A28.out).mono ?_); (case side1 => repeat (first | exact (Kd.R_reads' HO550.out).2.2 | (with_reducible refine Kd.C_alloc ?_ _) | (with_reducible refine Kd.C_drewN ?_ _) | (with_reducible refine Kd.C_drew ?_))); (case side2 => exact (Kd.R_reads' HO550.out).2.1); (case side3 => repeat (first | exact (Kd.R_reads' HO569.out).2.2 | (with_reducible refine Kd.C_alloc ?_ _) | (with_reducible refine Kd.C_drewN ?_ _) | (with_reducible refine Kd.C_drew ?_))); (case side4 => exact (Kd.R_reads' HO569.out).2.1); rintro e w' ⟨rfl, ⟨nd, rfl⟩⟩))
              go_meet
              case rel => exact ⟨_, ((t548 != 0)), (by first | rfl | (simp; done) | (simp [*]; done)), H', ⟨by first | omega | exact Nat.le_refl _⟩, ⟨by (with_reducible repeat (first | apply Kd.V_alloc | apply Kd.V_drewN | apply Kd.V_drew)); exact Kd.V_mono HO539.out (fun _ hk => ⟨hk.1.1.1.1.1.1.1, hk.1.1.1.2⟩)⟩, ⟨by (with_reducible repeat (first | refine blk_drewN ?_ _ | refine blk_drew ?_ | refine blk_alloc ?_ _)); exact BK536.out⟩, ⟨by (with_reducible repeat (first | refine blk_drewN ?_ _ | refine blk_drew ?_ | refine blk_alloc ?_ _)); exact BK556.out⟩, ⟨by repeat (first | (with_reducible first | exact HB.out | apply below_alloc | apply pw_below_drewN | apply below_drew1 | refine below_set ?_ GE536.out | refine below_set ?_ GE556.out) | exact HB.out)⟩⟩
            · replace c29 := Bool.eq_false_iff.mpr c29
              subst c29
              have H1 : (tattlelaw03_TimerTakes.j0 k t537 t555 true t551 t552 t553 t554) = some r := by rw [if_neg (show ¬ (false = true) by decide)] at H; exact H
              clear H
              have H := H1
              clear H1
              have H' := Aside0.mk H
              clear H
              go_wp2_with (first | ((with_reducible refine gate_callee (f := 39) rfl ?_); refine goesL_ (some 81) rfl rfl Try.func39 (by kernel_rfl) rfl #[.slice Ao12 t537.length co12, .int .i64 a0_1, .bool true] rfl (by (try simp only [List.map_toArray, List.map_cons, List.map_nil]); first | done | rfl | (simp only [List.length_drop, List.length_take]; rfl)) ?_; (with_reducible refine (tattleref03_Due.calls k _ _ t537 a0_1 true t559 _ ?side1 ?side2 A20.out).mono ?_); (case side1 => repeat (first | exact (Kd.V_reads' HO539.out).2.2 | (with_reducible refine Kd.C_alloc ?_ _) | (with_reducible refine Kd.C_drewN ?_ _) | (with_reducible refine Kd.C_drew ?_))); (case side2 => exact (Kd.V_reads' HO539.out).2.1); rintro e w39 ⟨v560, rfl, ho0, hb⟩; refine ⟨_, rfl, ?_⟩; have n0_ := Aside0.mk (Kd.V_elder' (by (with_reducible repeat (first | apply Kd.V_alloc | apply Kd.V_drewN | apply Kd.V_drew)); exact HO539.out) (Kd.R_base ho0) hb); have n1_ := Aside0.mk (Kd.R_elder' (by (with_reducible repeat (first | apply Kd.R_alloc | apply Kd.R_drewN | apply Kd.R_drew)); exact HO544.out) (Kd.R_base ho0) hb); have n2_ := Aside0.mk (Kd.R_elder' (by (with_reducible repeat (first | apply Kd.R_alloc | apply Kd.R_drewN | apply Kd.R_drew)); exact HO546.out) (Kd.R_base ho0) hb); have n3_ := Aside0.mk (Kd.R_elder' (by (with_reducible repeat (first | apply Kd.R_alloc | apply Kd.R_drewN | apply Kd.R_drew)); exact HO550.out) (Kd.R_base ho0) hb); have n4_ := Aside0.mk (Kd.R_lower (Kd.R_newB (Kd.R_new' (Kd.R_new' (Kd.R_new' ho0 (Kd.R_lt (by (with_reducible repeat (first | apply Kd.R_alloc | apply Kd.R_drewN | apply Kd.R_drew)); exact HO544.out))) (Kd.R_lt (by (with_reducible repeat (first | apply Kd.R_alloc | apply Kd.R_drewN | apply Kd.R_drew)); exact HO546.out))) (Kd.R_lt (by (with_reducible repeat (first | apply Kd.R_alloc | apply Kd.R_drewN | apply Kd.R_drew)); exact HO550.out))) (g := gb556) (o := .cells #[.int .i64 t551, .int .i64 t552, .int .i64 t553, .int .u64 t554] 52 (0, 0)) (by (with_reducible repeat (first | refine blk_drewN ?_ _ | refine blk_drew ?_ | refine blk_alloc ?_ _)); exact BK556.out)) (below_size (by repeat (first | (with_reducible first | exact HB.out | apply below_alloc | apply pw_below_drewN | apply below_drew1 | refine below_set ?_ GE536.out | refine below_set ?_ GE556.out) | exact HB.out)))); have n5_ := Aside0.mk (blk_below (g := gb536) (o := .cells #[.slice A0_0 l0_0.length c0_0, .int .i64 a0_1, .int .i64 a0_2, .int .i64 a0_3] 69 (0, 0)) (by (with_reducible repeat (first | refine blk_drewN ?_ _ | refine blk_drew ?_ | refine blk_alloc ?_ _)); exact BK536.out) hb); have n6_ := Aside0.mk (blk_below (g := gb556) (o := .cells #[.int .i64 t551, .int .i64 t552, .int .i64 t553, .int .u64 t554] 52 (0, 0)) (by (with_reducible repeat (first | refine blk_drewN ?_ _ | refine blk_drew ?_ | refine blk_alloc ?_ _)); exact BK556.out) hb); have n7_ := Aside0.mk (below_step (by repeat (first | (with_reducible first | exact HB.out | apply below_alloc | apply pw_below_drewN | apply below_drew1 | refine below_set ?_ GE536.out | refine below_set ?_ GE556.out) | exact HB.out)) hb); clear HO539; clear HO544; clear HO546; clear HO550; clear BK536; clear BK556; clear HB; have HO539 := n0_; have HO544 := n1_; have HO546 := n2_; have HO550 := n3_; have HO561 := n4_; have BK536 := n5_; have BK556 := n6_; have HB := n7_; clear n0_ n1_ n2_ n3_ n4_ n5_ n6_ n7_; (try clear hb); (try clear hb2); (try clear hk); (try clear hi); (try clear ho0); obtain ⟨Ao40, co40, eo40⟩ := Kd.R_slice HO544.out; subst eo40; obtain ⟨Ao41, co41, eo41⟩ := Kd.R_slice HO561.out; subst eo41) | ((with_reducible refine gate_callee (f := 28) rfl ?_); refine goesL_ (some 82) rfl rfl Try.func28 (by kernel_rfl) rfl #[.slice Ao40 t540.length co40, .slice Ao41 t559.length co41] rfl (by (try simp only [List.map_toArray, List.map_cons, List.map_nil]); first | done | rfl | (simp only [List.length_drop, List.length_take]; rfl)) ?_; (with_reducible refine (tattleref03_Same.calls k _ _ t540 _ _ t559 true _ ?side1 ?side2 ?side3 ?side4 A21.out).mono ?_); (case side1 => repeat (first | exact (Kd.R_reads' HO544.out).2.2 | (with_reducible refine Kd.C_alloc ?_ _) | (with_reducible refine Kd.C_drewN ?_ _) | (with_reducible refine Kd.C_drew ?_))); (case side2 => exact (Kd.R_reads' HO544.out).2.1); (case side3 => repeat (first | exact (Kd.R_reads' HO561.out).2.2 | (with_reducible refine Kd.C_alloc ?_ _) | (with_reducible refine Kd.C_drewN ?_ _) | (with_reducible refine Kd.C_drew ?_))); (case side4 => exact (Kd.R_reads' HO561.out).2.1); rintro e w' ⟨rfl, ⟨nd, rfl⟩⟩; refine ⟨_, rfl, ?_⟩) | (go_at_call 39; (with_reducible refine (tattleref03_Due.calls k _ _ t537 a0_1 false t563 _ ?side1 ?side2 A23.out).mono ?_); (case side1 => repeat (first | exact (Kd.V_reads' HO539.out).2.2 | (with_reducible refine Kd.C_alloc ?_ _) | (with_reducible refine Kd.C_drewN ?_ _) | (with_reducible refine Kd.C_drew ?_))); (case side2 => exact (Kd.V_reads' HO539.out).2.1); rintro e w42 ⟨v564, rfl, ho0, hb⟩; have n0_ := Aside0.mk (Kd.V_elder' (by (with_reducible repeat (first | apply Kd.V_alloc | apply Kd.V_drewN | apply Kd.V_drew)); exact HO539.out) (Kd.R_base ho0) hb); have n1_ := Aside0.mk (Kd.R_elder' (by (with_reducible repeat (first | apply Kd.R_alloc | apply Kd.R_drewN | apply Kd.R_drew)); exact HO544.out) (Kd.R_base ho0) hb); have n2_ := Aside0.mk (Kd.R_elder' (by (with_reducible repeat (first | apply Kd.R_alloc | apply Kd.R_drewN | apply Kd.R_drew)); exact HO546.out) (Kd.R_base ho0) hb); have n3_ := Aside0.mk (Kd.R_elder' (by (with_reducible repeat (first | apply Kd.R_alloc | apply Kd.R_drewN | apply Kd.R_drew)); exact HO550.out) (Kd.R_base ho0) hb); have n4_ := Aside0.mk (Kd.R_elder' (by (with_reducible repeat (first | apply Kd.R_alloc | apply Kd.R_drewN | apply Kd.R_drew)); exact HO561.out) (Kd.R_base ho0) hb); have n5_ := Aside0.mk (Kd.R_lower (Kd.R_newB (Kd.R_new' (Kd.R_new' (Kd.R_new' (Kd.R_new' ho0 (Kd.R_lt (by (with_reducible repeat (first | apply Kd.R_alloc | apply Kd.R_drewN | apply Kd.R_drew)); exact HO544.out))) (Kd.R_lt (by (with_reducible repeat (first | apply Kd.R_alloc | apply Kd.R_drewN | apply Kd.R_drew)); exact HO546.out))) (Kd.R_lt (by (with_reducible repeat (first | apply Kd.R_alloc | apply Kd.R_drewN | apply Kd.R_drew)); exact HO550.out))) (Kd.R_lt (by (with_reducible repeat (first | apply Kd.R_alloc | apply Kd.R_drewN | apply Kd.R_drew)); exact HO561.out))) (g := gb556) (o := .cells #[.int .i64 t551, .int .i64 t552, .int .i64 t553, .int .u64 t554] 52 (0, 0)) (by (with_reducible repeat (first | refine blk_drewN ?_ _ | refine blk_drew ?_ | refine blk_alloc ?_ _)); exact BK556.out)) (below_size (by repeat (first | (with_reducible first | exact HB.out | apply below_alloc | apply pw_below_drewN | apply below_drew1 | refine below_set ?_ GE536.out | refine below_set ?_ GE556.out) | exact HB.out)))); have n6_ := Aside0.mk (blk_below (g := gb536) (o := .cells #[.slice A0_0 l0_0.length c0_0, .int .i64 a0_1, .int .i64 a0_2, .int .i64 a0_3] 69 (0, 0)) (by (with_reducible repeat (first | refine blk_drewN ?_ _ | refine blk_drew ?_ | refine blk_alloc ?_ _)); exact BK536.out) hb); have n7_ := Aside0.mk (blk_below (g := gb556) (o := .cells #[.int .i64 t551, .int .i64 t552, .int .i64 t553, .int .u64 t554] 52 (0, 0)) (by (with_reducible repeat (first | refine blk_drewN ?_ _ | refine blk_drew ?_ | refine blk_alloc ?_ _)); exact BK556.out) hb); have n8_ := Aside0.mk (below_step (by repeat (first | (with_reducible first | exact HB.out | apply below_alloc | apply pw_below_drewN | apply below_drew1 | refine below_set ?_ GE536.out | refine below_set ?_ GE556.out) | exact HB.out)) hb); clear HO539; clear HO544; clear HO546; clear HO550; clear HO561; clear BK536; clear BK556; clear HB; have HO539 := n0_; have HO544 := n1_; have HO546 := n2_; have HO550 := n3_; have HO561 := n4_; have HO565 := n5_; have BK536 := n6_; have BK556 := n7_; have HB := n8_; clear n0_ n1_ n2_ n3_ n4_ n5_ n6_ n7_ n8_; (try clear hb); (try clear hb2); (try clear hk); (try clear hi); (try clear ho0); obtain ⟨Ao43, co43, eo43⟩ := Kd.R_slice HO546.out; subst eo43; obtain ⟨Ao44, co44, eo44⟩ := Kd.R_slice HO565.out; subst eo44) | (go_at_call 28; (with_reducible refine (tattleref03_Same.calls k _ _ t541 _ _ t563 true _ ?side1 ?side2 ?side3 ?side4 A24.out).mono ?_); (case side1 => repeat (first | exact (Kd.R_reads' HO546.out).2.2 | (with_reducible refine Kd.C_alloc ?_ _) | (with_reducible refine Kd.C_drewN ?_ _) | (with_reducible refine Kd.C_drew ?_))); (case side2 => exact (Kd.R_reads' HO546.out).2.1); (case side3 => repeat (first | exact (Kd.R_reads' HO565.out).2.2 | (with_reducible refine Kd.C_alloc ?_ _) | (with_reducible refine Kd.C_drewN ?_ _) | (with_reducible refine Kd.C_drew ?_))); (case side4 => exact (Kd.R_reads' HO565.out).2.1); rintro e w' ⟨rfl, ⟨nd, rfl⟩⟩) | (go_at_call 40; (with_reducible refine (tattleref03_Drop.calls k _ _ t537 a0_2 a0_3 t567 _ ?side1 ?side2 A27.out).mono ?_); (case side1 => repeat (first | exact (Kd.V_reads' HO539.out).2.2 | (with_reducible refine Kd.C_alloc ?_ _) | (with_reducible refine Kd.C_drewN ?_ _) | (with_reducible refine Kd.C_drew ?_))); (case side2 => exact (Kd.V_reads' HO539.out).2.1); rintro e w45 ⟨v568, rfl, ho0, hb⟩; have n0_ := Aside0.mk (Kd.V_elder' (by (with_reducible repeat (first | apply Kd.V_alloc | apply Kd.V_drewN | apply Kd.V_drew)); exact HO539.out) (Kd.R_base ho0) hb); have n1_ := Aside0.mk (Kd.R_elder' (by (with_reducible repeat (first | apply Kd.R_alloc | apply Kd.R_drewN | apply Kd.R_drew)); exact HO544.out) (Kd.R_base ho0) hb); have n2_ := Aside0.mk (Kd.R_elder' (by (with_reducible repeat (first | apply Kd.R_alloc | apply Kd.R_drewN | apply Kd.R_drew)); exact HO546.out) (Kd.R_base ho0) hb); have n3_ := Aside0.mk (Kd.R_elder' (by (with_reducible repeat (first | apply Kd.R_alloc | apply Kd.R_drewN | apply Kd.R_drew)); exact HO550.out) (Kd.R_base ho0) hb); have n4_ := Aside0.mk (Kd.R_elder' (by (with_reducible repeat (first | apply Kd.R_alloc | apply Kd.R_drewN | apply Kd.R_drew)); exact HO561.out) (Kd.R_base ho0) hb); have n5_ := Aside0.mk (Kd.R_elder' (by (with_reducible repeat (first | apply Kd.R_alloc | apply Kd.R_drewN | apply Kd.R_drew)); exact HO565.out) (Kd.R_base ho0) hb); have n6_ := Aside0.mk (Kd.R_lower (Kd.R_newB (Kd.R_new' (Kd.R_new' (Kd.R_new' (Kd.R_new' (Kd.R_new' ho0 (Kd.R_lt (by (with_reducible repeat (first | apply Kd.R_alloc | apply Kd.R_drewN | apply Kd.R_drew)); exact HO544.out))) (Kd.R_lt (by (with_reducible repeat (first | apply Kd.R_alloc | apply Kd.R_drewN | apply Kd.R_drew)); exact HO546.out))) (Kd.R_lt (by (with_reducible repeat (first | apply Kd.R_alloc | apply Kd.R_drewN | apply Kd.R_drew)); exact HO550.out))) (Kd.R_lt (by (with_reducible repeat (first | apply Kd.R_alloc | apply Kd.R_drewN | apply Kd.R_drew)); exact HO561.out))) (Kd.R_lt (by (with_reducible repeat (first | apply Kd.R_alloc | apply Kd.R_drewN | apply Kd.R_drew)); exact HO565.out))) (g := gb556) (o := .cells #[.int .i64 t551, .int .i64 t552, .int .i64 t553, .int .u64 t554] 52 (0, 0)) (by (with_reducible repeat (first | refine blk_drewN ?_ _ | refine blk_drew ?_ | refine blk_alloc ?_ _)); exact BK556.out)) (below_size (by repeat (first | (with_reducible first | exact HB.out | apply below_alloc | apply pw_below_drewN | apply below_drew1 | refine below_set ?_ GE536.out | refine below_set ?_ GE556.out) | exact HB.out)))); have n7_ := Aside0.mk (blk_below (g := gb536) (o := .cells #[.slice A0_0 l0_0.length c0_0, .int .i64 a0_1, .int .i64 a0_2, .int .i64 a0_3] 69 (0, 0)) (by (with_reducible repeat (first | refine blk_drewN ?_ _ | refine blk_drew ?_ | refine blk_alloc ?_ _)); exact BK536.out) hb); have n8_ := Aside0.mk (blk_below (g := gb556) (o := .cells #[.int .i64 t551, .int .i64 t552, .int .i64 t553, .int .u64 t554] 52 (0, 0)) (by (with_reducible repeat (first | refine blk_drewN ?_ _ | refine blk_drew ?_ | refine blk_alloc ?_ _)); exact BK556.out) hb); have n9_ := Aside0.mk (below_step (by repeat (first | (with_reducible first | exact HB.out | apply below_alloc | apply pw_below_drewN | apply below_drew1 | refine below_set ?_ GE536.out | refine below_set ?_ GE556.out) | exact HB.out)) hb); clear HO539; clear HO544; clear HO546; clear HO550; clear HO561; clear HO565; clear BK536; clear BK556; clear HB; have HO539 := n0_; have HO544 := n1_; have HO546 := n2_; have HO550 := n3_; have HO561 := n4_; have HO565 := n5_; have HO569 := n6_; have BK536 := n7_; have BK556 := n8_; have HB := n9_; clear n0_ n1_ n2_ n3_ n4_ n5_ n6_ n7_ n8_ n9_; (try clear hb); (try clear hb2); (try clear hk); (try clear hi); (try clear ho0); obtain ⟨Ao46, co46, eo46⟩ := Kd.R_slice HO550.out; subst eo46; obtain ⟨Ao47, co47, eo47⟩ := Kd.R_slice HO569.out; subst eo47) | (go_at_call 28; (with_reducible refine (tattleref03_Same.calls k _ _ t547 _ _ t567 false _ ?side1 ?side2 ?side3 ?side4 A28.out).mono ?_); (case side1 => repeat (first | exact (Kd.R_reads' HO550.out).2.2 | (with_reducible refine Kd.C_alloc ?_ _) | (with_reducible refine Kd.C_drewN ?_ _) | (with_reducible refine Kd.C_drew ?_))); (case side2 => exact (Kd.R_reads' HO550.out).2.1); (case side3 => repeat (first | exact (Kd.R_reads' HO569.out).2.2 | (with_reducible refine Kd.C_alloc ?_ _) | (with_reducible refine Kd.C_drewN ?_ _) | (with_reducible refine Kd.C_drew ?_))); (case side4 => exact (Kd.R_reads' HO569.out).2.1); rintro e w' ⟨rfl, ⟨nd, rfl⟩⟩))
              go_meet
              case rel => exact ⟨_, (true), (by first | rfl | (simp; done) | (simp [*]; done)), H', ⟨by first | omega | exact Nat.le_refl _⟩, ⟨by (with_reducible repeat (first | apply Kd.V_alloc | apply Kd.V_drewN | apply Kd.V_drew)); exact Kd.V_mono HO539.out (fun _ hk => ⟨hk.1.1.1.1.1.1.1, hk.1.1.1.2⟩)⟩, ⟨by (with_reducible repeat (first | refine blk_drewN ?_ _ | refine blk_drew ?_ | refine blk_alloc ?_ _)); exact BK536.out⟩, ⟨by (with_reducible repeat (first | refine blk_drewN ?_ _ | refine blk_drew ?_ | refine blk_alloc ?_ _)); exact BK556.out⟩, ⟨by repeat (first | (with_reducible first | exact HB.out | apply below_alloc | apply pw_below_drewN | apply below_drew1 | refine below_set ?_ GE536.out | refine below_set ?_ GE556.out) | exact HB.out)⟩⟩
          · rw [if_neg c26] at H
            have c26b0 : (t542 == 0) = false := beq_eq_false_iff_ne.mpr c26
            have c26b1 : (t542 != 0) = true := bne_iff_ne.mpr c26
            (first | rw [c26b0] | (simp only [i64_w, i32_w]; rw [c26b0]) | skip)
            have H' := Aside0.mk H
            clear H
            go_wp2_with (first | ((with_reducible refine gate_callee (f := 39) rfl ?_); refine goesL_ (some 81) rfl rfl Try.func39 (by kernel_rfl) rfl #[.slice Ao12 t537.length co12, .int .i64 a0_1, .bool true] rfl (by (try simp only [List.map_toArray, List.map_cons, List.map_nil]); first | done | rfl | (simp only [List.length_drop, List.length_take]; rfl)) ?_; (with_reducible refine (tattleref03_Due.calls k _ _ t537 a0_1 true t559 _ ?side1 ?side2 A20.out).mono ?_); (case side1 => repeat (first | exact (Kd.V_reads' HO539.out).2.2 | (with_reducible refine Kd.C_alloc ?_ _) | (with_reducible refine Kd.C_drewN ?_ _) | (with_reducible refine Kd.C_drew ?_))); (case side2 => exact (Kd.V_reads' HO539.out).2.1); rintro e w48 ⟨v560, rfl, ho0, hb⟩; refine ⟨_, rfl, ?_⟩; have n0_ := Aside0.mk (Kd.V_elder' (by (with_reducible repeat (first | apply Kd.V_alloc | apply Kd.V_drewN | apply Kd.V_drew)); exact HO539.out) (Kd.R_base ho0) hb); have n1_ := Aside0.mk (Kd.R_elder' (by (with_reducible repeat (first | apply Kd.R_alloc | apply Kd.R_drewN | apply Kd.R_drew)); exact HO544.out) (Kd.R_base ho0) hb); have n2_ := Aside0.mk (Kd.R_elder' (by (with_reducible repeat (first | apply Kd.R_alloc | apply Kd.R_drewN | apply Kd.R_drew)); exact HO546.out) (Kd.R_base ho0) hb); have n3_ := Aside0.mk (Kd.R_elder' (by (with_reducible repeat (first | apply Kd.R_alloc | apply Kd.R_drewN | apply Kd.R_drew)); exact HO550.out) (Kd.R_base ho0) hb); have n4_ := Aside0.mk (Kd.R_lower (Kd.R_newB (Kd.R_new' (Kd.R_new' (Kd.R_new' ho0 (Kd.R_lt (by (with_reducible repeat (first | apply Kd.R_alloc | apply Kd.R_drewN | apply Kd.R_drew)); exact HO544.out))) (Kd.R_lt (by (with_reducible repeat (first | apply Kd.R_alloc | apply Kd.R_drewN | apply Kd.R_drew)); exact HO546.out))) (Kd.R_lt (by (with_reducible repeat (first | apply Kd.R_alloc | apply Kd.R_drewN | apply Kd.R_drew)); exact HO550.out))) (g := gb556) (o := .cells #[.int .i64 t551, .int .i64 t552, .int .i64 t553, .int .u64 t554] 52 (0, 0)) (by (with_reducible repeat (first | refine blk_drewN ?_ _ | refine blk_drew ?_ | refine blk_alloc ?_ _)); exact BK556.out)) (below_size (by repeat (first | (with_reducible first | exact HB.out | apply below_alloc | apply pw_below_drewN | apply below_drew1 | refine below_set ?_ GE536.out | refine below_set ?_ GE556.out) | exact HB.out)))); have n5_ := Aside0.mk (blk_below (g := gb536) (o := .cells #[.slice A0_0 l0_0.length c0_0, .int .i64 a0_1, .int .i64 a0_2, .int .i64 a0_3] 69 (0, 0)) (by (with_reducible repeat (first | refine blk_drewN ?_ _ | refine blk_drew ?_ | refine blk_alloc ?_ _)); exact BK536.out) hb); have n6_ := Aside0.mk (blk_below (g := gb556) (o := .cells #[.int .i64 t551, .int .i64 t552, .int .i64 t553, .int .u64 t554] 52 (0, 0)) (by (with_reducible repeat (first | refine blk_drewN ?_ _ | refine blk_drew ?_ | refine blk_alloc ?_ _)); exact BK556.out) hb); have n7_ := Aside0.mk (below_step (by repeat (first | (with_reducible first | exact HB.out | apply below_alloc | apply pw_below_drewN | apply below_drew1 | refine below_set ?_ GE536.out | refine below_set ?_ GE556.out) | exact HB.out)) hb); clear HO539; clear HO544; clear HO546; clear HO550; clear BK536; clear BK556; clear HB; have HO539 := n0_; have HO544 := n1_; have HO546 := n2_; have HO550 := n3_; have HO561 := n4_; have BK536 := n5_; have BK556 := n6_; have HB := n7_; clear n0_ n1_ n2_ n3_ n4_ n5_ n6_ n7_; (try clear hb); (try clear hb2); (try clear hk); (try clear hi); (try clear ho0); obtain ⟨Ao49, co49, eo49⟩ := Kd.R_slice HO544.out; subst eo49; obtain ⟨Ao50, co50, eo50⟩ := Kd.R_slice HO561.out; subst eo50) | ((with_reducible refine gate_callee (f := 28) rfl ?_); refine goesL_ (some 82) rfl rfl Try.func28 (by kernel_rfl) rfl #[.slice Ao49 t540.length co49, .slice Ao50 t559.length co50] rfl (by (try simp only [List.map_toArray, List.map_cons, List.map_nil]); first | done | rfl | (simp only [List.length_drop, List.length_take]; rfl)) ?_; (with_reducible refine (tattleref03_Same.calls k _ _ t540 _ _ t559 true _ ?side1 ?side2 ?side3 ?side4 A21.out).mono ?_); (case side1 => repeat (first | exact (Kd.R_reads' HO544.out).2.2 | (with_reducible refine Kd.C_alloc ?_ _) | (with_reducible refine Kd.C_drewN ?_ _) | (with_reducible refine Kd.C_drew ?_))); (case side2 => exact (Kd.R_reads' HO544.out).2.1); (case side3 => repeat (first | exact (Kd.R_reads' HO561.out).2.2 | (with_reducible refine Kd.C_alloc ?_ _) | (with_reducible refine Kd.C_drewN ?_ _) | (with_reducible refine Kd.C_drew ?_))); (case side4 => exact (Kd.R_reads' HO561.out).2.1); rintro e w' ⟨rfl, ⟨nd, rfl⟩⟩; refine ⟨_, rfl, ?_⟩) | (go_at_call 39; (with_reducible refine (tattleref03_Due.calls k _ _ t537 a0_1 false t563 _ ?side1 ?side2 A23.out).mono ?_); (case side1 => repeat (first | exact (Kd.V_reads' HO539.out).2.2 | (with_reducible refine Kd.C_alloc ?_ _) | (with_reducible refine Kd.C_drewN ?_ _) | (with_reducible refine Kd.C_drew ?_))); (case side2 => exact (Kd.V_reads' HO539.out).2.1); rintro e w51 ⟨v564, rfl, ho0, hb⟩; have n0_ := Aside0.mk (Kd.V_elder' (by (with_reducible repeat (first | apply Kd.V_alloc | apply Kd.V_drewN | apply Kd.V_drew)); exact HO539.out) (Kd.R_base ho0) hb); have n1_ := Aside0.mk (Kd.R_elder' (by (with_reducible repeat (first | apply Kd.R_alloc | apply Kd.R_drewN | apply Kd.R_drew)); exact HO544.out) (Kd.R_base ho0) hb); have n2_ := Aside0.mk (Kd.R_elder' (by (with_reducible repeat (first | apply Kd.R_alloc | apply Kd.R_drewN | apply Kd.R_drew)); exact HO546.out) (Kd.R_base ho0) hb); have n3_ := Aside0.mk (Kd.R_elder' (by (with_reducible repeat (first | apply Kd.R_alloc | apply Kd.R_drewN | apply Kd.R_drew)); exact HO550.out) (Kd.R_base ho0) hb); have n4_ := Aside0.mk (Kd.R_elder' (by (with_reducible repeat (first | apply Kd.R_alloc | apply Kd.R_drewN | apply Kd.R_drew)); exact HO561.out) (Kd.R_base ho0) hb); have n5_ := Aside0.mk (Kd.R_lower (Kd.R_newB (Kd.R_new' (Kd.R_new' (Kd.R_new' (Kd.R_new' ho0 (Kd.R_lt (by (with_reducible repeat (first | apply Kd.R_alloc | apply Kd.R_drewN | apply Kd.R_drew)); exact HO544.out))) (Kd.R_lt (by (with_reducible repeat (first | apply Kd.R_alloc | apply Kd.R_drewN | apply Kd.R_drew)); exact HO546.out))) (Kd.R_lt (by (with_reducible repeat (first | apply Kd.R_alloc | apply Kd.R_drewN | apply Kd.R_drew)); exact HO550.out))) (Kd.R_lt (by (with_reducible repeat (first | apply Kd.R_alloc | apply Kd.R_drewN | apply Kd.R_drew)); exact HO561.out))) (g := gb556) (o := .cells #[.int .i64 t551, .int .i64 t552, .int .i64 t553, .int .u64 t554] 52 (0, 0)) (by (with_reducible repeat (first | refine blk_drewN ?_ _ | refine blk_drew ?_ | refine blk_alloc ?_ _)); exact BK556.out)) (below_size (by repeat (first | (with_reducible first | exact HB.out | apply below_alloc | apply pw_below_drewN | apply below_drew1 | refine below_set ?_ GE536.out | refine below_set ?_ GE556.out) | exact HB.out)))); have n6_ := Aside0.mk (blk_below (g := gb536) (o := .cells #[.slice A0_0 l0_0.length c0_0, .int .i64 a0_1, .int .i64 a0_2, .int .i64 a0_3] 69 (0, 0)) (by (with_reducible repeat (first | refine blk_drewN ?_ _ | refine blk_drew ?_ | refine blk_alloc ?_ _)); exact BK536.out) hb); have n7_ := Aside0.mk (blk_below (g := gb556) (o := .cells #[.int .i64 t551, .int .i64 t552, .int .i64 t553, .int .u64 t554] 52 (0, 0)) (by (with_reducible repeat (first | refine blk_drewN ?_ _ | refine blk_drew ?_ | refine blk_alloc ?_ _)); exact BK556.out) hb); have n8_ := Aside0.mk (below_step (by repeat (first | (with_reducible first | exact HB.out | apply below_alloc | apply pw_below_drewN | apply below_drew1 | refine below_set ?_ GE536.out | refine below_set ?_ GE556.out) | exact HB.out)) hb); clear HO539; clear HO544; clear HO546; clear HO550; clear HO561; clear BK536; clear BK556; clear HB; have HO539 := n0_; have HO544 := n1_; have HO546 := n2_; have HO550 := n3_; have HO561 := n4_; have HO565 := n5_; have BK536 := n6_; have BK556 := n7_; have HB := n8_; clear n0_ n1_ n2_ n3_ n4_ n5_ n6_ n7_ n8_; (try clear hb); (try clear hb2); (try clear hk); (try clear hi); (try clear ho0); obtain ⟨Ao52, co52, eo52⟩ := Kd.R_slice HO546.out; subst eo52; obtain ⟨Ao53, co53, eo53⟩ := Kd.R_slice HO565.out; subst eo53) | (go_at_call 28; (with_reducible refine (tattleref03_Same.calls k _ _ t541 _ _ t563 true _ ?side1 ?side2 ?side3 ?side4 A24.out).mono ?_); (case side1 => repeat (first | exact (Kd.R_reads' HO546.out).2.2 | (with_reducible refine Kd.C_alloc ?_ _) | (with_reducible refine Kd.C_drewN ?_ _) | (with_reducible refine Kd.C_drew ?_))); (case side2 => exact (Kd.R_reads' HO546.out).2.1); (case side3 => repeat (first | exact (Kd.R_reads' HO565.out).2.2 | (with_reducible refine Kd.C_alloc ?_ _) | (with_reducible refine Kd.C_drewN ?_ _) | (with_reducible refine Kd.C_drew ?_))); (case side4 => exact (Kd.R_reads' HO565.out).2.1); rintro e w' ⟨rfl, ⟨nd, rfl⟩⟩))
            go_meet
            case rel => exact ⟨_, (true), (by first | rfl | (simp; done) | (simp [*]; done)), H', ⟨by first | omega | exact Nat.le_refl _⟩, ⟨by (with_reducible repeat (first | apply Kd.V_alloc | apply Kd.V_drewN | apply Kd.V_drew)); exact Kd.V_mono HO539.out (fun _ hk => ⟨hk.1.1.1.1.1.1, hk.1.1.2⟩)⟩, ⟨by (with_reducible repeat (first | refine blk_drewN ?_ _ | refine blk_drew ?_ | refine blk_alloc ?_ _)); exact BK536.out⟩, ⟨by (with_reducible repeat (first | refine blk_drewN ?_ _ | refine blk_drew ?_ | refine blk_alloc ?_ _)); exact BK556.out⟩, ⟨by repeat (first | (with_reducible first | exact HB.out | apply below_alloc | apply pw_below_drewN | apply below_drew1 | refine below_set ?_ GE536.out | refine below_set ?_ GE556.out) | exact HB.out)⟩⟩
        · replace c25 := Bool.eq_false_iff.mpr c25
          subst c25
          have H1 : (tattlelaw03_TimerTakes.j0 k t537 t555 true t551 t552 t553 t554) = some r := by rw [if_neg (show ¬ (false = true) by decide)] at H; exact H
          clear H
          have H := H1
          clear H1
          have H' := Aside0.mk H
          clear H
          go_wp2_with (first | ((with_reducible refine gate_callee (f := 39) rfl ?_); refine goesL_ (some 81) rfl rfl Try.func39 (by kernel_rfl) rfl #[.slice Ao12 t537.length co12, .int .i64 a0_1, .bool true] rfl (by (try simp only [List.map_toArray, List.map_cons, List.map_nil]); first | done | rfl | (simp only [List.length_drop, List.length_take]; rfl)) ?_; (with_reducible refine (tattleref03_Due.calls k _ _ t537 a0_1 true t559 _ ?side1 ?side2 A20.out).mono ?_); (case side1 => repeat (first | exact (Kd.V_reads' HO539.out).2.2 | (with_reducible refine Kd.C_alloc ?_ _) | (with_reducible refine Kd.C_drewN ?_ _) | (with_reducible refine Kd.C_drew ?_))); (case side2 => exact (Kd.V_reads' HO539.out).2.1); rintro e w54 ⟨v560, rfl, ho0, hb⟩; refine ⟨_, rfl, ?_⟩; have n0_ := Aside0.mk (Kd.V_elder' (by (with_reducible repeat (first | apply Kd.V_alloc | apply Kd.V_drewN | apply Kd.V_drew)); exact HO539.out) (Kd.R_base ho0) hb); have n1_ := Aside0.mk (Kd.R_elder' (by (with_reducible repeat (first | apply Kd.R_alloc | apply Kd.R_drewN | apply Kd.R_drew)); exact HO544.out) (Kd.R_base ho0) hb); have n2_ := Aside0.mk (Kd.R_elder' (by (with_reducible repeat (first | apply Kd.R_alloc | apply Kd.R_drewN | apply Kd.R_drew)); exact HO546.out) (Kd.R_base ho0) hb); have n3_ := Aside0.mk (Kd.R_elder' (by (with_reducible repeat (first | apply Kd.R_alloc | apply Kd.R_drewN | apply Kd.R_drew)); exact HO550.out) (Kd.R_base ho0) hb); have n4_ := Aside0.mk (Kd.R_lower (Kd.R_newB (Kd.R_new' (Kd.R_new' (Kd.R_new' ho0 (Kd.R_lt (by (with_reducible repeat (first | apply Kd.R_alloc | apply Kd.R_drewN | apply Kd.R_drew)); exact HO544.out))) (Kd.R_lt (by (with_reducible repeat (first | apply Kd.R_alloc | apply Kd.R_drewN | apply Kd.R_drew)); exact HO546.out))) (Kd.R_lt (by (with_reducible repeat (first | apply Kd.R_alloc | apply Kd.R_drewN | apply Kd.R_drew)); exact HO550.out))) (g := gb556) (o := .cells #[.int .i64 t551, .int .i64 t552, .int .i64 t553, .int .u64 t554] 52 (0, 0)) (by (with_reducible repeat (first | refine blk_drewN ?_ _ | refine blk_drew ?_ | refine blk_alloc ?_ _)); exact BK556.out)) (below_size (by repeat (first | (with_reducible first | exact HB.out | apply below_alloc | apply pw_below_drewN | apply below_drew1 | refine below_set ?_ GE536.out | refine below_set ?_ GE556.out) | exact HB.out)))); have n5_ := Aside0.mk (blk_below (g := gb536) (o := .cells #[.slice A0_0 l0_0.length c0_0, .int .i64 a0_1, .int .i64 a0_2, .int .i64 a0_3] 69 (0, 0)) (by (with_reducible repeat (first | refine blk_drewN ?_ _ | refine blk_drew ?_ | refine blk_alloc ?_ _)); exact BK536.out) hb); have n6_ := Aside0.mk (blk_below (g := gb556) (o := .cells #[.int .i64 t551, .int .i64 t552, .int .i64 t553, .int .u64 t554] 52 (0, 0)) (by (with_reducible repeat (first | refine blk_drewN ?_ _ | refine blk_drew ?_ | refine blk_alloc ?_ _)); exact BK556.out) hb); have n7_ := Aside0.mk (below_step (by repeat (first | (with_reducible first | exact HB.out | apply below_alloc | apply pw_below_drewN | apply below_drew1 | refine below_set ?_ GE536.out | refine below_set ?_ GE556.out) | exact HB.out)) hb); clear HO539; clear HO544; clear HO546; clear HO550; clear BK536; clear BK556; clear HB; have HO539 := n0_; have HO544 := n1_; have HO546 := n2_; have HO550 := n3_; have HO561 := n4_; have BK536 := n5_; have BK556 := n6_; have HB := n7_; clear n0_ n1_ n2_ n3_ n4_ n5_ n6_ n7_; (try clear hb); (try clear hb2); (try clear hk); (try clear hi); (try clear ho0); obtain ⟨Ao55, co55, eo55⟩ := Kd.R_slice HO544.out; subst eo55; obtain ⟨Ao56, co56, eo56⟩ := Kd.R_slice HO561.out; subst eo56) | ((with_reducible refine gate_callee (f := 28) rfl ?_); refine goesL_ (some 82) rfl rfl Try.func28 (by kernel_rfl) rfl #[.slice Ao55 t540.length co55, .slice Ao56 t559.length co56] rfl (by (try simp only [List.map_toArray, List.map_cons, List.map_nil]); first | done | rfl | (simp only [List.length_drop, List.length_take]; rfl)) ?_; (with_reducible refine (tattleref03_Same.calls k _ _ t540 _ _ t559 true _ ?side1 ?side2 ?side3 ?side4 A21.out).mono ?_); (case side1 => repeat (first | exact (Kd.R_reads' HO544.out).2.2 | (with_reducible refine Kd.C_alloc ?_ _) | (with_reducible refine Kd.C_drewN ?_ _) | (with_reducible refine Kd.C_drew ?_))); (case side2 => exact (Kd.R_reads' HO544.out).2.1); (case side3 => repeat (first | exact (Kd.R_reads' HO561.out).2.2 | (with_reducible refine Kd.C_alloc ?_ _) | (with_reducible refine Kd.C_drewN ?_ _) | (with_reducible refine Kd.C_drew ?_))); (case side4 => exact (Kd.R_reads' HO561.out).2.1); rintro e w' ⟨rfl, ⟨nd, rfl⟩⟩; refine ⟨_, rfl, ?_⟩) | (go_at_call 39; (with_reducible refine (tattleref03_Due.calls k _ _ t537 a0_1 false t563 _ ?side1 ?side2 A23.out).mono ?_); (case side1 => repeat (first | exact (Kd.V_reads' HO539.out).2.2 | (with_reducible refine Kd.C_alloc ?_ _) | (with_reducible refine Kd.C_drewN ?_ _) | (with_reducible refine Kd.C_drew ?_))); (case side2 => exact (Kd.V_reads' HO539.out).2.1); rintro e w57 ⟨v564, rfl, ho0, hb⟩; have n0_ := Aside0.mk (Kd.V_elder' (by (with_reducible repeat (first | apply Kd.V_alloc | apply Kd.V_drewN | apply Kd.V_drew)); exact HO539.out) (Kd.R_base ho0) hb); have n1_ := Aside0.mk (Kd.R_elder' (by (with_reducible repeat (first | apply Kd.R_alloc | apply Kd.R_drewN | apply Kd.R_drew)); exact HO544.out) (Kd.R_base ho0) hb); have n2_ := Aside0.mk (Kd.R_elder' (by (with_reducible repeat (first | apply Kd.R_alloc | apply Kd.R_drewN | apply Kd.R_drew)); exact HO546.out) (Kd.R_base ho0) hb); have n3_ := Aside0.mk (Kd.R_elder' (by (with_reducible repeat (first | apply Kd.R_alloc | apply Kd.R_drewN | apply Kd.R_drew)); exact HO550.out) (Kd.R_base ho0) hb); have n4_ := Aside0.mk (Kd.R_elder' (by (with_reducible repeat (first | apply Kd.R_alloc | apply Kd.R_drewN | apply Kd.R_drew)); exact HO561.out) (Kd.R_base ho0) hb); have n5_ := Aside0.mk (Kd.R_lower (Kd.R_newB (Kd.R_new' (Kd.R_new' (Kd.R_new' (Kd.R_new' ho0 (Kd.R_lt (by (with_reducible repeat (first | apply Kd.R_alloc | apply Kd.R_drewN | apply Kd.R_drew)); exact HO544.out))) (Kd.R_lt (by (with_reducible repeat (first | apply Kd.R_alloc | apply Kd.R_drewN | apply Kd.R_drew)); exact HO546.out))) (Kd.R_lt (by (with_reducible repeat (first | apply Kd.R_alloc | apply Kd.R_drewN | apply Kd.R_drew)); exact HO550.out))) (Kd.R_lt (by (with_reducible repeat (first | apply Kd.R_alloc | apply Kd.R_drewN | apply Kd.R_drew)); exact HO561.out))) (g := gb556) (o := .cells #[.int .i64 t551, .int .i64 t552, .int .i64 t553, .int .u64 t554] 52 (0, 0)) (by (with_reducible repeat (first | refine blk_drewN ?_ _ | refine blk_drew ?_ | refine blk_alloc ?_ _)); exact BK556.out)) (below_size (by repeat (first | (with_reducible first | exact HB.out | apply below_alloc | apply pw_below_drewN | apply below_drew1 | refine below_set ?_ GE536.out | refine below_set ?_ GE556.out) | exact HB.out)))); have n6_ := Aside0.mk (blk_below (g := gb536) (o := .cells #[.slice A0_0 l0_0.length c0_0, .int .i64 a0_1, .int .i64 a0_2, .int .i64 a0_3] 69 (0, 0)) (by (with_reducible repeat (first | refine blk_drewN ?_ _ | refine blk_drew ?_ | refine blk_alloc ?_ _)); exact BK536.out) hb); have n7_ := Aside0.mk (blk_below (g := gb556) (o := .cells #[.int .i64 t551, .int .i64 t552, .int .i64 t553, .int .u64 t554] 52 (0, 0)) (by (with_reducible repeat (first | refine blk_drewN ?_ _ | refine blk_drew ?_ | refine blk_alloc ?_ _)); exact BK556.out) hb); have n8_ := Aside0.mk (below_step (by repeat (first | (with_reducible first | exact HB.out | apply below_alloc | apply pw_below_drewN | apply below_drew1 | refine below_set ?_ GE536.out | refine below_set ?_ GE556.out) | exact HB.out)) hb); clear HO539; clear HO544; clear HO546; clear HO550; clear HO561; clear BK536; clear BK556; clear HB; have HO539 := n0_; have HO544 := n1_; have HO546 := n2_; have HO550 := n3_; have HO561 := n4_; have HO565 := n5_; have BK536 := n6_; have BK556 := n7_; have HB := n8_; clear n0_ n1_ n2_ n3_ n4_ n5_ n6_ n7_ n8_; (try clear hb); (try clear hb2); (try clear hk); (try clear hi); (try clear ho0); obtain ⟨Ao58, co58, eo58⟩ := Kd.R_slice HO546.out; subst eo58; obtain ⟨Ao59, co59, eo59⟩ := Kd.R_slice HO565.out; subst eo59) | (go_at_call 28; (with_reducible refine (tattleref03_Same.calls k _ _ t541 _ _ t563 false _ ?side1 ?side2 ?side3 ?side4 A24.out).mono ?_); (case side1 => repeat (first | exact (Kd.R_reads' HO546.out).2.2 | (with_reducible refine Kd.C_alloc ?_ _) | (with_reducible refine Kd.C_drewN ?_ _) | (with_reducible refine Kd.C_drew ?_))); (case side2 => exact (Kd.R_reads' HO546.out).2.1); (case side3 => repeat (first | exact (Kd.R_reads' HO565.out).2.2 | (with_reducible refine Kd.C_alloc ?_ _) | (with_reducible refine Kd.C_drewN ?_ _) | (with_reducible refine Kd.C_drew ?_))); (case side4 => exact (Kd.R_reads' HO565.out).2.1); rintro e w' ⟨rfl, ⟨nd, rfl⟩⟩))
          go_meet
          case rel => exact ⟨_, (true), (by first | rfl | (simp; done) | (simp [*]; done)), H', ⟨by first | omega | exact Nat.le_refl _⟩, ⟨by (with_reducible repeat (first | apply Kd.V_alloc | apply Kd.V_drewN | apply Kd.V_drew)); exact Kd.V_mono HO539.out (fun _ hk => ⟨hk.1.1.1.1.1.1, hk.1.1.2⟩)⟩, ⟨by (with_reducible repeat (first | refine blk_drewN ?_ _ | refine blk_drew ?_ | refine blk_alloc ?_ _)); exact BK536.out⟩, ⟨by (with_reducible repeat (first | refine blk_drewN ?_ _ | refine blk_drew ?_ | refine blk_alloc ?_ _)); exact BK556.out⟩, ⟨by repeat (first | (with_reducible first | exact HB.out | apply below_alloc | apply pw_below_drewN | apply below_drew1 | refine below_set ?_ GE536.out | refine below_set ?_ GE556.out) | exact HB.out)⟩⟩
      · replace c22 := Bool.eq_false_iff.mpr c22
        subst c22
        have H1 : (tattlelaw03_TimerTakes.j0 k t537 t555 true t551 t552 t553 t554) = some r := by rw [if_neg (show ¬ (false = true) by decide)] at H; exact H
        clear H
        have H := H1
        clear H1
        have H' := Aside0.mk H
        clear H
        go_wp2_with (first | ((with_reducible refine gate_callee (f := 39) rfl ?_); refine goesL_ (some 81) rfl rfl Try.func39 (by kernel_rfl) rfl #[.slice Ao12 t537.length co12, .int .i64 a0_1, .bool true] rfl (by (try simp only [List.map_toArray, List.map_cons, List.map_nil]); first | done | rfl | (simp only [List.length_drop, List.length_take]; rfl)) ?_; (with_reducible refine (tattleref03_Due.calls k _ _ t537 a0_1 true t559 _ ?side1 ?side2 A20.out).mono ?_); (case side1 => repeat (first | exact (Kd.V_reads' HO539.out).2.2 | (with_reducible refine Kd.C_alloc ?_ _) | (with_reducible refine Kd.C_drewN ?_ _) | (with_reducible refine Kd.C_drew ?_))); (case side2 => exact (Kd.V_reads' HO539.out).2.1); rintro e w60 ⟨v560, rfl, ho0, hb⟩; refine ⟨_, rfl, ?_⟩; have n0_ := Aside0.mk (Kd.V_elder' (by (with_reducible repeat (first | apply Kd.V_alloc | apply Kd.V_drewN | apply Kd.V_drew)); exact HO539.out) (Kd.R_base ho0) hb); have n1_ := Aside0.mk (Kd.R_elder' (by (with_reducible repeat (first | apply Kd.R_alloc | apply Kd.R_drewN | apply Kd.R_drew)); exact HO544.out) (Kd.R_base ho0) hb); have n2_ := Aside0.mk (Kd.R_elder' (by (with_reducible repeat (first | apply Kd.R_alloc | apply Kd.R_drewN | apply Kd.R_drew)); exact HO546.out) (Kd.R_base ho0) hb); have n3_ := Aside0.mk (Kd.R_elder' (by (with_reducible repeat (first | apply Kd.R_alloc | apply Kd.R_drewN | apply Kd.R_drew)); exact HO550.out) (Kd.R_base ho0) hb); have n4_ := Aside0.mk (Kd.R_lower (Kd.R_newB (Kd.R_new' (Kd.R_new' (Kd.R_new' ho0 (Kd.R_lt (by (with_reducible repeat (first | apply Kd.R_alloc | apply Kd.R_drewN | apply Kd.R_drew)); exact HO544.out))) (Kd.R_lt (by (with_reducible repeat (first | apply Kd.R_alloc | apply Kd.R_drewN | apply Kd.R_drew)); exact HO546.out))) (Kd.R_lt (by (with_reducible repeat (first | apply Kd.R_alloc | apply Kd.R_drewN | apply Kd.R_drew)); exact HO550.out))) (g := gb556) (o := .cells #[.int .i64 t551, .int .i64 t552, .int .i64 t553, .int .u64 t554] 52 (0, 0)) (by (with_reducible repeat (first | refine blk_drewN ?_ _ | refine blk_drew ?_ | refine blk_alloc ?_ _)); exact BK556.out)) (below_size (by repeat (first | (with_reducible first | exact HB.out | apply below_alloc | apply pw_below_drewN | apply below_drew1 | refine below_set ?_ GE536.out | refine below_set ?_ GE556.out) | exact HB.out)))); have n5_ := Aside0.mk (blk_below (g := gb536) (o := .cells #[.slice A0_0 l0_0.length c0_0, .int .i64 a0_1, .int .i64 a0_2, .int .i64 a0_3] 69 (0, 0)) (by (with_reducible repeat (first | refine blk_drewN ?_ _ | refine blk_drew ?_ | refine blk_alloc ?_ _)); exact BK536.out) hb); have n6_ := Aside0.mk (blk_below (g := gb556) (o := .cells #[.int .i64 t551, .int .i64 t552, .int .i64 t553, .int .u64 t554] 52 (0, 0)) (by (with_reducible repeat (first | refine blk_drewN ?_ _ | refine blk_drew ?_ | refine blk_alloc ?_ _)); exact BK556.out) hb); have n7_ := Aside0.mk (below_step (by repeat (first | (with_reducible first | exact HB.out | apply below_alloc | apply pw_below_drewN | apply below_drew1 | refine below_set ?_ GE536.out | refine below_set ?_ GE556.out) | exact HB.out)) hb); clear HO539; clear HO544; clear HO546; clear HO550; clear BK536; clear BK556; clear HB; have HO539 := n0_; have HO544 := n1_; have HO546 := n2_; have HO550 := n3_; have HO561 := n4_; have BK536 := n5_; have BK556 := n6_; have HB := n7_; clear n0_ n1_ n2_ n3_ n4_ n5_ n6_ n7_; (try clear hb); (try clear hb2); (try clear hk); (try clear hi); (try clear ho0); obtain ⟨Ao61, co61, eo61⟩ := Kd.R_slice HO544.out; subst eo61; obtain ⟨Ao62, co62, eo62⟩ := Kd.R_slice HO561.out; subst eo62) | ((with_reducible refine gate_callee (f := 28) rfl ?_); refine goesL_ (some 82) rfl rfl Try.func28 (by kernel_rfl) rfl #[.slice Ao61 t540.length co61, .slice Ao62 t559.length co62] rfl (by (try simp only [List.map_toArray, List.map_cons, List.map_nil]); first | done | rfl | (simp only [List.length_drop, List.length_take]; rfl)) ?_; (with_reducible refine (tattleref03_Same.calls k _ _ t540 _ _ t559 false _ ?side1 ?side2 ?side3 ?side4 A21.out).mono ?_); (case side1 => repeat (first | exact (Kd.R_reads' HO544.out).2.2 | (with_reducible refine Kd.C_alloc ?_ _) | (with_reducible refine Kd.C_drewN ?_ _) | (with_reducible refine Kd.C_drew ?_))); (case side2 => exact (Kd.R_reads' HO544.out).2.1); (case side3 => repeat (first | exact (Kd.R_reads' HO561.out).2.2 | (with_reducible refine Kd.C_alloc ?_ _) | (with_reducible refine Kd.C_drewN ?_ _) | (with_reducible refine Kd.C_drew ?_))); (case side4 => exact (Kd.R_reads' HO561.out).2.1); rintro e w' ⟨rfl, ⟨nd, rfl⟩⟩; refine ⟨_, rfl, ?_⟩))
        go_meet
        case rel => exact ⟨_, (true), (by first | rfl | (simp; done) | (simp [*]; done)), H', ⟨by first | omega | exact Nat.le_refl _⟩, ⟨by (with_reducible repeat (first | apply Kd.V_alloc | apply Kd.V_drewN | apply Kd.V_drew)); exact Kd.V_mono HO539.out (fun _ hk => ⟨hk.1.1.1.1.1, hk.1.2⟩)⟩, ⟨by (with_reducible repeat (first | refine blk_drewN ?_ _ | refine blk_drew ?_ | refine blk_alloc ?_ _)); exact BK536.out⟩, ⟨by (with_reducible repeat (first | refine blk_drewN ?_ _ | refine blk_drew ?_ | refine blk_alloc ?_ _)); exact BK556.out⟩, ⟨by repeat (first | (with_reducible first | exact HB.out | apply below_alloc | apply pw_below_drewN | apply below_drew1 | refine below_set ?_ GE536.out | refine below_set ?_ GE556.out) | exact HB.out)⟩⟩
    case rest =>
      clear HC8
      try clear c1
      try clear c2
      try clear p2
      try clear c3
      try clear c7
      try clear c12
      try clear c17
      try clear c22
      try clear c25
      try clear c26
      try clear c26b0
      try clear c26b1
      try clear c28
      try clear c29
      try clear c30
      try clear c33
      try clear c36
      try clear c37
      try clear c38
      try clear c39
      try clear hcz18_0
      try clear hcz18_1
      try clear hcz18_2
      try clear hcz18_3
      try clear hfz18_0
      try clear hfz18_1
      try clear hfz18_2
      try clear hfz18_3
      obtain ⟨kq, x108_7, rfl, HA, HJ7, HO_3, BK536, BK556, HB⟩ := hcut
      cases kq with
      | zero => exact absurd HA.out (by simp [tattlelaw03_TimerTakes.j0])
      | succ kj7 =>
        have H := HA.out
        clear HA
        simp only [tattlelaw03_TimerTakes.j0] at H
        by_cases c63 : x108_7 = true
        · subst c63
          have H1 : (some false) = some r := by rw [if_pos rfl] at H; exact H
          clear H
          have H := H1
          clear H1
          exact absurd ((Option.some.inj H).trans hrt.out) (by decide)
        · replace c63 := Bool.eq_false_iff.mpr c63
          subst c63
          have H1 : (if (t537.length : Int) = 0 then (if (t551 == 0 && (t552 == 0 && (t553 == 0 && (t554 == 0)))) = true then (if t555 = 6 then ((tattlelaw03_awakeT.f).bind fun t571 => (some t571)) else (some false)) else (some false)) else (if 0 < (t537.length : Int) then (if (t551 == ((rd_T52 t537 0).f0) && (t552 == ((rd_T52 t537 0).f1) && (t553 == ((rd_T52 t537 0).f2) && (t554 == ((rd_T52 t537 0).f3))))) = true then (if t555 = 0 then ((tattlelaw03_awakeT.f).bind fun t573 => (some t573)) else (some false)) else (some false)) else (none))) = some r := by rw [if_neg (show ¬ (false = true) by decide)] at H; exact H
          clear H
          have H := H1
          clear H1
          by_cases c64 : (t537.length : Int) = 0
          · rw [if_pos c64] at H
            have c64b0 : ((t537.length : Int) == 0) = true := beq_iff_eq.mpr c64
            have c64b1 : ((t537.length : Int) != 0) = false := bne_eq_false_iff_eq.mpr c64
            clear c64
            by_cases c65 : (t551 == 0 && (t552 == 0 && (t553 == 0 && (t554 == 0)))) = true
            · rw [if_pos c65] at H
              have c65b0 : (t551 == 0 && (t552 == 0 && (t553 == 0 && (t554 == 0)))) = true := c65
              (try (have c65b1 : decide (t551 = 0 && (t552 == 0 && (t553 == 0 && (t554 == 0)))) = true := by simpa using c65))
              (try (have c65b2 : (t551 == 0 && (t552 == 0 && (t553 == 0 && (t554 == 0)))) = true := by simpa using c65))
              clear c65
              by_cases c66 : t555 = 6
              · rw [if_pos c66] at H
                have c66b0 : (t555 == 6) = true := beq_iff_eq.mpr c66
                have c66b1 : (t555 != 6) = false := bne_eq_false_iff_eq.mpr c66
                clear c66
                replace H := Option.bind_eq_some_iff.mp H
                obtain ⟨t571, A670, H⟩ := H
                replace H : (some t571) = some r := H
                have A67 := Aside0.mk A670
                clear A670
                obtain rfl := Option.some.inj H
                have hnb68 := NB556_536.out
                have hnc68 := NB536_556.out
                have hcz69_0 : wc.cell? ⟨gb556, 0, none⟩ = some (.int .i64 t551) := (blk_cell BK556.out 0).trans rfl
                have hcz69_1 : wc.cell? ⟨gb556, 1, none⟩ = some (.int .i64 t552) := (blk_cell BK556.out 1).trans rfl
                have hcz69_2 : wc.cell? ⟨gb556, 2, none⟩ = some (.int .i64 t553) := (blk_cell BK556.out 2).trans rfl
                have hcz69_3 : wc.cell? ⟨gb556, 3, none⟩ = some (.int .u64 t554) := (blk_cell BK556.out 3).trans rfl
                have hfz69_0 := blk_frozen BK556.out 0
                have hfz69_1 := blk_frozen BK556.out 1
                have hfz69_2 := blk_frozen BK556.out 2
                have hfz69_3 := blk_frozen BK556.out 3
                go_wp2_with (first | (go_at_call 29; (with_reducible refine (tattlelaw03_awakeT.calls  t571 _ A67.out).mono ?_); rintro e w70 ⟨rfl, hb⟩; have n0_ := Aside0.mk (blk_below (g := gb536) (o := .cells #[.slice A0_0 l0_0.length c0_0, .int .i64 a0_1, .int .i64 a0_2, .int .i64 a0_3] 69 (0, 0)) (by (with_reducible repeat (first | refine blk_drewN ?_ _ | refine blk_drew ?_ | refine blk_alloc ?_ _)); exact BK536.out) hb); have n1_ := Aside0.mk (blk_below (g := gb556) (o := .cells #[.int .i64 t551, .int .i64 t552, .int .i64 t553, .int .u64 t554] 52 (0, 0)) (by (with_reducible repeat (first | refine blk_drewN ?_ _ | refine blk_drew ?_ | refine blk_alloc ?_ _)); exact BK556.out) hb); have n2_ := Aside0.mk (below_step (by repeat (first | (with_reducible first | exact HB.out | apply below_alloc | apply pw_below_drewN | apply below_drew1 | refine below_set ?_ GE536.out | refine below_set ?_ GE556.out) | exact HB.out)) hb); clear BK536; clear BK556; clear HB; have BK536 := n0_; have BK556 := n1_; have HB := n2_; clear n0_ n1_ n2_; (try clear hb); (try clear hb2); (try clear hk); (try clear hi)))
                go_ret
                exact ⟨by first | rfl | (simp [errW_none, errW_some] <;> rfl) | (simp [*, errW_none, errW_some] <;> rfl), by repeat (first | (with_reducible first | exact HB.out | apply below_alloc | apply pw_below_drewN | apply below_drew1 | refine below_set ?_ GE536.out | refine below_set ?_ GE556.out) | exact HB.out)⟩
              · rw [if_neg c66] at H
                have c66b0 : (t555 == 6) = false := beq_eq_false_iff_ne.mpr c66
                have c66b1 : (t555 != 6) = true := bne_iff_ne.mpr c66
                exact absurd ((Option.some.inj H).trans hrt.out) (by decide)
            · rw [if_neg c65] at H
              have c65b0 : (t551 == 0 && (t552 == 0 && (t553 == 0 && (t554 == 0)))) = false := by simpa using c65
              (try (have c65b1 : decide (t551 = 0 && (t552 == 0 && (t553 == 0 && (t554 == 0)))) = false := by simpa using c65))
              (try (have c65b2 : (t551 == 0 && (t552 == 0 && (t553 == 0 && (t554 == 0)))) = false := by simpa using c65))
              (try (have c65b3 : ¬ (t551 = 0 && (t552 == 0 && (t553 == 0 && (t554 == 0)))) := by simpa using c65))
              clear c65
              exact absurd ((Option.some.inj H).trans hrt.out) (by decide)
          · rw [if_neg c64] at H
            have c64b0 : ((t537.length : Int) == 0) = false := beq_eq_false_iff_ne.mpr c64
            have c64b1 : ((t537.length : Int) != 0) = true := bne_iff_ne.mpr c64
            have c64b2 : ¬ (t537 = []) := fun h_ => c64 (by rw [h_]; rfl)
            by_cases c71 : 0 < (t537.length : Int)
            · rw [if_pos c71] at H
              have c71b0 : decide (0 < (t537.length : Int)) = true := decide_eq_true c71
              have c71b1 : decide (0 < t537.length) = true := decide_eq_true (by omega)
              clear c71
              by_cases c72 : (t551 == ((rd_T52 t537 0).f0) && (t552 == ((rd_T52 t537 0).f1) && (t553 == ((rd_T52 t537 0).f2) && (t554 == ((rd_T52 t537 0).f3))))) = true
              · rw [if_pos c72] at H
                have c72b0 : (t551 == ((rd_T52 t537 0).f0) && (t552 == ((rd_T52 t537 0).f1) && (t553 == ((rd_T52 t537 0).f2) && (t554 == ((rd_T52 t537 0).f3))))) = true := c72
                (try (have c72b1 : decide (t551 = ((rd_T52 t537 0).f0) && (t552 == ((rd_T52 t537 0).f1) && (t553 == ((rd_T52 t537 0).f2) && (t554 == ((rd_T52 t537 0).f3))))) = true := by simpa using c72))
                (try (have c72b2 : (t551 == ((rd_T52 t537 0).f0) && (t552 == ((rd_T52 t537 0).f1) && (t553 == ((rd_T52 t537 0).f2) && (t554 == ((rd_T52 t537 0).f3))))) = true := by simpa using c72))
                clear c72
                by_cases c73 : t555 = 0
                · rw [if_pos c73] at H
                  have c73b0 : (t555 == 0) = true := beq_iff_eq.mpr c73
                  have c73b1 : (t555 != 0) = false := bne_eq_false_iff_eq.mpr c73
                  clear c73
                  replace H := Option.bind_eq_some_iff.mp H
                  obtain ⟨t573, A740, H⟩ := H
                  replace H : (some t573) = some r := H
                  have A74 := Aside0.mk A740
                  clear A740
                  obtain rfl := Option.some.inj H
                  try go_wp2
                  have n0_ := Aside0.mk (Kd.V_drew HO_3.out)
                  have n1_ := Aside0.mk (blk_drew BK536.out)
                  have n2_ := Aside0.mk (blk_drew BK556.out)
                  have n3_ := Aside0.mk (below_drew1 HB.out)
                  clear HO_3
                  clear BK536
                  clear BK556
                  clear HB
                  have HO_3 := n0_
                  have BK536 := n1_
                  have BK556 := n2_
                  have HB := n3_
                  clear n0_ n1_ n2_ n3_
                  have p572 : 0 ≤ (0 : Int) := (by omega)
                  have q572 : 0 < (t537.length : Int) := of_decide_eq_true (by first | (with_reducible assumption) | assumption)
                  obtain ⟨ad572, e572, hx572_0, hx572_1, hx572_2, hx572_3⟩ := at_T52 (Kd.V_reads' HO_3.out).2.2 0 p572 q572
                  cases e572
                  have qi572 : (0 < t537.length) = True := eq_true (by omega)
                  (try rw [show ((0 : Int)).toNat = 0 from rfl] at hx572_0)
                  (try rw [show 0 * 4 = 0 from rfl] at hx572_0)
                  (try rw [Addr.add_zero'] at hx572_0)
                  (try rw [show ((0 : Int)).toNat = 0 from rfl] at hx572_1)
                  (try rw [show 0 * 4 = 0 from rfl] at hx572_1)
                  (try rw [Addr.add_zero'] at hx572_1)
                  (try rw [show ((0 : Int)).toNat = 0 from rfl] at hx572_2)
                  (try rw [show 0 * 4 = 0 from rfl] at hx572_2)
                  (try rw [Addr.add_zero'] at hx572_2)
                  (try rw [show ((0 : Int)).toNat = 0 from rfl] at hx572_3)
                  (try rw [show 0 * 4 = 0 from rfl] at hx572_3)
                  (try rw [Addr.add_zero'] at hx572_3)
                  replace p572 := eq_true p572
                  replace q572 := eq_true q572
                  refine start_ (n := 13) (S := fun w' => w'.cell? ⟨gb556, 0, none⟩ = some (.int .i64 t551) ∧ w'.cell? ⟨gb556, 1, none⟩ = some (.int .i64 t552) ∧ w'.cell? ⟨gb556, 2, none⟩ = some (.int .i64 t553) ∧ w'.cell? ⟨gb556, 3, none⟩ = some (.int .u64 t554) ∧ w'.cell? ad572 = some (.int .i64 ((rd_T52 t537 0).f0)) ∧ w'.cell? ⟨ad572.block, ad572.off + 1, none⟩ = some (.int .i64 ((rd_T52 t537 0).f1)) ∧ w'.cell? ⟨ad572.block, ad572.off + 2, none⟩ = some (.int .i64 ((rd_T52 t537 0).f2)) ∧ w'.cell? ⟨ad572.block, ad572.off + 3, none⟩ = some (.int .u64 ((rd_T52 t537 0).f3))) (ds := []) #[false, false, false, false, false, false, false, false, false, false, false, false, false] (by kernel_rfl) rfl rfl ⟨(blk_cell BK556.out 0).trans rfl, (blk_cell BK556.out 1).trans rfl, (blk_cell BK556.out 2).trans rfl, (blk_cell BK556.out 3).trans rfl, hx572_0, hx572_1, hx572_2, hx572_3⟩ (fun hHeld => ?_); refine with_tabW tattlelaw03_TimerTakes.tab11 tattlelaw03_TimerTakes.bits11 (fun HT_ HW_ => ?_)
                  generalize wc.drew = w75 at HO_3 BK536 BK556 HB hx572_0 hx572_1 hx572_2 hx572_3 hHeld ⊢
                  refine pure_ (i := 1) (N := some 123) (v := ?_) (a' := ?_) #[false, true, false, false, false, false, false, false, false, false, false, false, false] rfl rfl (any_of HT_.out (by kernel_rfl)) (fun _ _ _ h => h) (Or.inl ⟨by rfl, ?_⟩) ?_ ?_
                  rotate_left
                  · intro w'
                    go_simp
                    with_reducible rfl
                  rotate_left
                  · simp only [Act.put, List.setIfInBounds_toArray, List.set_cons_zero, List.set_cons_succ, i64_w, i32_w]
                    rfl
                  refine pure_ (i := 2) (N := some 124) (v := ?_) (a' := ?_) #[false, true, true, false, false, false, false, false, false, false, false, false, false] rfl rfl (any_of HT_.out (by kernel_rfl)) (fun _ _ _ h => h) (Or.inl ⟨by rfl, ?_⟩) ?_ ?_
                  rotate_left
                  · intro w'
                    go_simp
                    with_reducible rfl
                  rotate_left
                  · simp only [Act.put, List.setIfInBounds_toArray, List.set_cons_zero, List.set_cons_succ, i64_w, i32_w]
                    rfl
                  refine take_ (i := 0) (N := some 122) (v := ?_) (a' := ?_) #[true, true, true, false, false, false, false, false, false, false, false, false, false] rfl rfl (take_ofW HT_.out HW_.out (by kernel_rfl)) (fun _ _ _ h => h) (Or.inl ⟨by rfl, ?_⟩) hHeld ?_ ?_
                  rotate_left
                  · rintro w' ⟨s0, s1, s2, s3, s4, s5, s6, s7⟩
                    go_simp
                    with_reducible rfl
                  rotate_left
                  · simp only [Act.put, List.setIfInBounds_toArray, List.set_cons_zero, List.set_cons_succ, i64_w, i32_w]
                    rfl
                  refine take_ (i := 3) (N := some 125) (v := ?_) (a' := ?_) #[true, true, true, true, false, false, false, false, false, false, false, false, false] rfl rfl (take_ofW HT_.out HW_.out (by kernel_rfl)) (fun _ _ _ h => h) (Or.inl ⟨by rfl, ?_⟩) hHeld ?_ ?_
                  rotate_left
                  · rintro w' ⟨s0, s1, s2, s3, s4, s5, s6, s7⟩
                    go_simp
                    with_reducible rfl
                  rotate_left
                  · simp only [Act.put, List.setIfInBounds_toArray, List.set_cons_zero, List.set_cons_succ, i64_w, i32_w]
                    rfl
                  refine pure_ (i := 4) (N := some 126) (v := ?_) (a' := ?_) #[true, true, true, true, true, false, false, false, false, false, false, false, false] rfl rfl (any_of HT_.out (by kernel_rfl)) (fun _ _ _ h => h) (Or.inl ⟨by rfl, ?_⟩) ?_ ?_
                  rotate_left
                  · intro w'
                    go_simp
                    with_reducible rfl
                  rotate_left
                  · simp only [Act.put, List.setIfInBounds_toArray, List.set_cons_zero, List.set_cons_succ, i64_w, i32_w]
                    rfl
                  refine pure_ (i := 5) (N := some 127) (v := ?_) (a' := ?_) #[true, true, true, true, true, true, false, false, false, false, false, false, false] rfl rfl (any_of HT_.out (by kernel_rfl)) (fun _ _ _ h => h) (Or.inl ⟨by rfl, ?_⟩) ?_ ?_
                  rotate_left
                  · intro w'
                    go_simp
                    with_reducible rfl
                  rotate_left
                  · simp only [Act.put, List.setIfInBounds_toArray, List.set_cons_zero, List.set_cons_succ, i64_w, i32_w]
                    rfl
                  refine pure_ (i := 6) (N := some 128) (v := ?_) (a' := ?_) #[true, true, true, true, true, true, true, false, false, false, false, false, false] rfl rfl (any_of HT_.out (by kernel_rfl)) (fun _ _ _ h => h) (Or.inl ⟨by rfl, ?_⟩) ?_ ?_
                  rotate_left
                  · intro w'
                    go_simp
                    with_reducible rfl
                  rotate_left
                  · simp only [Act.put, List.setIfInBounds_toArray, List.set_cons_zero, List.set_cons_succ, i64_w, i32_w]
                    rfl
                  refine pure_ (i := 7) (N := some 129) (v := ?_) (a' := ?_) #[true, true, true, true, true, true, true, true, false, false, false, false, false] rfl rfl (any_of HT_.out (by kernel_rfl)) (fun _ _ _ h => h) (Or.inl ⟨by rfl, ?_⟩) ?_ ?_
                  rotate_left
                  · intro w'
                    go_simp
                    with_reducible rfl
                  rotate_left
                  · simp only [Act.put, List.setIfInBounds_toArray, List.set_cons_zero, List.set_cons_succ, i64_w, i32_w]
                    rfl
                  refine pure_ (i := 8) (N := some 130) (v := ?_) (a' := ?_) #[true, true, true, true, true, true, true, true, true, false, false, false, false] rfl rfl (any_of HT_.out (by kernel_rfl)) (fun _ _ _ h => h) (Or.inl ⟨by rfl, ?_⟩) ?_ ?_
                  rotate_left
                  · intro w'
                    go_simp
                    with_reducible rfl
                  rotate_left
                  · simp only [Act.put, List.setIfInBounds_toArray, List.set_cons_zero, List.set_cons_succ, i64_w, i32_w]
                    rfl
                  refine pure_ (i := 9) (N := some 131) (v := ?_) (a' := ?_) #[true, true, true, true, true, true, true, true, true, true, false, false, false] rfl rfl (any_of HT_.out (by kernel_rfl)) (fun _ _ _ h => h) (Or.inl ⟨by rfl, ?_⟩) ?_ ?_
                  rotate_left
                  · intro w'
                    go_simp
                    with_reducible rfl
                  rotate_left
                  · simp only [Act.put, List.setIfInBounds_toArray, List.set_cons_zero, List.set_cons_succ, i64_w, i32_w]
                    rfl
                  refine one_ (i := 10) (N := some 132) #[true, true, true, true, true, true, true, true, true, true, true, false, false] rfl rfl (one_of HT_.out (by kernel_rfl)) (by decide) (fun K hK => ?_)
                  refine goes_ Try.func29 (by kernel_rfl) rfl #[] (by rfl) rfl rfl (by (try simp only [List.map_toArray, List.map_cons, List.map_nil]); first | done | rfl | (simp only [List.length_drop, List.length_take]; rfl)) ?_
                  with_reducible refine (tattlelaw03_awakeT.calls  t573 _ A74.out).mono ?_
                  rintro e w76 ⟨rfl, hb⟩
                  have HS4_ := (hb.cell (World.block_lt_of_cell? _ _ (hHeld.2.2.2.2.1))).trans (hHeld.2.2.2.2.1)
                  have HS5_ := (hb.cell (World.block_lt_of_cell? _ _ (hHeld.2.2.2.2.2.1))).trans (hHeld.2.2.2.2.2.1)
                  have HS6_ := (hb.cell (World.block_lt_of_cell? _ _ (hHeld.2.2.2.2.2.2.1))).trans (hHeld.2.2.2.2.2.2.1)
                  have HS7_ := (hb.cell (World.block_lt_of_cell? _ _ (hHeld.2.2.2.2.2.2.2))).trans (hHeld.2.2.2.2.2.2.2)
                  refine ⟨_, rfl, ?_⟩
                  have n0_ := Aside0.mk (Kd.V_below (by (with_reducible repeat (first | apply Kd.V_alloc | apply Kd.V_drewN | apply Kd.V_drew)); exact HO_3.out) hb)
                  have n1_ := Aside0.mk (blk_below (g := gb536) (o := .cells #[.slice A0_0 l0_0.length c0_0, .int .i64 a0_1, .int .i64 a0_2, .int .i64 a0_3] 69 (0, 0)) (by (with_reducible repeat (first | refine blk_drewN ?_ _ | refine blk_drew ?_ | refine blk_alloc ?_ _)); exact BK536.out) hb)
                  have n2_ := Aside0.mk (blk_below (g := gb556) (o := .cells #[.int .i64 t551, .int .i64 t552, .int .i64 t553, .int .u64 t554] 52 (0, 0)) (by (with_reducible repeat (first | refine blk_drewN ?_ _ | refine blk_drew ?_ | refine blk_alloc ?_ _)); exact BK556.out) hb)
                  have n3_ := Aside0.mk (below_step (by repeat (first | (with_reducible first | exact HB.out | apply below_alloc | apply pw_below_drewN | apply below_drew1 | refine below_set ?_ GE536.out | refine below_set ?_ GE556.out) | exact HB.out)) hb)
                  clear HO_3
                  clear BK536
                  clear BK556
                  clear HB
                  have HO_3 := n0_
                  have BK536 := n1_
                  have BK556 := n2_
                  have HB := n3_
                  clear n0_ n1_ n2_ n3_
                  (try clear hb)
                  (try clear hb2)
                  (try clear hk)
                  (try clear hi)
                  refine hK.out _ _ ⟨(blk_cell BK556.out 0).trans rfl, (blk_cell BK556.out 1).trans rfl, (blk_cell BK556.out 2).trans rfl, (blk_cell BK556.out 3).trans rfl, HS4_, HS5_, HS6_, HS7_⟩ (fun hHeld => ?_)
                  clear hK K
                  refine norm_ (a' := ?_) ?_ ?_
                  rotate_left
                  · show Act.put _ (some 132) _ = _
                    simp only [Act.put, List.setIfInBounds_toArray, List.set_cons_zero, List.set_cons_succ, i64_w, i32_w]
                    rfl
                  refine pure_ (i := 11) (N := some 133) (v := ?_) (a' := ?_) #[true, true, true, true, true, true, true, true, true, true, true, true, false] rfl rfl (any_of HT_.out (by kernel_rfl)) (fun _ _ _ h => h) (Or.inl ⟨by rfl, ?_⟩) ?_ ?_
                  rotate_left
                  · intro w'
                    go_simp
                    with_reducible rfl
                  rotate_left
                  · simp only [Act.put, List.setIfInBounds_toArray, List.set_cons_zero, List.set_cons_succ, i64_w, i32_w]
                    rfl
                  refine pure_ (i := 12) (N := some 2) (v := ?_) (a' := ?_) #[true, true, true, true, true, true, true, true, true, true, true, true, true] rfl rfl (any_of HT_.out (by kernel_rfl)) (fun _ _ _ h => h) (Or.inl ⟨by rfl, ?_⟩) ?_ ?_
                  rotate_left
                  · intro w'
                    go_simp
                    with_reducible rfl
                  rotate_left
                  · simp only [Act.put, List.setIfInBounds_toArray, List.set_cons_zero, List.set_cons_succ, i64_w, i32_w]
                    rfl
                  refine done_ (done_of HT_.out (by kernel_rfl)) ?_
                  try go_wp2
                  go_ret
                  exact ⟨by first | rfl | (simp [errW_none, errW_some] <;> rfl) | (simp [*, errW_none, errW_some] <;> rfl), by repeat (first | (with_reducible first | exact HB.out | apply below_alloc | apply pw_below_drewN | apply below_drew1 | refine below_set ?_ GE536.out | refine below_set ?_ GE556.out) | exact HB.out)⟩
                · rw [if_neg c73] at H
                  have c73b0 : (t555 == 0) = false := beq_eq_false_iff_ne.mpr c73
                  have c73b1 : (t555 != 0) = true := bne_iff_ne.mpr c73
                  exact absurd ((Option.some.inj H).trans hrt.out) (by decide)
              · rw [if_neg c72] at H
                have c72b0 : (t551 == ((rd_T52 t537 0).f0) && (t552 == ((rd_T52 t537 0).f1) && (t553 == ((rd_T52 t537 0).f2) && (t554 == ((rd_T52 t537 0).f3))))) = false := by simpa using c72
                (try (have c72b1 : decide (t551 = ((rd_T52 t537 0).f0) && (t552 == ((rd_T52 t537 0).f1) && (t553 == ((rd_T52 t537 0).f2) && (t554 == ((rd_T52 t537 0).f3))))) = false := by simpa using c72))
                (try (have c72b2 : (t551 == ((rd_T52 t537 0).f0) && (t552 == ((rd_T52 t537 0).f1) && (t553 == ((rd_T52 t537 0).f2) && (t554 == ((rd_T52 t537 0).f3))))) = false := by simpa using c72))
                (try (have c72b3 : ¬ (t551 = ((rd_T52 t537 0).f0) && (t552 == ((rd_T52 t537 0).f1) && (t553 == ((rd_T52 t537 0).f2) && (t554 == ((rd_T52 t537 0).f3))))) := by simpa using c72))
                clear c72
                exact absurd ((Option.some.inj H).trans hrt.out) (by decide)
            · rw [if_neg c71] at H
              exact absurd H (by simp)
  · replace c7 := Bool.eq_false_iff.mpr c7
    subst c7
    have H1 : (if (t540.length : Int) = 0 then (if (t541.length : Int) = 0 then (if t542 = 1 then (if (t547.length : Int) = 0 then (if t548 = 1 then (if (t551 == 0 && (t552 == 0 && (t553 == 0 && (t554 == 0)))) = true then (if t555 = 1 then ((tattlelaw03_awakeT.f).bind fun t558 => (some t558)) else (some false)) else (some false)) else (some false)) else (some false)) else (some false)) else (some false)) else (some false)) = some r := by rw [if_neg (show ¬ (false = true) by decide)] at H; exact H
    clear H
    have H := H1
    clear H1
    by_cases c77 : (t540.length : Int) = 0
    · rw [if_pos c77] at H
      have c77b0 : ((t540.length : Int) == 0) = true := beq_iff_eq.mpr c77
      have c77b1 : ((t540.length : Int) != 0) = false := bne_eq_false_iff_eq.mpr c77
      clear c77
      by_cases c78 : (t541.length : Int) = 0
      · rw [if_pos c78] at H
        have c78b0 : ((t541.length : Int) == 0) = true := beq_iff_eq.mpr c78
        have c78b1 : ((t541.length : Int) != 0) = false := bne_eq_false_iff_eq.mpr c78
        clear c78
        by_cases c79 : t542 = 1
        · rw [if_pos c79] at H
          have c79b0 : (t542 == 1) = true := beq_iff_eq.mpr c79
          have c79b1 : (t542 != 1) = false := bne_eq_false_iff_eq.mpr c79
          clear c79
          by_cases c80 : (t547.length : Int) = 0
          · rw [if_pos c80] at H
            have c80b0 : ((t547.length : Int) == 0) = true := beq_iff_eq.mpr c80
            have c80b1 : ((t547.length : Int) != 0) = false := bne_eq_false_iff_eq.mpr c80
            clear c80
            by_cases c81 : t548 = 1
            · rw [if_pos c81] at H
              have c81b0 : (t548 == 1) = true := beq_iff_eq.mpr c81
              have c81b1 : (t548 != 1) = false := bne_eq_false_iff_eq.mpr c81
              clear c81
              by_cases c82 : (t551 == 0 && (t552 == 0 && (t553 == 0 && (t554 == 0)))) = true
              · rw [if_pos c82] at H
                have c82b0 : (t551 == 0 && (t552 == 0 && (t553 == 0 && (t554 == 0)))) = true := c82
                (try (have c82b1 : decide (t551 = 0 && (t552 == 0 && (t553 == 0 && (t554 == 0)))) = true := by simpa using c82))
                (try (have c82b2 : (t551 == 0 && (t552 == 0 && (t553 == 0 && (t554 == 0)))) = true := by simpa using c82))
                clear c82
                by_cases c83 : t555 = 1
                · rw [if_pos c83] at H
                  have c83b0 : (t555 == 1) = true := beq_iff_eq.mpr c83
                  have c83b1 : (t555 != 1) = false := bne_eq_false_iff_eq.mpr c83
                  clear c83
                  replace H := Option.bind_eq_some_iff.mp H
                  obtain ⟨t558, A840, H⟩ := H
                  replace H : (some t558) = some r := H
                  have A84 := Aside0.mk A840
                  clear A840
                  obtain rfl := Option.some.inj H
                  go_enter Try.func12, Try.ntmps12
                  try go_wp2_with (first | ((with_reducible refine gate_dst (N := 1) rfl ?_); (try (refine gate_guard (by rfl) ?_; dsimp only)); refine box_event ?hg (N := 1) ?hd (cs := #[.slice A0_0 l0_0.length c0_0, .int .i64 a0_1, .int .i64 a0_2, .int .i64 a0_3]) (t := 69) ?hr ?_; (case hd => rfl); (case hg => rfl); (case hr => first | (go_simp; done) | (go_simp; rfl)); intro gb536 hg w85 hbox hb; have n0_ := Aside0.mk (below_step (by repeat (first | (with_reducible first | exact HB.out | apply below_alloc | apply pw_below_drewN | apply below_drew1) | exact HB.out)) hb); have n1_ := Aside0.mk (hbox); have n2_ := Aside0.mk ((by rw [hg]; exact (below_size (by repeat (first | (with_reducible first | exact HB.out | apply below_alloc | apply pw_below_drewN | apply below_drew1) | exact HB.out))) : w.heap.size ≤ gb536)); have n3_ := Aside0.mk ((by rw [hg]; exact (below_size (by repeat (first | (with_reducible first | exact HB.out | apply below_alloc | apply pw_below_drewN | apply below_drew1) | exact HB.out))) : w.heap.size ≤ gb536)); clear HB; have HB := n0_; have BK536 := n1_; have GW536 := n2_; have GE536 := n3_; clear n0_ n1_ n2_ n3_; clear hb hbox hg))
                  have n0_ := Aside0.mk (blk_drew BK536.out)
                  have n1_ := Aside0.mk (below_drew1 HB.out)
                  clear BK536
                  clear HB
                  have BK536 := n0_
                  have HB := n1_
                  clear n0_ n1_
                  refine start_ (n := 13) (S := fun w' => w'.cell? ⟨gb536, 0, none⟩ = some (.slice A0_0 l0_0.length c0_0) ∧ w'.cell? ⟨gb536, 1, none⟩ = some (.int .i64 a0_1) ∧ w'.cell? ⟨gb536, 2, none⟩ = some (.int .i64 a0_2) ∧ w'.cell? ⟨gb536, 3, none⟩ = some (.int .i64 a0_3)) (ds := []) #[false, false, false, false, false, false, false, false, false, false, false, false, false] (by kernel_rfl) rfl rfl ⟨(blk_cell BK536.out 0).trans rfl, (blk_cell BK536.out 1).trans rfl, (blk_cell BK536.out 2).trans rfl, (blk_cell BK536.out 3).trans rfl⟩ (fun hHeld => ?_); refine with_tabW tattlelaw03_TimerTakes.tab1 tattlelaw03_TimerTakes.bits1 (fun HT_ HW_ => ?_)
                  generalize w85.drew = w86 at BK536 HB hHeld ⊢
                  refine pure_ (i := 0) (N := some 14) (v := ?_) (a' := ?_) #[true, false, false, false, false, false, false, false, false, false, false, false, false] rfl rfl (any_of HT_.out (by kernel_rfl)) (fun _ _ _ h => h) (Or.inl ⟨by rfl, ?_⟩) ?_ ?_
                  rotate_left
                  · intro w'
                    go_simp
                    with_reducible rfl
                  rotate_left
                  · simp only [Act.put, List.setIfInBounds_toArray, List.set_cons_zero, List.set_cons_succ, i64_w, i32_w]
                    rfl
                  refine pure_ (i := 3) (N := some 17) (v := ?_) (a' := ?_) #[true, false, false, true, false, false, false, false, false, false, false, false, false] rfl rfl (any_of HT_.out (by kernel_rfl)) (fun _ _ _ h => h) (Or.inl ⟨by rfl, ?_⟩) ?_ ?_
                  rotate_left
                  · intro w'
                    go_simp
                    with_reducible rfl
                  rotate_left
                  · simp only [Act.put, List.setIfInBounds_toArray, List.set_cons_zero, List.set_cons_succ, i64_w, i32_w]
                    rfl
                  refine pure_ (i := 5) (N := some 19) (v := ?_) (a' := ?_) #[true, false, false, true, false, true, false, false, false, false, false, false, false] rfl rfl (any_of HT_.out (by kernel_rfl)) (fun _ _ _ h => h) (Or.inl ⟨by rfl, ?_⟩) ?_ ?_
                  rotate_left
                  · intro w'
                    go_simp
                    with_reducible rfl
                  rotate_left
                  · simp only [Act.put, List.setIfInBounds_toArray, List.set_cons_zero, List.set_cons_succ, i64_w, i32_w]
                    rfl
                  refine pure_ (i := 7) (N := some 21) (v := ?_) (a' := ?_) #[true, false, false, true, false, true, false, true, false, false, false, false, false] rfl rfl (any_of HT_.out (by kernel_rfl)) (fun _ _ _ h => h) (Or.inl ⟨by rfl, ?_⟩) ?_ ?_
                  rotate_left
                  · intro w'
                    go_simp
                    with_reducible rfl
                  rotate_left
                  · simp only [Act.put, List.setIfInBounds_toArray, List.set_cons_zero, List.set_cons_succ, i64_w, i32_w]
                    rfl
                  refine take_ (i := 1) (N := some 15) (v := ?_) (a' := ?_) #[true, true, false, true, false, true, false, true, false, false, false, false, false] rfl rfl (take_ofW HT_.out HW_.out (by kernel_rfl)) (fun _ _ _ h => h) (Or.inl ⟨by rfl, ?_⟩) hHeld ?_ ?_
                  rotate_left
                  · rintro w' ⟨s0, s1, s2, s3⟩
                    go_simp
                    with_reducible rfl
                  rotate_left
                  · simp only [Act.put, List.setIfInBounds_toArray, List.set_cons_zero, List.set_cons_succ, i64_w, i32_w]
                    rfl
                  refine take_ (i := 4) (N := some 18) (v := ?_) (a' := ?_) #[true, true, false, true, true, true, false, true, false, false, false, false, false] rfl rfl (take_ofW HT_.out HW_.out (by kernel_rfl)) (fun _ _ _ h => h) (Or.inl ⟨by rfl, ?_⟩) hHeld ?_ ?_
                  rotate_left
                  · rintro w' ⟨s0, s1, s2, s3⟩
                    go_simp
                    with_reducible rfl
                  rotate_left
                  · simp only [Act.put, List.setIfInBounds_toArray, List.set_cons_zero, List.set_cons_succ, i64_w, i32_w]
                    rfl
                  refine take_ (i := 6) (N := some 20) (v := ?_) (a' := ?_) #[true, true, false, true, true, true, true, true, false, false, false, false, false] rfl rfl (take_ofW HT_.out HW_.out (by kernel_rfl)) (fun _ _ _ h => h) (Or.inl ⟨by rfl, ?_⟩) hHeld ?_ ?_
                  rotate_left
                  · rintro w' ⟨s0, s1, s2, s3⟩
                    go_simp
                    with_reducible rfl
                  rotate_left
                  · simp only [Act.put, List.setIfInBounds_toArray, List.set_cons_zero, List.set_cons_succ, i64_w, i32_w]
                    rfl
                  refine take_ (i := 8) (N := some 22) (v := ?_) (a' := ?_) #[true, true, false, true, true, true, true, true, true, false, false, false, false] rfl rfl (take_ofW HT_.out HW_.out (by kernel_rfl)) (fun _ _ _ h => h) (Or.inl ⟨by rfl, ?_⟩) hHeld ?_ ?_
                  rotate_left
                  · rintro w' ⟨s0, s1, s2, s3⟩
                    go_simp
                    with_reducible rfl
                  rotate_left
                  · simp only [Act.put, List.setIfInBounds_toArray, List.set_cons_zero, List.set_cons_succ, i64_w, i32_w]
                    rfl
                  refine one_ (i := 2) (N := some 16) #[true, true, true, true, true, true, true, true, true, false, false, false, false] rfl rfl (one_of HT_.out (by kernel_rfl)) (by decide) (fun K hK => ?_)
                  refine goes_ Try.func30 (by kernel_rfl) rfl #[.slice A0_0 l0_0.length c0_0] (by rfl) rfl rfl (by (try simp only [List.map_toArray, List.map_cons, List.map_nil]); first | done | rfl | (simp only [List.length_drop, List.length_take]; rfl)) ?_
                  with_reducible refine (tattlelaw03_Few.calls (fun k_ => k_ < w.heap.size) _ _ l0_0 t537 _ ?side1 A2.out).mono ?_
                  (case side1 => exact Kd.V_mk HC0_0.out (Kd.F_below (Kd.C_F k52_heap HR0_0.out) (by repeat (first | (with_reducible first | exact HB.out | apply below_alloc | apply pw_below_drewN | apply below_drew1 | refine below_set ?_ GE536.out) | exact HB.out))))
                  rintro e w87 ⟨v538, rfl, ho0, hb⟩
                  refine ⟨_, rfl, ?_⟩
                  have n0_ := Aside0.mk (Kd.V_lower (Kd.V_mono (ok' := fun k_ => k_ ≠ gb536) ho0 (fun k_ hk_ => Or.elim hk_ (fun hs_ => fun e_ => Nat.not_le.2 hs_ (by rw [e_]; exact GW536.out)) (fun hn_ => (Kd.freshB (g := gb536) (o := .cells #[.slice A0_0 l0_0.length c0_0, .int .i64 a0_1, .int .i64 a0_2, .int .i64 a0_3] 69 (0, 0)) (by (with_reducible repeat (first | refine blk_drewN ?_ _ | refine blk_drew ?_ | refine blk_alloc ?_ _)); exact BK536.out) k_ hn_)))) (below_size (by repeat (first | (with_reducible first | exact HB.out | apply below_alloc | apply pw_below_drewN | apply below_drew1 | refine below_set ?_ GE536.out) | exact HB.out))))
                  have n1_ := Aside0.mk (blk_below (g := gb536) (o := .cells #[.slice A0_0 l0_0.length c0_0, .int .i64 a0_1, .int .i64 a0_2, .int .i64 a0_3] 69 (0, 0)) (by (with_reducible repeat (first | refine blk_drewN ?_ _ | refine blk_drew ?_ | refine blk_alloc ?_ _)); exact BK536.out) hb)
                  have n2_ := Aside0.mk (below_step (by repeat (first | (with_reducible first | exact HB.out | apply below_alloc | apply pw_below_drewN | apply below_drew1 | refine below_set ?_ GE536.out) | exact HB.out)) hb)
                  clear BK536
                  clear HB
                  have HO539 := n0_
                  have BK536 := n1_
                  have HB := n2_
                  clear n0_ n1_ n2_
                  (try clear hb)
                  (try clear hb2)
                  (try clear hk)
                  (try clear hi)
                  (try clear ho0)
                  refine hK.out _ _ ⟨(blk_cell BK536.out 0).trans rfl, (blk_cell BK536.out 1).trans rfl, (blk_cell BK536.out 2).trans rfl, (blk_cell BK536.out 3).trans rfl⟩ (fun hHeld => ?_)
                  clear hK K
                  refine norm_ (a' := ?_) ?_ ?_
                  rotate_left
                  · show Act.put _ (some 16) _ = _
                    simp only [Act.put, List.setIfInBounds_toArray, List.set_cons_zero, List.set_cons_succ, i64_w, i32_w]
                    rfl
                  refine pure_ (i := 9) (N := some 3) (v := ?_) (a' := ?_) #[true, true, true, true, true, true, true, true, true, true, false, false, false] rfl rfl (any_of HT_.out (by kernel_rfl)) (fun _ _ _ h => h) (Or.inl ⟨by rfl, ?_⟩) ?_ ?_
                  rotate_left
                  · intro w'
                    go_simp
                    with_reducible rfl
                  rotate_left
                  · simp only [Act.put, List.setIfInBounds_toArray, List.set_cons_zero, List.set_cons_succ, i64_w, i32_w]
                    rfl
                  refine pure_ (i := 10) (N := some 4) (v := ?_) (a' := ?_) #[true, true, true, true, true, true, true, true, true, true, true, false, false] rfl rfl (any_of HT_.out (by kernel_rfl)) (fun _ _ _ h => h) (Or.inl ⟨by rfl, ?_⟩) ?_ ?_
                  rotate_left
                  · intro w'
                    go_simp
                    with_reducible rfl
                  rotate_left
                  · simp only [Act.put, List.setIfInBounds_toArray, List.set_cons_zero, List.set_cons_succ, i64_w, i32_w]
                    rfl
                  refine pure_ (i := 11) (N := some 5) (v := ?_) (a' := ?_) #[true, true, true, true, true, true, true, true, true, true, true, true, false] rfl rfl (any_of HT_.out (by kernel_rfl)) (fun _ _ _ h => h) (Or.inl ⟨by rfl, ?_⟩) ?_ ?_
                  rotate_left
                  · intro w'
                    go_simp
                    with_reducible rfl
                  rotate_left
                  · simp only [Act.put, List.setIfInBounds_toArray, List.set_cons_zero, List.set_cons_succ, i64_w, i32_w]
                    rfl
                  refine pure_ (i := 12) (N := some 6) (v := ?_) (a' := ?_) #[true, true, true, true, true, true, true, true, true, true, true, true, true] rfl rfl (any_of HT_.out (by kernel_rfl)) (fun _ _ _ h => h) (Or.inl ⟨by rfl, ?_⟩) ?_ ?_
                  rotate_left
                  · intro w'
                    go_simp
                    with_reducible rfl
                  rotate_left
                  · simp only [Act.put, List.setIfInBounds_toArray, List.set_cons_zero, List.set_cons_succ, i64_w, i32_w]
                    rfl
                  refine done_ (done_of HT_.out (by kernel_rfl)) ?_
                  obtain ⟨Ao88, co88, eo88⟩ := Kd.V_slice HO539.out
                  subst eo88
                  try go_wp2_with (first | ((with_reducible refine gate_callee (f := 36) rfl ?_); refine goesL_ (some 26) rfl rfl Try.func36 (by kernel_rfl) rfl #[.slice Ao88 t537.length co88, .int .i64 a0_1] rfl (by (try simp only [List.map_toArray, List.map_cons, List.map_nil]); first | done | rfl | (simp only [List.length_drop, List.length_take]; rfl)) ?_; (with_reducible refine (timer_Due.calls _ _ t537 a0_1 t540 t541 t542 _ ?side1 ?side2 A3.out).mono ?_); (case side1 => repeat (first | exact (Kd.V_reads' HO539.out).2.2 | (with_reducible refine Kd.C_alloc ?_ _) | (with_reducible refine Kd.C_drewN ?_ _) | (with_reducible refine Kd.C_drew ?_))); (case side2 => exact (Kd.V_reads' HO539.out).2.1); rintro e w89 ⟨v543, v545, rfl, ho0, ho1, hb⟩; refine ⟨_, rfl, ?_⟩; have n0_ := Aside0.mk (Kd.V_mono (Kd.V_told (Kd.V_told (Kd.V_old (by (with_reducible repeat (first | apply Kd.V_alloc | apply Kd.V_drewN | apply Kd.V_drew)); exact HO539.out) hb) (Kd.R_base ho0)) (Kd.R_base ho1)) (fun _ h_ => h_.1)); have n1_ := Aside0.mk (Kd.R_lower ho0 (below_size (by repeat (first | (with_reducible first | exact HB.out | apply below_alloc | apply pw_below_drewN | apply below_drew1 | refine below_set ?_ GE536.out) | exact HB.out)))); have n2_ := Aside0.mk (Kd.R_lower ho1 (below_size (by repeat (first | (with_reducible first | exact HB.out | apply below_alloc | apply pw_below_drewN | apply below_drew1 | refine below_set ?_ GE536.out) | exact HB.out)))); have n3_ := Aside0.mk (blk_below (g := gb536) (o := .cells #[.slice A0_0 l0_0.length c0_0, .int .i64 a0_1, .int .i64 a0_2, .int .i64 a0_3] 69 (0, 0)) (by (with_reducible repeat (first | refine blk_drewN ?_ _ | refine blk_drew ?_ | refine blk_alloc ?_ _)); exact BK536.out) hb); have n4_ := Aside0.mk (below_step (by repeat (first | (with_reducible first | exact HB.out | apply below_alloc | apply pw_below_drewN | apply below_drew1 | refine below_set ?_ GE536.out) | exact HB.out)) hb); clear HO539; clear BK536; clear HB; have HO539 := n0_; have HO544 := n1_; have HO546 := n2_; have BK536 := n3_; have HB := n4_; clear n0_ n1_ n2_ n3_ n4_; (try clear hb); (try clear hb2); (try clear hk); (try clear hi); (try clear ho0); (try clear ho1)) | ((with_reducible refine gate_callee (f := 38) rfl ?_); refine goesL_ (some 34) rfl rfl Try.func38 (by kernel_rfl) rfl #[.slice Ao88 t537.length co88, .int .i64 a0_2, .int .i64 a0_3] rfl (by (try simp only [List.map_toArray, List.map_cons, List.map_nil]); first | done | rfl | (simp only [List.length_drop, List.length_take]; rfl)) ?_; (with_reducible refine (timer_Drop.calls _ _ t537 a0_2 a0_3 t547 t548 _ ?side1 ?side2 A4.out).mono ?_); (case side1 => repeat (first | exact (Kd.V_reads' HO539.out).2.2 | (with_reducible refine Kd.C_alloc ?_ _) | (with_reducible refine Kd.C_drewN ?_ _) | (with_reducible refine Kd.C_drew ?_))); (case side2 => exact (Kd.V_reads' HO539.out).2.1); rintro e w90 ⟨v549, rfl, ho0, hb⟩; refine ⟨_, rfl, ?_⟩; have n0_ := Aside0.mk (Kd.V_elder' (by (with_reducible repeat (first | apply Kd.V_alloc | apply Kd.V_drewN | apply Kd.V_drew)); exact HO539.out) (Kd.R_base ho0) hb); have n1_ := Aside0.mk (Kd.R_elder' (by (with_reducible repeat (first | apply Kd.R_alloc | apply Kd.R_drewN | apply Kd.R_drew)); exact HO544.out) (Kd.R_base ho0) hb); have n2_ := Aside0.mk (Kd.R_elder' (by (with_reducible repeat (first | apply Kd.R_alloc | apply Kd.R_drewN | apply Kd.R_drew)); exact HO546.out) (Kd.R_base ho0) hb); have n3_ := Aside0.mk (Kd.R_lower (Kd.R_new' (Kd.R_new' ho0 (Kd.R_lt (by (with_reducible repeat (first | apply Kd.R_alloc | apply Kd.R_drewN | apply Kd.R_drew)); exact HO544.out))) (Kd.R_lt (by (with_reducible repeat (first | apply Kd.R_alloc | apply Kd.R_drewN | apply Kd.R_drew)); exact HO546.out))) (below_size (by repeat (first | (with_reducible first | exact HB.out | apply below_alloc | apply pw_below_drewN | apply below_drew1 | refine below_set ?_ GE536.out) | exact HB.out)))); have n4_ := Aside0.mk (blk_below (g := gb536) (o := .cells #[.slice A0_0 l0_0.length c0_0, .int .i64 a0_1, .int .i64 a0_2, .int .i64 a0_3] 69 (0, 0)) (by (with_reducible repeat (first | refine blk_drewN ?_ _ | refine blk_drew ?_ | refine blk_alloc ?_ _)); exact BK536.out) hb); have n5_ := Aside0.mk (below_step (by repeat (first | (with_reducible first | exact HB.out | apply below_alloc | apply pw_below_drewN | apply below_drew1 | refine below_set ?_ GE536.out) | exact HB.out)) hb); clear HO539; clear HO544; clear HO546; clear BK536; clear HB; have HO539 := n0_; have HO544 := n1_; have HO546 := n2_; have HO550 := n3_; have BK536 := n4_; have HB := n5_; clear n0_ n1_ n2_ n3_ n4_ n5_; (try clear hb); (try clear hb2); (try clear hk); (try clear hi); (try clear ho0)) | ((with_reducible refine gate_callee (f := 37) rfl ?_); refine goesL_ (some 39) rfl rfl Try.func37 (by kernel_rfl) rfl #[.slice Ao88 t537.length co88] rfl (by (try simp only [List.map_toArray, List.map_cons, List.map_nil]); first | done | rfl | (simp only [List.length_drop, List.length_take]; rfl)) ?_; (with_reducible refine (timer_Next.calls _ _ t537 t551 t552 t553 t554 t555 _ ?side1 ?side2 A5.out).mono ?_); (case side1 => repeat (first | exact (Kd.V_reads' HO539.out).2.2 | (with_reducible refine Kd.C_alloc ?_ _) | (with_reducible refine Kd.C_drewN ?_ _) | (with_reducible refine Kd.C_drew ?_))); (case side2 => exact (Kd.V_reads' HO539.out).2.1); rintro e w91 ⟨rfl, hb⟩; refine ⟨_, rfl, ?_⟩; have n0_ := Aside0.mk (Kd.V_below (by (with_reducible repeat (first | apply Kd.V_alloc | apply Kd.V_drewN | apply Kd.V_drew)); exact HO539.out) hb); have n1_ := Aside0.mk (Kd.R_below (by (with_reducible repeat (first | apply Kd.R_alloc | apply Kd.R_drewN | apply Kd.R_drew)); exact HO544.out) hb); have n2_ := Aside0.mk (Kd.R_below (by (with_reducible repeat (first | apply Kd.R_alloc | apply Kd.R_drewN | apply Kd.R_drew)); exact HO546.out) hb); have n3_ := Aside0.mk (Kd.R_below (by (with_reducible repeat (first | apply Kd.R_alloc | apply Kd.R_drewN | apply Kd.R_drew)); exact HO550.out) hb); have n4_ := Aside0.mk (blk_below (g := gb536) (o := .cells #[.slice A0_0 l0_0.length c0_0, .int .i64 a0_1, .int .i64 a0_2, .int .i64 a0_3] 69 (0, 0)) (by (with_reducible repeat (first | refine blk_drewN ?_ _ | refine blk_drew ?_ | refine blk_alloc ?_ _)); exact BK536.out) hb); have n5_ := Aside0.mk (below_step (by repeat (first | (with_reducible first | exact HB.out | apply below_alloc | apply pw_below_drewN | apply below_drew1 | refine below_set ?_ GE536.out) | exact HB.out)) hb); clear HO539; clear HO544; clear HO546; clear HO550; clear BK536; clear HB; have HO539 := n0_; have HO544 := n1_; have HO546 := n2_; have HO550 := n3_; have BK536 := n4_; have HB := n5_; clear n0_ n1_ n2_ n3_ n4_ n5_; (try clear hb); (try clear hb2); (try clear hk); (try clear hi)) | ((with_reducible refine gate_dst (N := 12) rfl ?_); (try (refine gate_guard (by rfl) ?_; dsimp only)); refine box_event ?hg (N := 12) ?hd (cs := #[.int .i64 0, .int .i64 0, .int .i64 0, .int .u64 0]) (t := 52) ?hr ?_; (case hd => rfl); (case hg => rfl); (case hr => first | (go_simp; done) | (go_simp; rfl)); intro gb556 hg w92 hbox hb; have n0_ := Aside0.mk (Kd.V_below (Kd.V_elderB (by (with_reducible repeat (first | apply Kd.V_alloc | apply Kd.V_drewN | apply Kd.V_drew)); exact HO539.out) gb556 (Nat.le_of_eq hg.symm)) hb); have n1_ := Aside0.mk (Kd.R_below (Kd.R_elderB (by (with_reducible repeat (first | apply Kd.R_alloc | apply Kd.R_drewN | apply Kd.R_drew)); exact HO544.out) gb556 (Nat.le_of_eq hg.symm)) hb); have n2_ := Aside0.mk (Kd.R_below (Kd.R_elderB (by (with_reducible repeat (first | apply Kd.R_alloc | apply Kd.R_drewN | apply Kd.R_drew)); exact HO546.out) gb556 (Nat.le_of_eq hg.symm)) hb); have n3_ := Aside0.mk (Kd.R_below (Kd.R_elderB (by (with_reducible repeat (first | apply Kd.R_alloc | apply Kd.R_drewN | apply Kd.R_drew)); exact HO550.out) gb556 (Nat.le_of_eq hg.symm)) hb); have n4_ := Aside0.mk (blk_below (g := gb536) (o := .cells #[.slice A0_0 l0_0.length c0_0, .int .i64 a0_1, .int .i64 a0_2, .int .i64 a0_3] 69 (0, 0)) (by (with_reducible repeat (first | refine blk_drewN ?_ _ | refine blk_drew ?_ | refine blk_alloc ?_ _)); exact BK536.out) hb); have n5_ := Aside0.mk (below_step (by repeat (first | (with_reducible first | exact HB.out | apply below_alloc | apply pw_below_drewN | apply below_drew1 | refine below_set ?_ GE536.out) | exact HB.out)) hb); have n6_ := Aside0.mk (hbox); have n7_ := Aside0.mk ((by rw [hg]; exact (below_size (by repeat (first | (with_reducible first | exact HB.out | apply below_alloc | apply pw_below_drewN | apply below_drew1 | refine below_set ?_ GE536.out) | exact HB.out))) : w.heap.size ≤ gb556)); have n8_ := Aside0.mk ((by rw [hg]; exact (below_size (by repeat (first | (with_reducible first | exact HB.out | apply below_alloc | apply pw_below_drewN | apply below_drew1 | refine below_set ?_ GE536.out) | exact HB.out))) : w.heap.size ≤ gb556)); have n9_ := Aside0.mk ((by rw [hg]; exact Nat.ne_of_lt (blk_lt (g := gb536) (o := .cells #[.slice A0_0 l0_0.length c0_0, .int .i64 a0_1, .int .i64 a0_2, .int .i64 a0_3] 69 (0, 0)) (by (with_reducible repeat (first | refine blk_drewN ?_ _ | refine blk_drew ?_ | refine blk_alloc ?_ _)); exact BK536.out)) : gb536 ≠ gb556)); have n10_ := Aside0.mk ((by rw [hg]; exact Nat.ne_of_gt (blk_lt (g := gb536) (o := .cells #[.slice A0_0 l0_0.length c0_0, .int .i64 a0_1, .int .i64 a0_2, .int .i64 a0_3] 69 (0, 0)) (by (with_reducible repeat (first | refine blk_drewN ?_ _ | refine blk_drew ?_ | refine blk_alloc ?_ _)); exact BK536.out)) : gb556 ≠ gb536)); clear HO539; clear HO544; clear HO546; clear HO550; clear BK536; clear HB; have HO539 := n0_; have HO544 := n1_; have HO546 := n2_; have HO550 := n3_; have BK536 := n4_; have HB := n5_; have BK556 := n6_; have GW556 := n7_; have GE556 := n8_; have NB536_556 := n9_; have NB556_536 := n10_; clear n0_ n1_ n2_ n3_ n4_ n5_ n6_ n7_ n8_ n9_ n10_; clear hb hbox hg; have hnb93 := NB556_536.out; have hnc93 := NB536_556.out; have hcz94_0 : w92.cell? ⟨gb556, 0, none⟩ = some (.int .i64 0) := (blk_cell BK556.out 0).trans rfl; have hcz94_1 : w92.cell? ⟨gb556, 1, none⟩ = some (.int .i64 0) := (blk_cell BK556.out 1).trans rfl; have hcz94_2 : w92.cell? ⟨gb556, 2, none⟩ = some (.int .i64 0) := (blk_cell BK556.out 2).trans rfl; have hcz94_3 : w92.cell? ⟨gb556, 3, none⟩ = some (.int .u64 0) := (blk_cell BK556.out 3).trans rfl; have hfz94_0 := blk_frozen BK556.out 0; have hfz94_1 := blk_frozen BK556.out 1; have hfz94_2 := blk_frozen BK556.out 2; have hfz94_3 := blk_frozen BK556.out 3) | ((with_reducible refine gate_callee (f := 33) rfl ?_); refine goesL_ (some 43) rfl rfl Try.func33 (by kernel_rfl) rfl #[.slice Ao88 t537.length co88] rfl (by (try simp only [List.map_toArray, List.map_cons, List.map_nil]); first | done | rfl | (simp only [List.length_drop, List.length_take]; rfl)) ?_; (with_reducible refine (tattleref03_May.calls k _ _ t537 false _ ?side1 ?side2 A6.out).mono ?_); (case side1 => refine (Kd.V_reads' (e := 52) (base := w.heap.size) (ok := fun k_ => ((((k_ ≠ gb536 ∧ some k_ ≠ (v543 : Value).ownBlock) ∧ some k_ ≠ (v545 : Value).ownBlock) ∧ some k_ ≠ (v549 : Value).ownBlock) ∧ k_ ≠ gb556)) (n := t537.length) (c := co88) ?_).2.2; exact (by (with_reducible repeat (first | apply Kd.V_alloc | apply Kd.V_drewN | apply Kd.V_drew)); exact (Kd.V_mono (Kd.V_far (p := ⟨gb556, 3, none⟩) (Kd.V_far (p := ⟨gb556, 2, none⟩) (Kd.V_far (p := ⟨gb556, 1, none⟩) (Kd.V_far (p := ⟨gb556, 0, none⟩) (Kd.V_mono HO539.out (fun k_ hk => (⟨hk, hk.2⟩ : _ ∧ k_ ≠ gb556))) (fun _ hk => hk.2) (.int .i64 t551)) (fun _ hk => hk.2) (.int .i64 t552)) (fun _ hk => hk.2) (.int .i64 t553)) (fun _ hk => hk.2) (.int .u64 t554)) (fun _ h_ => h_.1)))); (case side2 => exact (Kd.V_reads' HO539.out).2.1); rintro e w95 ⟨rfl, hb⟩; refine ⟨_, rfl, ?_⟩; have n0_ := Aside0.mk (Kd.V_below (by (with_reducible repeat (first | apply Kd.V_alloc | apply Kd.V_drewN | apply Kd.V_drew)); exact (Kd.V_mono (Kd.V_far (p := ⟨gb556, 3, none⟩) (Kd.V_far (p := ⟨gb556, 2, none⟩) (Kd.V_far (p := ⟨gb556, 1, none⟩) (Kd.V_far (p := ⟨gb556, 0, none⟩) (Kd.V_mono HO539.out (fun k_ hk => (⟨hk, hk.2⟩ : _ ∧ k_ ≠ gb556))) (fun _ hk => hk.2) (.int .i64 t551)) (fun _ hk => hk.2) (.int .i64 t552)) (fun _ hk => hk.2) (.int .i64 t553)) (fun _ hk => hk.2) (.int .u64 t554)) (fun _ h_ => h_.1))) hb); have n1_ := Aside0.mk (Kd.R_below (by (with_reducible repeat (first | apply Kd.R_alloc | apply Kd.R_drewN | apply Kd.R_drew)); exact (Kd.R_mono (Kd.R_far (p := ⟨gb556, 3, none⟩) (Kd.R_far (p := ⟨gb556, 2, none⟩) (Kd.R_far (p := ⟨gb556, 1, none⟩) (Kd.R_far (p := ⟨gb556, 0, none⟩) (Kd.R_mono HO544.out (fun k_ hk => (⟨hk, hk.2⟩ : _ ∧ k_ ≠ gb556))) (fun _ hk => hk.2) (.int .i64 t551)) (fun _ hk => hk.2) (.int .i64 t552)) (fun _ hk => hk.2) (.int .i64 t553)) (fun _ hk => hk.2) (.int .u64 t554)) (fun _ h_ => h_.1))) hb); have n2_ := Aside0.mk (Kd.R_below (by (with_reducible repeat (first | apply Kd.R_alloc | apply Kd.R_drewN | apply Kd.R_drew)); exact (Kd.R_mono (Kd.R_far (p := ⟨gb556, 3, none⟩) (Kd.R_far (p := ⟨gb556, 2, none⟩) (Kd.R_far (p := ⟨gb556, 1, none⟩) (Kd.R_far (p := ⟨gb556, 0, none⟩) (Kd.R_mono HO546.out (fun k_ hk => (⟨hk, hk.2⟩ : _ ∧ k_ ≠ gb556))) (fun _ hk => hk.2) (.int .i64 t551)) (fun _ hk => hk.2) (.int .i64 t552)) (fun _ hk => hk.2) (.int .i64 t553)) (fun _ hk => hk.2) (.int .u64 t554)) (fun _ h_ => h_.1))) hb); have n3_ := Aside0.mk (Kd.R_below (by (with_reducible repeat (first | apply Kd.R_alloc | apply Kd.R_drewN | apply Kd.R_drew)); exact (Kd.R_mono (Kd.R_far (p := ⟨gb556, 3, none⟩) (Kd.R_far (p := ⟨gb556, 2, none⟩) (Kd.R_far (p := ⟨gb556, 1, none⟩) (Kd.R_far (p := ⟨gb556, 0, none⟩) (Kd.R_mono HO550.out (fun k_ hk => (⟨hk, hk.2⟩ : _ ∧ k_ ≠ gb556))) (fun _ hk => hk.2) (.int .i64 t551)) (fun _ hk => hk.2) (.int .i64 t552)) (fun _ hk => hk.2) (.int .i64 t553)) (fun _ hk => hk.2) (.int .u64 t554)) (fun _ h_ => h_.1))) hb); have n4_ := Aside0.mk (blk_below (g := gb536) (o := .cells #[.slice A0_0 l0_0.length c0_0, .int .i64 a0_1, .int .i64 a0_2, .int .i64 a0_3] 69 (0, 0)) (by (with_reducible repeat (first | refine blk_drewN ?_ _ | refine blk_drew ?_ | refine blk_alloc ?_ _)); refine blk_far ?_ NB536_556.out _; (with_reducible repeat (first | refine blk_drewN ?_ _ | refine blk_drew ?_ | refine blk_alloc ?_ _)); refine blk_far ?_ NB536_556.out _; (with_reducible repeat (first | refine blk_drewN ?_ _ | refine blk_drew ?_ | refine blk_alloc ?_ _)); refine blk_far ?_ NB536_556.out _; (with_reducible repeat (first | refine blk_drewN ?_ _ | refine blk_drew ?_ | refine blk_alloc ?_ _)); refine blk_far ?_ NB536_556.out _; (with_reducible repeat (first | refine blk_drewN ?_ _ | refine blk_drew ?_ | refine blk_alloc ?_ _)); exact BK536.out) hb); have n5_ := Aside0.mk (blk_below (g := gb556) (o := .cells #[.int .i64 t551, .int .i64 t552, .int .i64 t553, .int .u64 t554] 52 (0, 0)) (by (with_reducible repeat (first | refine blk_drewN ?_ _ | refine blk_drew ?_ | refine blk_alloc ?_ _)); refine blk_put (cs := #[.int .i64 t551, .int .i64 t552, .int .i64 t553, .int .u64 0]) ?_ 3 _ rfl; (with_reducible repeat (first | refine blk_drewN ?_ _ | refine blk_drew ?_ | refine blk_alloc ?_ _)); refine blk_put (cs := #[.int .i64 t551, .int .i64 t552, .int .i64 0, .int .u64 0]) ?_ 2 _ rfl; (with_reducible repeat (first | refine blk_drewN ?_ _ | refine blk_drew ?_ | refine blk_alloc ?_ _)); refine blk_put (cs := #[.int .i64 t551, .int .i64 0, .int .i64 0, .int .u64 0]) ?_ 1 _ rfl; (with_reducible repeat (first | refine blk_drewN ?_ _ | refine blk_drew ?_ | refine blk_alloc ?_ _)); refine blk_put (cs := #[.int .i64 0, .int .i64 0, .int .i64 0, .int .u64 0]) ?_ 0 _ rfl; (with_reducible repeat (first | refine blk_drewN ?_ _ | refine blk_drew ?_ | refine blk_alloc ?_ _)); exact BK556.out) hb); have n6_ := Aside0.mk (below_step (by repeat (first | (with_reducible first | exact HB.out | apply below_alloc | apply pw_below_drewN | apply below_drew1 | refine below_set ?_ GE536.out | refine below_set ?_ GE556.out) | exact HB.out)) hb); clear HO539; clear HO544; clear HO546; clear HO550; clear BK536; clear BK556; clear HB; have HO539 := n0_; have HO544 := n1_; have HO546 := n2_; have HO550 := n3_; have BK536 := n4_; have BK556 := n5_; have HB := n6_; clear n0_ n1_ n2_ n3_ n4_ n5_ n6_; (try clear hb); (try clear hb2); (try clear hk); (try clear hi); obtain ⟨Ao96, co96, eo96⟩ := Kd.R_slice HO544.out; subst eo96; obtain ⟨Ao97, co97, eo97⟩ := Kd.R_slice HO546.out; subst eo97; obtain ⟨Ao98, co98, eo98⟩ := Kd.R_slice HO550.out; subst eo98; have hcz99_0 : w95.cell? ⟨gb556, 0, none⟩ = some (.int .i64 t551) := (blk_cell BK556.out 0).trans rfl; have hcz99_1 : w95.cell? ⟨gb556, 1, none⟩ = some (.int .i64 t552) := (blk_cell BK556.out 1).trans rfl; have hcz99_2 : w95.cell? ⟨gb556, 2, none⟩ = some (.int .i64 t553) := (blk_cell BK556.out 2).trans rfl; have hcz99_3 : w95.cell? ⟨gb556, 3, none⟩ = some (.int .u64 t554) := (blk_cell BK556.out 3).trans rfl; have hfz99_0 := blk_frozen BK556.out 0; have hfz99_1 := blk_frozen BK556.out 1; have hfz99_2 := blk_frozen BK556.out 2; have hfz99_3 := blk_frozen BK556.out 3) | (go_at_call 29; (with_reducible refine (tattlelaw03_awakeT.calls  t558 _ A84.out).mono ?_); rintro e w100 ⟨rfl, hb⟩; have n0_ := Aside0.mk (Kd.R_below (by (with_reducible repeat (first | apply Kd.R_alloc | apply Kd.R_drewN | apply Kd.R_drew)); exact HO544.out) hb); have n1_ := Aside0.mk (Kd.R_below (by (with_reducible repeat (first | apply Kd.R_alloc | apply Kd.R_drewN | apply Kd.R_drew)); exact HO546.out) hb); have n2_ := Aside0.mk (Kd.R_below (by (with_reducible repeat (first | apply Kd.R_alloc | apply Kd.R_drewN | apply Kd.R_drew)); exact HO550.out) hb); have n3_ := Aside0.mk (blk_below (g := gb536) (o := .cells #[.slice A0_0 l0_0.length c0_0, .int .i64 a0_1, .int .i64 a0_2, .int .i64 a0_3] 69 (0, 0)) (by (with_reducible repeat (first | refine blk_drewN ?_ _ | refine blk_drew ?_ | refine blk_alloc ?_ _)); exact BK536.out) hb); have n4_ := Aside0.mk (blk_below (g := gb556) (o := .cells #[.int .i64 t551, .int .i64 t552, .int .i64 t553, .int .u64 t554] 52 (0, 0)) (by (with_reducible repeat (first | refine blk_drewN ?_ _ | refine blk_drew ?_ | refine blk_alloc ?_ _)); exact BK556.out) hb); have n5_ := Aside0.mk (below_step (by repeat (first | (with_reducible first | exact HB.out | apply below_alloc | apply pw_below_drewN | apply below_drew1 | refine below_set ?_ GE536.out | refine below_set ?_ GE556.out) | exact HB.out)) hb); clear HO544; clear HO546; clear HO550; clear BK536; clear BK556; clear HB; have HO544 := n0_; have HO546 := n1_; have HO550 := n2_; have BK536 := n3_; have BK556 := n4_; have HB := n5_; clear n0_ n1_ n2_ n3_ n4_ n5_; (try clear hb); (try clear hb2); (try clear hk); (try clear hi)))
                  go_ret
                  exact ⟨by first | rfl | (simp [errW_none, errW_some] <;> rfl) | (simp [*, errW_none, errW_some] <;> rfl), by repeat (first | (with_reducible first | exact HB.out | apply below_alloc | apply pw_below_drewN | apply below_drew1 | refine below_set ?_ GE536.out | refine below_set ?_ GE556.out) | exact HB.out)⟩
                · rw [if_neg c83] at H
                  have c83b0 : (t555 == 1) = false := beq_eq_false_iff_ne.mpr c83
                  have c83b1 : (t555 != 1) = true := bne_iff_ne.mpr c83
                  exact absurd ((Option.some.inj H).trans hrt.out) (by decide)
              · rw [if_neg c82] at H
                have c82b0 : (t551 == 0 && (t552 == 0 && (t553 == 0 && (t554 == 0)))) = false := by simpa using c82
                (try (have c82b1 : decide (t551 = 0 && (t552 == 0 && (t553 == 0 && (t554 == 0)))) = false := by simpa using c82))
                (try (have c82b2 : (t551 == 0 && (t552 == 0 && (t553 == 0 && (t554 == 0)))) = false := by simpa using c82))
                (try (have c82b3 : ¬ (t551 = 0 && (t552 == 0 && (t553 == 0 && (t554 == 0)))) := by simpa using c82))
                clear c82
                exact absurd ((Option.some.inj H).trans hrt.out) (by decide)
            · rw [if_neg c81] at H
              have c81b0 : (t548 == 1) = false := beq_eq_false_iff_ne.mpr c81
              have c81b1 : (t548 != 1) = true := bne_iff_ne.mpr c81
              exact absurd ((Option.some.inj H).trans hrt.out) (by decide)
          · rw [if_neg c80] at H
            have c80b0 : ((t547.length : Int) == 0) = false := beq_eq_false_iff_ne.mpr c80
            have c80b1 : ((t547.length : Int) != 0) = true := bne_iff_ne.mpr c80
            have c80b2 : ¬ (t547 = []) := fun h_ => c80 (by rw [h_]; rfl)
            exact absurd ((Option.some.inj H).trans hrt.out) (by decide)
        · rw [if_neg c79] at H
          have c79b0 : (t542 == 1) = false := beq_eq_false_iff_ne.mpr c79
          have c79b1 : (t542 != 1) = true := bne_iff_ne.mpr c79
          exact absurd ((Option.some.inj H).trans hrt.out) (by decide)
      · rw [if_neg c78] at H
        have c78b0 : ((t541.length : Int) == 0) = false := beq_eq_false_iff_ne.mpr c78
        have c78b1 : ((t541.length : Int) != 0) = true := bne_iff_ne.mpr c78
        have c78b2 : ¬ (t541 = []) := fun h_ => c78 (by rw [h_]; rfl)
        exact absurd ((Option.some.inj H).trans hrt.out) (by decide)
    · rw [if_neg c77] at H
      have c77b0 : ((t540.length : Int) == 0) = false := beq_eq_false_iff_ne.mpr c77
      have c77b1 : ((t540.length : Int) != 0) = true := bne_iff_ne.mpr c77
      have c77b2 : ¬ (t540 = []) := fun h_ => c77 (by rw [h_]; rfl)
      exact absurd ((Option.some.inj H).trans hrt.out) (by decide)

end Go.Proofs.Ytahppppkepcbkaa.Fn
