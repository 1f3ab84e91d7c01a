-- Written by program (a turned copy of the kit's print) for this seat: functions, contracts. Lean checks it.
import Derived.Test.YtahppppkepcbkaaFnx0
import Derived.Test.YtahppppkepcbkaaFnx1
import Derived.Test.YtahppppkepcbkaaFnx22
import Derived.Test.YtahppppkepcbkaaFnx23
import Derived.Test.YtahppppkepcbkaaAw29
import Derived.Test.YtahppppkepcbkaaExAdd
namespace Go.Proofs.Ytahppppkepcbkaa.Fn
open Go.RowKit Go.Proofs.YtahppppkepcbkaaW.PrintWords Go.Proofs.YtahppppkepcbkaaW.PrintLast Go.Proofs.YtahppppkepcbkaaW.PrintMore
attribute [local go_sem] max2_int min2_int max_two min_two max_three min_three max_four min_four   -- for this text's walks alone
set_option linter.unusedVariables false
set_option linter.unusedSimpArgs false

attribute [local go_sem high] eqA52
/-! ### tattlelaw03_TimerOrders: function 9 -/
mutual
def tattlelaw03_TimerOrders.j0 : Nat → Bool → Bool → List (S52) → Bool → Int → Int → Int → Int → Int → Int → Int → Int → Int → Int → Int → Int → Option (Bool)
  | 0, _, _, _, _, _, _, _, _, _, _, _, _, _, _, _, _ => none
  | k + 1, x7, x8, x9, x51, x380000, x380001, x380002, x380003, x381000, x381001, x381002, x381003, x382000, x382001, x382002, x382003 => if x51 = true then (some false) else (if x7 = true then (if x8 = true then (tattlelaw03_TimerOrders.j1 k x9 true) else (if (x380000 == x381000 && (x380001 == x381001 && (x380002 == x381002 && (x380003 == x381003)))) = true then (tattlelaw03_TimerOrders.j1 k x9 true) else ((timer_Less.f k x381000 x381001 x381002 x381003 x382000 x382001 x382002 x382003).bind fun t399 => (if t399 = true then ((timer_Less.f k x380000 x380001 x380002 x380003 x382000 x382001 x382002 x382003).bind fun t400 => (tattlelaw03_TimerOrders.j1 k x9 (!t400))) else (tattlelaw03_TimerOrders.j1 k x9 false))))) else (if x8 = true then (if (x380000 == x381000 && (x380001 == x381001 && (x380002 == x381002 && (x380003 == x381003)))) = true then (tattlelaw03_TimerOrders.j1 k x9 true) else (tattlelaw03_TimerOrders.j1 k x9 false)) else (if (!(x380000 == x381000) || (!(x380001 == x381001) || (!(x380002 == x381002) || (!(x380003 == x381003))))) = true then (tattlelaw03_TimerOrders.j1 k x9 true) else (tattlelaw03_TimerOrders.j1 k x9 false))))
def tattlelaw03_TimerOrders.j1 : Nat → List (S52) → Bool → Option (Bool)
  | 0, _, _ => none
  | k + 1, x9, x81 => if x81 = true then (some false) else (if 1 < (x9.length : Int) then (if 0 < (x9.length : Int) then ((timer_Less.f k ((rd_T52 x9 1).f0) ((rd_T52 x9 1).f1) ((rd_T52 x9 1).f2) ((rd_T52 x9 1).f3) ((rd_T52 x9 0).f0) ((rd_T52 x9 0).f1) ((rd_T52 x9 0).f2) ((rd_T52 x9 0).f3)).bind fun t403 => (if t403 = true then (some false) else (if 2 < (x9.length : Int) then ((timer_Less.f k ((rd_T52 x9 2).f0) ((rd_T52 x9 2).f1) ((rd_T52 x9 2).f2) ((rd_T52 x9 2).f3) ((rd_T52 x9 1).f0) ((rd_T52 x9 1).f1) ((rd_T52 x9 1).f2) ((rd_T52 x9 1).f3)).bind fun t406 => (if t406 = true then (some false) else ((tattlelaw03_awakeT.f).bind fun t407 => (some t407)))) else (none)))) else (none)) else (none))
end
def tattlelaw03_TimerOrders.f (k : Nat) (a0_0 : Int) (a0_1 : Int) (a0_2 : Int) (a0_3 : Int) (a1_0 : Int) (a1_1 : Int) (a1_2 : Int) (a1_3 : Int) (a2_0 : Int) (a2_1 : Int) (a2_2 : Int) (a2_3 : Int) : Option (Bool) := (timer_Less.f k a0_0 a0_1 a0_2 a0_3 a1_0 a1_1 a1_2 a1_3).bind fun t382 => ((timer_Less.f k a1_0 a1_1 a1_2 a1_3 a0_0 a0_1 a0_2 a0_3).bind fun t383 => ((timer_Add.f ([] : List (S52)) (([(⟨a0_0, a0_1, a0_2, a0_3⟩ : S52), (⟨a1_0, a1_1, a1_2, a1_3⟩ : S52), (⟨a2_0, a2_1, a2_2, a2_3⟩ : S52)] : List (S52)))).bind fun bt387 => ((timer_Add.f ([] : List (S52)) (([(⟨a2_0, a2_1, a2_2, a2_3⟩ : S52), (⟨a1_0, a1_1, a1_2, a1_3⟩ : S52), (⟨a0_0, a0_1, a0_2, a0_3⟩ : S52)] : List (S52)))).bind fun bt394 => (if bt387.2 = 0 then (if bt394.2 = 0 then ((tattleref03_Same.f k bt387.1 bt394.1).bind fun t398 => (if t398 = true then (tattlelaw03_TimerOrders.j0 k t382 t383 bt387.1 ((bt387.1.length : Int) != 3) a0_0 a0_1 a0_2 a0_3 a1_0 a1_1 a1_2 a1_3 a2_0 a2_1 a2_2 a2_3) else (tattlelaw03_TimerOrders.j0 k t382 t383 bt387.1 true a0_0 a0_1 a0_2 a0_3 a1_0 a1_1 a1_2 a1_3 a2_0 a2_1 a2_2 a2_3))) else (tattlelaw03_TimerOrders.j0 k t382 t383 bt387.1 true a0_0 a0_1 a0_2 a0_3 a1_0 a1_1 a1_2 a1_3 a2_0 a2_1 a2_2 a2_3)) else (tattlelaw03_TimerOrders.j0 k t382 t383 bt387.1 true a0_0 a0_1 a0_2 a0_3 a1_0 a1_1 a1_2 a1_3 a2_0 a2_1 a2_2 a2_3)))))
theorem tattlelaw03_TimerOrders.mono_l : ∀ k, (∀ y0 y1 y2 y3 y4 y5 y6 y7 y8 y9 y10 y11 y12 y13 y14 y15, LeO (tattlelaw03_TimerOrders.j0 k y0 y1 y2 y3 y4 y5 y6 y7 y8 y9 y10 y11 y12 y13 y14 y15) (tattlelaw03_TimerOrders.j0 (k + 1) y0 y1 y2 y3 y4 y5 y6 y7 y8 y9 y10 y11 y12 y13 y14 y15)) ∧ (∀ y0 y1, LeO (tattlelaw03_TimerOrders.j1 k y0 y1) (tattlelaw03_TimerOrders.j1 (k + 1) y0 y1))
  | 0 => ⟨fun _ _ _ _ _ _ _ _ _ _ _ _ _ _ _ _ r h => by simp [tattlelaw03_TimerOrders.j0] at h, fun _ _ r h => by simp [tattlelaw03_TimerOrders.j1] at h⟩
  | k + 1 => by
    obtain ⟨ih0, ih1⟩ := tattlelaw03_TimerOrders.mono_l k
    refine ⟨?_, ?_⟩
    · intro y0 y1 y2 y3 y4 y5 y6 y7 y8 y9 y10 y11 y12 y13 y14 y15
      unfold tattlelaw03_TimerOrders.j0
      repeat' first
      | (with_reducible exact ih0 _ _ _ _ _ _ _ _ _ _ _ _ _ _ _ _)
      | (with_reducible exact ih1 _ _)
      | (with_reducible exact tattleref03_Same.mono _ _ _)
      | (with_reducible exact timer_Less.mono _ _ _ _ _ _ _ _ _)
      | (with_reducible exact LeO.refl _)
      | (with_reducible exact LeO.none _)
      | (with_reducible refine LeO.ite ?_ ?_)
      | (with_reducible refine LeO.bind ?_ (fun _ => ?_))
      | exact ih0 _ _ _ _ _ _ _ _ _ _ _ _ _ _ _ _
      | exact ih1 _ _
      | exact tattleref03_Same.mono _ _ _
      | exact timer_Less.mono _ _ _ _ _ _ _ _ _
      | exact LeO.none _
      | refine LeO.ite ?_ ?_
      | refine LeO.bind ?_ (fun _ => ?_)
    · intro y0 y1
      unfold tattlelaw03_TimerOrders.j1
      repeat' first
      | (with_reducible exact ih0 _ _ _ _ _ _ _ _ _ _ _ _ _ _ _ _)
      | (with_reducible exact ih1 _ _)
      | (with_reducible exact tattleref03_Same.mono _ _ _)
      | (with_reducible exact timer_Less.mono _ _ _ _ _ _ _ _ _)
      | (with_reducible exact LeO.refl _)
      | (with_reducible exact LeO.none _)
      | (with_reducible refine LeO.ite ?_ ?_)
      | (with_reducible refine LeO.bind ?_ (fun _ => ?_))
      | exact ih0 _ _ _ _ _ _ _ _ _ _ _ _ _ _ _ _
      | exact ih1 _ _
      | exact tattleref03_Same.mono _ _ _
      | exact timer_Less.mono _ _ _ _ _ _ _ _ _
      | exact LeO.none _
      | refine LeO.ite ?_ ?_
      | refine LeO.bind ?_ (fun _ => ?_)
theorem tattlelaw03_TimerOrders.mono : ∀ a0 a1 a2 a3 a4 a5 a6 a7 a8 a9 a10 a11 k, LeO (tattlelaw03_TimerOrders.f k a0 a1 a2 a3 a4 a5 a6 a7 a8 a9 a10 a11) (tattlelaw03_TimerOrders.f (k + 1) a0 a1 a2 a3 a4 a5 a6 a7 a8 a9 a10 a11) := by
  intro a0 a1 a2 a3 a4 a5 a6 a7 a8 a9 a10 a11 k
  obtain ⟨ih0, ih1⟩ := tattlelaw03_TimerOrders.mono_l k
  unfold tattlelaw03_TimerOrders.f
  repeat' first
      | (with_reducible exact ih0 _ _ _ _ _ _ _ _ _ _ _ _ _ _ _ _)
      | (with_reducible exact ih1 _ _)
      | (with_reducible exact tattleref03_Same.mono _ _ _)
      | (with_reducible exact timer_Less.mono _ _ _ _ _ _ _ _ _)
      | (with_reducible exact LeO.refl _)
      | (with_reducible exact LeO.none _)
      | (with_reducible refine LeO.ite ?_ ?_)
      | (with_reducible refine LeO.bind ?_ (fun _ => ?_))
      | exact ih0 _ _ _ _ _ _ _ _ _ _ _ _ _ _ _ _
      | exact ih1 _ _
      | exact tattleref03_Same.mono _ _ _
      | exact timer_Less.mono _ _ _ _ _ _ _ _ _
      | exact LeO.none _
      | refine LeO.ite ?_ ?_
      | refine LeO.bind ?_ (fun _ => ?_)
def tattlelaw03_TimerOrders.T1 : Bool × List (List Nat × List Nat) := (true, [([], []), ([], []), ([0, 1], [0, 1]), ([], []), ([], []), ([3, 4, 2], [3, 4]), ([2, 5, 0, 1, 2], [2]), ([5, 6, 0, 1, 2, 3, 4, 5, 6], [5])])
def tattlelaw03_TimerOrders.B1 : List Nat := [0, 0, 3, 0, 0, 31, 63, 127]
theorem tattlelaw03_TimerOrders.tab1 : rtab .any (opsOf Try.f9 1) = tattlelaw03_TimerOrders.T1 := by kernel_rfl
theorem tattlelaw03_TimerOrders.bits1 : waitsOk tattlelaw03_TimerOrders.T1.2 tattlelaw03_TimerOrders.B1 = true := by kernel_rfl
def tattlelaw03_TimerOrders.T8 : Bool × List (List Nat × List Nat) := (true, [([], []), ([0], [0]), ([1], [1]), ([], []), ([3], [3]), ([4], [4]), ([2, 5], [2, 5]), ([6], [6]), ([7, 6], [7]), ([8], [8]), ([9, 8], [8, 9]), ([10, 8], [8, 10]), ([8], [8]), ([12, 8], [8, 12]), ([13, 8], [8, 13]), ([11, 14, 8, 8], [8, 11, 14]), ([15, 8], [8, 15]), ([8, 16], [8, 16]), ([17, 15], [17]), ([18, 18], [18]), ([18, 19], [18, 19]), ([20, 19, 0, 1, 2, 3, 4, 5, 6, 7, 8, 9, 10, 11, 12, 13, 14, 15, 16, 17, 18, 19, 20], [20])])
def tattlelaw03_TimerOrders.B8 : List Nat := [0, 1, 3, 0, 8, 24, 63, 127, 255, 511, 1023, 2047, 511, 4607, 12799, 32767, 65535, 131071, 262143, 524287, 1048575, 2097151]
theorem tattlelaw03_TimerOrders.tab8 : rtab .any (opsOf Try.f9 8) = tattlelaw03_TimerOrders.T8 := by kernel_rfl
theorem tattlelaw03_TimerOrders.bits8 : waitsOk tattlelaw03_TimerOrders.T8.2 tattlelaw03_TimerOrders.B8 = true := by kernel_rfl
set_option maxHeartbeats 8000000 in
set_option maxRecDepth 100000 in
theorem tattlelaw03_TimerOrders.calls (k : Nat) (a0_0 : Int) (a0_1 : Int) (a0_2 : Int) (a0_3 : Int) (a1_0 : Int) (a1_1 : Int) (a1_2 : Int) (a1_3 : Int) (a2_0 : Int) (a2_1 : Int) (a2_2 : Int) (a2_3 : Int) (r : Bool) (w : World) (hrt : Aside0 (r = true)) (h : tattlelaw03_TimerOrders.f k a0_0 a0_1 a0_2 a0_3 a1_0 a1_1 a1_2 a1_3 a2_0 a2_1 a2_2 a2_3 = some r) :
    Calls Try.prog 9 #[.agg #[.int .i64 a0_0, .int .i64 a0_1, .int .i64 a0_2, .int .u64 a0_3], .agg #[.int .i64 a1_0, .int .i64 a1_1, .int .i64 a1_2, .int .u64 a1_3], .agg #[.int .i64 a2_0, .int .i64 a2_1, .int .i64 a2_2, .int .u64 a2_3]] w fun e w' => e = .returned (.bool r) ∧ Below w.heap.size w w' := by
  have hu52 := Try.underlying52
  have HB := Aside0.mk (Below.refl w.heap.size w)
  have H : ((timer_Less.f k a0_0 a0_1 a0_2 a0_3 a1_0 a1_1 a1_2 a1_3).bind fun t382 => ((timer_Less.f k a1_0 a1_1 a1_2 a1_3 a0_0 a0_1 a0_2 a0_3).bind fun t383 => ((timer_Add.f ([] : List (S52)) (([(⟨a0_0, a0_1, a0_2, a0_3⟩ : S52), (⟨a1_0, a1_1, a1_2, a1_3⟩ : S52), (⟨a2_0, a2_1, a2_2, a2_3⟩ : S52)] : List (S52)))).bind fun bt387 => ((timer_Add.f ([] : List (S52)) (([(⟨a2_0, a2_1, a2_2, a2_3⟩ : S52), (⟨a1_0, a1_1, a1_2, a1_3⟩ : S52), (⟨a0_0, a0_1, a0_2, a0_3⟩ : S52)] : List (S52)))).bind fun bt394 => (if bt387.2 = 0 then (if bt394.2 = 0 then ((tattleref03_Same.f k bt387.1 bt394.1).bind fun t398 => (if t398 = true then (tattlelaw03_TimerOrders.j0 k t382 t383 bt387.1 ((bt387.1.length : Int) != 3) a0_0 a0_1 a0_2 a0_3 a1_0 a1_1 a1_2 a1_3 a2_0 a2_1 a2_2 a2_3) else (tattlelaw03_TimerOrders.j0 k t382 t383 bt387.1 true a0_0 a0_1 a0_2 a0_3 a1_0 a1_1 a1_2 a1_3 a2_0 a2_1 a2_2 a2_3))) else (tattlelaw03_TimerOrders.j0 k t382 t383 bt387.1 true a0_0 a0_1 a0_2 a0_3 a1_0 a1_1 a1_2 a1_3 a2_0 a2_1 a2_2 a2_3)) else (tattlelaw03_TimerOrders.j0 k t382 t383 bt387.1 true a0_0 a0_1 a0_2 a0_3 a1_0 a1_1 a1_2 a1_3 a2_0 a2_1 a2_2 a2_3)))))) = some r := h
  clear h
  replace H := Option.bind_eq_some_iff.mp H
  obtain ⟨t382, A40, H⟩ := H
  replace H : ((timer_Less.f k a1_0 a1_1 a1_2 a1_3 a0_0 a0_1 a0_2 a0_3).bind fun t383 => ((timer_Add.f ([] : List (S52)) (([(⟨a0_0, a0_1, a0_2, a0_3⟩ : S52), (⟨a1_0, a1_1, a1_2, a1_3⟩ : S52), (⟨a2_0, a2_1, a2_2, a2_3⟩ : S52)] : List (S52)))).bind fun bt387 => ((timer_Add.f ([] : List (S52)) (([(⟨a2_0, a2_1, a2_2, a2_3⟩ : S52), (⟨a1_0, a1_1, a1_2, a1_3⟩ : S52), (⟨a0_0, a0_1, a0_2, a0_3⟩ : S52)] : List (S52)))).bind fun bt394 => (if bt387.2 = 0 then (if bt394.2 = 0 then ((tattleref03_Same.f k bt387.1 bt394.1).bind fun t398 => (if t398 = true then (tattlelaw03_TimerOrders.j0 k t382 t383 bt387.1 ((bt387.1.length : Int) != 3) a0_0 a0_1 a0_2 a0_3 a1_0 a1_1 a1_2 a1_3 a2_0 a2_1 a2_2 a2_3) else (tattlelaw03_TimerOrders.j0 k t382 t383 bt387.1 true a0_0 a0_1 a0_2 a0_3 a1_0 a1_1 a1_2 a1_3 a2_0 a2_1 a2_2 a2_3))) else (tattlelaw03_TimerOrders.j0 k t382 t383 bt387.1 true a0_0 a0_1 a0_2 a0_3 a1_0 a1_1 a1_2 a1_3 a2_0 a2_1 a2_2 a2_3)) else (tattlelaw03_TimerOrders.j0 k t382 t383 bt387.1 true a0_0 a0_1 a0_2 a0_3 a1_0 a1_1 a1_2 a1_3 a2_0 a2_1 a2_2 a2_3))))) = some r := H
  have A4 := Aside0.mk A40
  clear A40
  replace H := Option.bind_eq_some_iff.mp H
  obtain ⟨t383, A50, H⟩ := H
  replace H : ((timer_Add.f ([] : List (S52)) (([(⟨a0_0, a0_1, a0_2, a0_3⟩ : S52), (⟨a1_0, a1_1, a1_2, a1_3⟩ : S52), (⟨a2_0, a2_1, a2_2, a2_3⟩ : S52)] : List (S52)))).bind fun bt387 => ((timer_Add.f ([] : List (S52)) (([(⟨a2_0, a2_1, a2_2, a2_3⟩ : S52), (⟨a1_0, a1_1, a1_2, a1_3⟩ : S52), (⟨a0_0, a0_1, a0_2, a0_3⟩ : S52)] : List (S52)))).bind fun bt394 => (if bt387.2 = 0 then (if bt394.2 = 0 then ((tattleref03_Same.f k bt387.1 bt394.1).bind fun t398 => (if t398 = true then (tattlelaw03_TimerOrders.j0 k t382 t383 bt387.1 ((bt387.1.length : Int) != 3) a0_0 a0_1 a0_2 a0_3 a1_0 a1_1 a1_2 a1_3 a2_0 a2_1 a2_2 a2_3) else (tattlelaw03_TimerOrders.j0 k t382 t383 bt387.1 true a0_0 a0_1 a0_2 a0_3 a1_0 a1_1 a1_2 a1_3 a2_0 a2_1 a2_2 a2_3))) else (tattlelaw03_TimerOrders.j0 k t382 t383 bt387.1 true a0_0 a0_1 a0_2 a0_3 a1_0 a1_1 a1_2 a1_3 a2_0 a2_1 a2_2 a2_3)) else (tattlelaw03_TimerOrders.j0 k t382 t383 bt387.1 true a0_0 a0_1 a0_2 a0_3 a1_0 a1_1 a1_2 a1_3 a2_0 a2_1 a2_2 a2_3)))) = some r := H
  have A5 := Aside0.mk A50
  clear A50
  obtain ⟨y384, hy384⟩ : ∃ y_ : List (S52), y_ = (([(⟨a0_0, a0_1, a0_2, a0_3⟩ : S52), (⟨a1_0, a1_1, a1_2, a1_3⟩ : S52), (⟨a2_0, a2_1, a2_2, a2_3⟩ : S52)] : List (S52))) := ⟨_, rfl⟩
  replace H : ((timer_Add.f ([] : List (S52)) y384).bind fun bt387 => ((timer_Add.f ([] : List (S52)) (([(⟨a2_0, a2_1, a2_2, a2_3⟩ : S52), (⟨a1_0, a1_1, a1_2, a1_3⟩ : S52), (⟨a0_0, a0_1, a0_2, a0_3⟩ : S52)] : List (S52)))).bind fun bt394 => (if bt387.2 = 0 then (if bt394.2 = 0 then ((tattleref03_Same.f k bt387.1 bt394.1).bind fun t398 => (if t398 = true then (tattlelaw03_TimerOrders.j0 k t382 t383 bt387.1 ((bt387.1.length : Int) != 3) a0_0 a0_1 a0_2 a0_3 a1_0 a1_1 a1_2 a1_3 a2_0 a2_1 a2_2 a2_3) else (tattlelaw03_TimerOrders.j0 k t382 t383 bt387.1 true a0_0 a0_1 a0_2 a0_3 a1_0 a1_1 a1_2 a1_3 a2_0 a2_1 a2_2 a2_3))) else (tattlelaw03_TimerOrders.j0 k t382 t383 bt387.1 true a0_0 a0_1 a0_2 a0_3 a1_0 a1_1 a1_2 a1_3 a2_0 a2_1 a2_2 a2_3)) else (tattlelaw03_TimerOrders.j0 k t382 t383 bt387.1 true a0_0 a0_1 a0_2 a0_3 a1_0 a1_1 a1_2 a1_3 a2_0 a2_1 a2_2 a2_3)))) = some r := by first | (rw [hy384]; with_reducible exact H) | (have H2_ := (Option.bind_some _ _).symm.trans H; rw [hy384]; with_reducible exact H2_) | (have H2_ := (Option.bind_some _ _).symm.trans H; with_reducible exact H2_) | with_reducible exact H | (rw [hy384]; exact H) | exact H
  have Ny384 := Aside0.mk hy384
  clear hy384
  replace H := Option.bind_eq_some_iff.mp H
  obtain ⟨⟨t387, t388⟩, A60, H⟩ := H
  replace H : ((timer_Add.f ([] : List (S52)) (([(⟨a2_0, a2_1, a2_2, a2_3⟩ : S52), (⟨a1_0, a1_1, a1_2, a1_3⟩ : S52), (⟨a0_0, a0_1, a0_2, a0_3⟩ : S52)] : List (S52)))).bind fun bt394 => (if t388 = 0 then (if bt394.2 = 0 then ((tattleref03_Same.f k t387 bt394.1).bind fun t398 => (if t398 = true then (tattlelaw03_TimerOrders.j0 k t382 t383 t387 ((t387.length : Int) != 3) a0_0 a0_1 a0_2 a0_3 a1_0 a1_1 a1_2 a1_3 a2_0 a2_1 a2_2 a2_3) else (tattlelaw03_TimerOrders.j0 k t382 t383 t387 true a0_0 a0_1 a0_2 a0_3 a1_0 a1_1 a1_2 a1_3 a2_0 a2_1 a2_2 a2_3))) else (tattlelaw03_TimerOrders.j0 k t382 t383 t387 true a0_0 a0_1 a0_2 a0_3 a1_0 a1_1 a1_2 a1_3 a2_0 a2_1 a2_2 a2_3)) else (tattlelaw03_TimerOrders.j0 k t382 t383 t387 true a0_0 a0_1 a0_2 a0_3 a1_0 a1_1 a1_2 a1_3 a2_0 a2_1 a2_2 a2_3))) = some r := H
  have A6 := Aside0.mk A60
  clear A60
  obtain ⟨y391, hy391⟩ : ∃ y_ : List (S52), y_ = (([(⟨a2_0, a2_1, a2_2, a2_3⟩ : S52), (⟨a1_0, a1_1, a1_2, a1_3⟩ : S52), (⟨a0_0, a0_1, a0_2, a0_3⟩ : S52)] : List (S52))) := ⟨_, rfl⟩
  replace H : ((timer_Add.f ([] : List (S52)) y391).bind fun bt394 => (if t388 = 0 then (if bt394.2 = 0 then ((tattleref03_Same.f k t387 bt394.1).bind fun t398 => (if t398 = true then (tattlelaw03_TimerOrders.j0 k t382 t383 t387 ((t387.length : Int) != 3) a0_0 a0_1 a0_2 a0_3 a1_0 a1_1 a1_2 a1_3 a2_0 a2_1 a2_2 a2_3) else (tattlelaw03_TimerOrders.j0 k t382 t383 t387 true a0_0 a0_1 a0_2 a0_3 a1_0 a1_1 a1_2 a1_3 a2_0 a2_1 a2_2 a2_3))) else (tattlelaw03_TimerOrders.j0 k t382 t383 t387 true a0_0 a0_1 a0_2 a0_3 a1_0 a1_1 a1_2 a1_3 a2_0 a2_1 a2_2 a2_3)) else (tattlelaw03_TimerOrders.j0 k t382 t383 t387 true a0_0 a0_1 a0_2 a0_3 a1_0 a1_1 a1_2 a1_3 a2_0 a2_1 a2_2 a2_3))) = some r := by first | (rw [hy391]; with_reducible exact H) | (have H2_ := (Option.bind_some _ _).symm.trans H; rw [hy391]; with_reducible exact H2_) | (have H2_ := (Option.bind_some _ _).symm.trans H; with_reducible exact H2_) | with_reducible exact H | (rw [hy391]; exact H) | exact H
  have Ny391 := Aside0.mk hy391
  clear hy391
  replace H := Option.bind_eq_some_iff.mp H
  obtain ⟨⟨t394, t395⟩, A70, H⟩ := H
  replace H : (if t388 = 0 then (if t395 = 0 then ((tattleref03_Same.f k t387 t394).bind fun t398 => (if t398 = true then (tattlelaw03_TimerOrders.j0 k t382 t383 t387 ((t387.length : Int) != 3) a0_0 a0_1 a0_2 a0_3 a1_0 a1_1 a1_2 a1_3 a2_0 a2_1 a2_2 a2_3) else (tattlelaw03_TimerOrders.j0 k t382 t383 t387 true a0_0 a0_1 a0_2 a0_3 a1_0 a1_1 a1_2 a1_3 a2_0 a2_1 a2_2 a2_3))) else (tattlelaw03_TimerOrders.j0 k t382 t383 t387 true a0_0 a0_1 a0_2 a0_3 a1_0 a1_1 a1_2 a1_3 a2_0 a2_1 a2_2 a2_3)) else (tattlelaw03_TimerOrders.j0 k t382 t383 t387 true a0_0 a0_1 a0_2 a0_3 a1_0 a1_1 a1_2 a1_3 a2_0 a2_1 a2_2 a2_3)) = some r := H
  have A7 := Aside0.mk A70
  clear A70
  have HC8 := Aside0.mk H
  clear H
  go_enter Try.func9, Try.ntmps9
  try go_wp2_with (first | ((with_reducible refine gate_dst (N := 3) rfl ?_); (try (refine gate_guard (by rfl) ?_; dsimp only)); refine box_event ?hg (N := 3) ?hd (cs := #[.int .i64 a0_0, .int .i64 a0_1, .int .i64 a0_2, .int .u64 a0_3]) (t := 52) ?hr ?_; (case hd => rfl); (case hg => rfl); (case hr => first | (go_simp; done) | (go_simp; rfl)); intro gb379 hg w9 hbox hb; have n0_ := Aside0.mk (below_step (by repeat (first | (with_reducible first | exact HB.out | apply below_alloc | apply pw_below_drewN | apply below_drew1) | exact HB.out)) hb); have n1_ := Aside0.mk (hbox); have n2_ := Aside0.mk ((by rw [hg]; exact (below_size (by repeat (first | (with_reducible first | exact HB.out | apply below_alloc | apply pw_below_drewN | apply below_drew1) | exact HB.out))) : w.heap.size ≤ gb379)); have n3_ := Aside0.mk ((by rw [hg]; exact (below_size (by repeat (first | (with_reducible first | exact HB.out | apply below_alloc | apply pw_below_drewN | apply below_drew1) | exact HB.out))) : w.heap.size ≤ gb379)); clear HB; have HB := n0_; have BK379 := n1_; have GW379 := n2_; have GE379 := n3_; clear n0_ n1_ n2_ n3_; clear hb hbox hg) | ((with_reducible refine gate_dst (N := 4) rfl ?_); (try (refine gate_guard (by rfl) ?_; dsimp only)); refine box_event ?hg (N := 4) ?hd (cs := #[.int .i64 a1_0, .int .i64 a1_1, .int .i64 a1_2, .int .u64 a1_3]) (t := 52) ?hr ?_; (case hd => rfl); (case hg => rfl); (case hr => first | (go_simp; done) | (go_simp; rfl)); intro gb380 hg w10 hbox hb; have n0_ := Aside0.mk (blk_below (g := gb379) (o := .cells #[.int .i64 a0_0, .int .i64 a0_1, .int .i64 a0_2, .int .u64 a0_3] 52 (0, 0)) (by (with_reducible repeat (first | refine blk_drewN ?_ _ | refine blk_drew ?_ | refine blk_alloc ?_ _)); exact BK379.out) hb); have n1_ := Aside0.mk (below_step (by repeat (first | (with_reducible first | exact HB.out | apply below_alloc | apply pw_below_drewN | apply below_drew1 | refine below_set ?_ GE379.out) | exact HB.out)) hb); have n2_ := Aside0.mk (hbox); have n3_ := Aside0.mk ((by rw [hg]; exact (below_size (by repeat (first | (with_reducible first | exact HB.out | apply below_alloc | apply pw_below_drewN | apply below_drew1 | refine below_set ?_ GE379.out) | exact HB.out))) : w.heap.size ≤ gb380)); have n4_ := Aside0.mk ((by rw [hg]; exact (below_size (by repeat (first | (with_reducible first | exact HB.out | apply below_alloc | apply pw_below_drewN | apply below_drew1 | refine below_set ?_ GE379.out) | exact HB.out))) : w.heap.size ≤ gb380)); have n5_ := Aside0.mk ((by rw [hg]; exact Nat.ne_of_lt (blk_lt (g := gb379) (o := .cells #[.int .i64 a0_0, .int .i64 a0_1, .int .i64 a0_2, .int .u64 a0_3] 52 (0, 0)) (by (with_reducible repeat (first | refine blk_drewN ?_ _ | refine blk_drew ?_ | refine blk_alloc ?_ _)); exact BK379.out)) : gb379 ≠ gb380)); have n6_ := Aside0.mk ((by rw [hg]; exact Nat.ne_of_gt (blk_lt (g := gb379) (o := .cells #[.int .i64 a0_0, .int .i64 a0_1, .int .i64 a0_2, .int .u64 a0_3] 52 (0, 0)) (by (with_reducible repeat (first | refine blk_drewN ?_ _ | refine blk_drew ?_ | refine blk_alloc ?_ _)); exact BK379.out)) : gb380 ≠ gb379)); clear BK379; clear HB; have BK379 := n0_; have HB := n1_; have BK380 := n2_; have GW380 := n3_; have GE380 := n4_; have NB379_380 := n5_; have NB380_379 := n6_; clear n0_ n1_ n2_ n3_ n4_ n5_ n6_; clear hb hbox hg) | ((with_reducible refine gate_dst (N := 5) rfl ?_); (try (refine gate_guard (by rfl) ?_; dsimp only)); refine box_event ?hg (N := 5) ?hd (cs := #[.int .i64 a2_0, .int .i64 a2_1, .int .i64 a2_2, .int .u64 a2_3]) (t := 52) ?hr ?_; (case hd => rfl); (case hg => rfl); (case hr => first | (go_simp; done) | (go_simp; rfl)); intro gb381 hg w11 hbox hb; have n0_ := Aside0.mk (blk_below (g := gb379) (o := .cells #[.int .i64 a0_0, .int .i64 a0_1, .int .i64 a0_2, .int .u64 a0_3] 52 (0, 0)) (by (with_reducible repeat (first | refine blk_drewN ?_ _ | refine blk_drew ?_ | refine blk_alloc ?_ _)); exact BK379.out) hb); have n1_ := Aside0.mk (blk_below (g := gb380) (o := .cells #[.int .i64 a1_0, .int .i64 a1_1, .int .i64 a1_2, .int .u64 a1_3] 52 (0, 0)) (by (with_reducible repeat (first | refine blk_drewN ?_ _ | refine blk_drew ?_ | refine blk_alloc ?_ _)); exact BK380.out) hb); have n2_ := Aside0.mk (below_step (by repeat (first | (with_reducible first | exact HB.out | apply below_alloc | apply pw_below_drewN | apply below_drew1 | refine below_set ?_ GE379.out | refine below_set ?_ GE380.out) | exact HB.out)) hb); have n3_ := Aside0.mk (hbox); have n4_ := Aside0.mk ((by rw [hg]; exact (below_size (by repeat (first | (with_reducible first | exact HB.out | apply below_alloc | apply pw_below_drewN | apply below_drew1 | refine below_set ?_ GE379.out | refine below_set ?_ GE380.out) | exact HB.out))) : w.heap.size ≤ gb381)); have n5_ := Aside0.mk ((by rw [hg]; exact (below_size (by repeat (first | (with_reducible first | exact HB.out | apply below_alloc | apply pw_below_drewN | apply below_drew1 | refine below_set ?_ GE379.out | refine below_set ?_ GE380.out) | exact HB.out))) : w.heap.size ≤ gb381)); have n6_ := Aside0.mk ((by rw [hg]; exact Nat.ne_of_lt (blk_lt (g := gb379) (o := .cells #[.int .i64 a0_0, .int .i64 a0_1, .int .i64 a0_2, .int .u64 a0_3] 52 (0, 0)) (by (with_reducible repeat (first | refine blk_drewN ?_ _ | refine blk_drew ?_ | refine blk_alloc ?_ _)); exact BK379.out)) : gb379 ≠ gb381)); have n7_ := Aside0.mk ((by rw [hg]; exact Nat.ne_of_gt (blk_lt (g := gb379) (o := .cells #[.int .i64 a0_0, .int .i64 a0_1, .int .i64 a0_2, .int .u64 a0_3] 52 (0, 0)) (by (with_reducible repeat (first | refine blk_drewN ?_ _ | refine blk_drew ?_ | refine blk_alloc ?_ _)); exact BK379.out)) : gb381 ≠ gb379)); have n8_ := Aside0.mk ((by rw [hg]; exact Nat.ne_of_lt (blk_lt (g := gb380) (o := .cells #[.int .i64 a1_0, .int .i64 a1_1, .int .i64 a1_2, .int .u64 a1_3] 52 (0, 0)) (by (with_reducible repeat (first | refine blk_drewN ?_ _ | refine blk_drew ?_ | refine blk_alloc ?_ _)); exact BK380.out)) : gb380 ≠ gb381)); have n9_ := Aside0.mk ((by rw [hg]; exact Nat.ne_of_gt (blk_lt (g := gb380) (o := .cells #[.int .i64 a1_0, .int .i64 a1_1, .int .i64 a1_2, .int .u64 a1_3] 52 (0, 0)) (by (with_reducible repeat (first | refine blk_drewN ?_ _ | refine blk_drew ?_ | refine blk_alloc ?_ _)); exact BK380.out)) : gb381 ≠ gb380)); clear BK379; clear BK380; clear HB; have BK379 := n0_; have BK380 := n1_; have HB := n2_; have BK381 := n3_; have GW381 := n4_; have GE381 := n5_; have NB379_381 := n6_; have NB381_379 := n7_; have NB380_381 := n8_; have NB381_380 := n9_; clear n0_ n1_ n2_ n3_ n4_ n5_ n6_ n7_ n8_ n9_; clear hb hbox hg))
  have n0_ := Aside0.mk (blk_drew BK379.out)
  have n1_ := Aside0.mk (blk_drew BK380.out)
  have n2_ := Aside0.mk (blk_drew BK381.out)
  have n3_ := Aside0.mk (below_drew1 HB.out)
  clear BK379
  clear BK380
  clear BK381
  clear HB
  have BK379 := n0_
  have BK380 := n1_
  have BK381 := n2_
  have HB := n3_
  clear n0_ n1_ n2_ n3_
  refine start_ (n := 8) (S := fun w' => w'.cell? ⟨gb379, 0, none⟩ = some (.int .i64 a0_0) ∧ w'.cell? ⟨gb379, 1, none⟩ = some (.int .i64 a0_1) ∧ w'.cell? ⟨gb379, 2, none⟩ = some (.int .i64 a0_2) ∧ w'.cell? ⟨gb379, 3, none⟩ = some (.int .u64 a0_3) ∧ w'.cell? ⟨gb380, 0, none⟩ = some (.int .i64 a1_0) ∧ w'.cell? ⟨gb380, 1, none⟩ = some (.int .i64 a1_1) ∧ w'.cell? ⟨gb380, 2, none⟩ = some (.int .i64 a1_2) ∧ w'.cell? ⟨gb380, 3, none⟩ = some (.int .u64 a1_3)) (ds := []) #[false, false, false, false, false, false, false, false] (by kernel_rfl) rfl rfl ⟨(blk_cell BK379.out 0).trans rfl, (blk_cell BK379.out 1).trans rfl, (blk_cell BK379.out 2).trans rfl, (blk_cell BK379.out 3).trans rfl, (blk_cell BK380.out 0).trans rfl, (blk_cell BK380.out 1).trans rfl, (blk_cell BK380.out 2).trans rfl, (blk_cell BK380.out 3).trans rfl⟩ (fun hHeld => ?_); refine with_tabW tattlelaw03_TimerOrders.tab1 tattlelaw03_TimerOrders.bits1 (fun HT_ HW_ => ?_)
  generalize w11.drew = w12 at BK379 BK380 BK381 HB hHeld ⊢
  refine take_ (i := 0) (N := some 13) (v := ?_) (a' := ?_) #[true, false, false, false, false, false, false, false] rfl rfl (take_ofW HT_.out HW_.out (by kernel_rfl)) (fun _ _ _ h => h) (Or.inl ⟨by rfl, ?_⟩) hHeld ?_ ?_
  rotate_left
  · rintro w' ⟨s0, s1, s2, s3, s4, s5, s6, s7⟩
    go_simp
    with_reducible rfl
  rotate_left
  · simp only [Act.put, List.setIfInBounds_toArray, List.set_cons_zero, List.set_cons_succ, i64_w, i32_w]
    rfl
  refine take_ (i := 1) (N := some 14) (v := ?_) (a' := ?_) #[true, true, false, false, false, false, false, false] rfl rfl (take_ofW HT_.out HW_.out (by kernel_rfl)) (fun _ _ _ h => h) (Or.inl ⟨by rfl, ?_⟩) hHeld ?_ ?_
  rotate_left
  · rintro w' ⟨s0, s1, s2, s3, s4, s5, s6, s7⟩
    go_simp
    with_reducible rfl
  rotate_left
  · simp only [Act.put, List.setIfInBounds_toArray, List.set_cons_zero, List.set_cons_succ, i64_w, i32_w]
    rfl
  refine take_ (i := 3) (N := some 16) (v := ?_) (a' := ?_) #[true, true, false, true, false, false, false, false] rfl rfl (take_ofW HT_.out HW_.out (by kernel_rfl)) (fun _ _ _ h => h) (Or.inl ⟨by rfl, ?_⟩) hHeld ?_ ?_
  rotate_left
  · rintro w' ⟨s0, s1, s2, s3, s4, s5, s6, s7⟩
    go_simp
    with_reducible rfl
  rotate_left
  · simp only [Act.put, List.setIfInBounds_toArray, List.set_cons_zero, List.set_cons_succ, i64_w, i32_w]
    rfl
  refine take_ (i := 4) (N := some 17) (v := ?_) (a' := ?_) #[true, true, false, true, true, false, false, false] rfl rfl (take_ofW HT_.out HW_.out (by kernel_rfl)) (fun _ _ _ h => h) (Or.inl ⟨by rfl, ?_⟩) hHeld ?_ ?_
  rotate_left
  · rintro w' ⟨s0, s1, s2, s3, s4, s5, s6, s7⟩
    go_simp
    with_reducible rfl
  rotate_left
  · simp only [Act.put, List.setIfInBounds_toArray, List.set_cons_zero, List.set_cons_succ, i64_w, i32_w]
    rfl
  refine one_ (i := 2) (N := some 15) #[true, true, true, true, true, false, false, false] rfl rfl (one_of HT_.out (by kernel_rfl)) (by decide) (fun K hK => ?_)
  refine goes_ Try.func26 (by kernel_rfl) rfl #[.agg #[.int .i64 a0_0, .int .i64 a0_1, .int .i64 a0_2, .int .u64 a0_3], .agg #[.int .i64 a1_0, .int .i64 a1_1, .int .i64 a1_2, .int .u64 a1_3]] (by rfl) rfl rfl (by (try simp only [List.map_toArray, List.map_cons, List.map_nil]); first | done | rfl | (simp only [List.length_drop, List.length_take]; rfl)) ?_
  with_reducible refine (timer_Less.calls k a0_0 a0_1 a0_2 a0_3 a1_0 a1_1 a1_2 a1_3 t382 _ A4.out).mono ?_
  rintro e w13 ⟨rfl, hb⟩
  refine ⟨_, rfl, ?_⟩
  have n0_ := Aside0.mk (blk_below (g := gb379) (o := .cells #[.int .i64 a0_0, .int .i64 a0_1, .int .i64 a0_2, .int .u64 a0_3] 52 (0, 0)) (by (with_reducible repeat (first | refine blk_drewN ?_ _ | refine blk_drew ?_ | refine blk_alloc ?_ _)); exact BK379.out) hb)
  have n1_ := Aside0.mk (blk_below (g := gb380) (o := .cells #[.int .i64 a1_0, .int .i64 a1_1, .int .i64 a1_2, .int .u64 a1_3] 52 (0, 0)) (by (with_reducible repeat (first | refine blk_drewN ?_ _ | refine blk_drew ?_ | refine blk_alloc ?_ _)); exact BK380.out) hb)
  have n2_ := Aside0.mk (blk_below (g := gb381) (o := .cells #[.int .i64 a2_0, .int .i64 a2_1, .int .i64 a2_2, .int .u64 a2_3] 52 (0, 0)) (by (with_reducible repeat (first | refine blk_drewN ?_ _ | refine blk_drew ?_ | refine blk_alloc ?_ _)); exact BK381.out) hb)
  have n3_ := Aside0.mk (below_step (by repeat (first | (with_reducible first | exact HB.out | apply below_alloc | apply pw_below_drewN | apply below_drew1 | refine below_set ?_ GE379.out | refine below_set ?_ GE380.out | refine below_set ?_ GE381.out) | exact HB.out)) hb)
  clear BK379
  clear BK380
  clear BK381
  clear HB
  have BK379 := n0_
  have BK380 := n1_
  have BK381 := n2_
  have HB := n3_
  clear n0_ n1_ n2_ n3_
  (try clear hb)
  (try clear hb2)
  (try clear hk)
  (try clear hi)
  refine hK.out _ _ ⟨(blk_cell BK379.out 0).trans rfl, (blk_cell BK379.out 1).trans rfl, (blk_cell BK379.out 2).trans rfl, (blk_cell BK379.out 3).trans rfl, (blk_cell BK380.out 0).trans rfl, (blk_cell BK380.out 1).trans rfl, (blk_cell BK380.out 2).trans rfl, (blk_cell BK380.out 3).trans rfl⟩ (fun hHeld => ?_)
  clear hK K
  refine norm_ (a' := ?_) ?_ ?_
  rotate_left
  · show Act.put _ (some 15) _ = _
    simp only [Act.put, List.setIfInBounds_toArray, List.set_cons_zero, List.set_cons_succ, i64_w, i32_w]
    rfl
  refine one_ (i := 5) (N := some 18) #[true, true, true, true, true, true, false, false] rfl rfl (one_of HT_.out (by kernel_rfl)) (by decide) (fun K hK => ?_)
  refine goes_ Try.func26 (by kernel_rfl) rfl #[.agg #[.int .i64 a1_0, .int .i64 a1_1, .int .i64 a1_2, .int .u64 a1_3], .agg #[.int .i64 a0_0, .int .i64 a0_1, .int .i64 a0_2, .int .u64 a0_3]] (by rfl) rfl rfl (by (try simp only [List.map_toArray, List.map_cons, List.map_nil]); first | done | rfl | (simp only [List.length_drop, List.length_take]; rfl)) ?_
  with_reducible refine (timer_Less.calls k a1_0 a1_1 a1_2 a1_3 a0_0 a0_1 a0_2 a0_3 t383 _ A5.out).mono ?_
  rintro e w14 ⟨rfl, hb⟩
  refine ⟨_, rfl, ?_⟩
  have n0_ := Aside0.mk (blk_below (g := gb379) (o := .cells #[.int .i64 a0_0, .int .i64 a0_1, .int .i64 a0_2, .int .u64 a0_3] 52 (0, 0)) (by (with_reducible repeat (first | refine blk_drewN ?_ _ | refine blk_drew ?_ | refine blk_alloc ?_ _)); exact BK379.out) hb)
  have n1_ := Aside0.mk (blk_below (g := gb380) (o := .cells #[.int .i64 a1_0, .int .i64 a1_1, .int .i64 a1_2, .int .u64 a1_3] 52 (0, 0)) (by (with_reducible repeat (first | refine blk_drewN ?_ _ | refine blk_drew ?_ | refine blk_alloc ?_ _)); exact BK380.out) hb)
  have n2_ := Aside0.mk (blk_below (g := gb381) (o := .cells #[.int .i64 a2_0, .int .i64 a2_1, .int .i64 a2_2, .int .u64 a2_3] 52 (0, 0)) (by (with_reducible repeat (first | refine blk_drewN ?_ _ | refine blk_drew ?_ | refine blk_alloc ?_ _)); exact BK381.out) hb)
  have n3_ := Aside0.mk (below_step (by repeat (first | (with_reducible first | exact HB.out | apply below_alloc | apply pw_below_drewN | apply below_drew1 | refine below_set ?_ GE379.out | refine below_set ?_ GE380.out | refine below_set ?_ GE381.out) | exact HB.out)) hb)
  clear BK379
  clear BK380
  clear BK381
  clear HB
  have BK379 := n0_
  have BK380 := n1_
  have BK381 := n2_
  have HB := n3_
  clear n0_ n1_ n2_ n3_
  (try clear hb)
  (try clear hb2)
  (try clear hk)
  (try clear hi)
  refine hK.out _ _ ⟨(blk_cell BK379.out 0).trans rfl, (blk_cell BK379.out 1).trans rfl, (blk_cell BK379.out 2).trans rfl, (blk_cell BK379.out 3).trans rfl, (blk_cell BK380.out 0).trans rfl, (blk_cell BK380.out 1).trans rfl, (blk_cell BK380.out 2).trans rfl, (blk_cell BK380.out 3).trans rfl⟩ (fun hHeld => ?_)
  clear hK K
  refine norm_ (a' := ?_) ?_ ?_
  rotate_left
  · show Act.put _ (some 18) _ = _
    simp only [Act.put, List.setIfInBounds_toArray, List.set_cons_zero, List.set_cons_succ, i64_w, i32_w]
    rfl
  refine pure_ (i := 6) (N := some 7) (v := ?_) (a' := ?_) #[true, true, true, true, true, true, true, false] rfl rfl (any_of HT_.out (by kernel_rfl)) (fun _ _ _ h => h) (Or.inl ⟨by rfl, ?_⟩) ?_ ?_
  rotate_left
  · intro w'
    go_simp
    with_reducible rfl
  rotate_left
  · simp only [Act.put, List.setIfInBounds_toArray, List.set_cons_zero, List.set_cons_succ, i64_w, i32_w]
    rfl
  refine pure_ (i := 7) (N := some 8) (v := ?_) (a' := ?_) #[true, true, true, true, true, true, true, true] rfl rfl (any_of HT_.out (by kernel_rfl)) (fun _ _ _ h => h) (Or.inl ⟨by rfl, ?_⟩) ?_ ?_
  rotate_left
  · intro w'
    go_simp
    with_reducible rfl
  rotate_left
  · simp only [Act.put, List.setIfInBounds_toArray, List.set_cons_zero, List.set_cons_succ, i64_w, i32_w]
    rfl
  refine done_ (done_of HT_.out (by kernel_rfl)) ?_
  have hnb15 := NB379_380.out
  have hnc15 := NB380_379.out
  have hnb16 := NB379_381.out
  have hnc16 := NB381_379.out
  have hcz17_0 : w14.cell? ⟨gb379, 0, none⟩ = some (.int .i64 a0_0) := (blk_cell BK379.out 0).trans rfl
  have hcz17_1 : w14.cell? ⟨gb379, 1, none⟩ = some (.int .i64 a0_1) := (blk_cell BK379.out 1).trans rfl
  have hcz17_2 : w14.cell? ⟨gb379, 2, none⟩ = some (.int .i64 a0_2) := (blk_cell BK379.out 2).trans rfl
  have hcz17_3 : w14.cell? ⟨gb379, 3, none⟩ = some (.int .u64 a0_3) := (blk_cell BK379.out 3).trans rfl
  have hfz17_0 := blk_frozen BK379.out 0
  have hfz17_1 := blk_frozen BK379.out 1
  have hfz17_2 := blk_frozen BK379.out 2
  have hfz17_3 := blk_frozen BK379.out 3
  have hnb18 := NB380_381.out
  have hnc18 := NB381_380.out
  have hcz19_0 : w14.cell? ⟨gb380, 0, none⟩ = some (.int .i64 a1_0) := (blk_cell BK380.out 0).trans rfl
  have hcz19_1 : w14.cell? ⟨gb380, 1, none⟩ = some (.int .i64 a1_1) := (blk_cell BK380.out 1).trans rfl
  have hcz19_2 : w14.cell? ⟨gb380, 2, none⟩ = some (.int .i64 a1_2) := (blk_cell BK380.out 2).trans rfl
  have hcz19_3 : w14.cell? ⟨gb380, 3, none⟩ = some (.int .u64 a1_3) := (blk_cell BK380.out 3).trans rfl
  have hfz19_0 := blk_frozen BK380.out 0
  have hfz19_1 := blk_frozen BK380.out 1
  have hfz19_2 := blk_frozen BK380.out 2
  have hfz19_3 := blk_frozen BK380.out 3
  have hcz20_0 : w14.cell? ⟨gb381, 0, none⟩ = some (.int .i64 a2_0) := (blk_cell BK381.out 0).trans rfl
  have hcz20_1 : w14.cell? ⟨gb381, 1, none⟩ = some (.int .i64 a2_1) := (blk_cell BK381.out 1).trans rfl
  have hcz20_2 : w14.cell? ⟨gb381, 2, none⟩ = some (.int .i64 a2_2) := (blk_cell BK381.out 2).trans rfl
  have hcz20_3 : w14.cell? ⟨gb381, 3, none⟩ = some (.int .u64 a2_3) := (blk_cell BK381.out 3).trans rfl
  have hfz20_0 := blk_frozen BK381.out 0
  have hfz20_1 := blk_frozen BK381.out 1
  have hfz20_2 := blk_frozen BK381.out 2
  have hfz20_3 := blk_frozen BK381.out 3
  go_upto_region 4 with (first | ((with_reducible refine gate_dst (N := 23) rfl ?_); (try (refine gate_guard (by rfl) ?_; dsimp only)); refine Kd.R_lit k52 _ 52 ?hg (N := 23) ?hd (xs := ([(⟨a0_0, a0_1, a0_2, a0_3⟩ : S52), (⟨a1_0, a1_1, a1_2, a1_3⟩ : S52), (⟨a2_0, a2_1, a2_2, a2_3⟩ : S52)] : List (S52))) (inner := [.int .i64 a0_0, .int .i64 a0_1, .int .i64 a0_2, .int .u64 a0_3, .int .i64 a1_0, .int .i64 a1_1, .int .i64 a1_2, .int .u64 a1_3, .int .i64 a2_0, .int .i64 a2_1, .int .i64 a2_2, .int .u64 a2_3]) (ok := fun _ => True) (okp := fun _ => True) ?hr ?hp (fun _ hk => hk) trivial (Below.refl _ _) (Nat.le_refl _) (by simp) ?_; (case hd => rfl); (case hg => rfl); (case hr => first | (go_simp; done) | (go_simp; rfl)); (case hp => exact (Reps.c4 (show Kd.M k52 _ _ _ (⟨a0_0, a0_1, a0_2, a0_3⟩ : S52) [.int .i64 a0_0, .int .i64 a0_1, .int .i64 a0_2, .int .u64 a0_3] from (k52_mkM _ _ _ (⟨a0_0, a0_1, a0_2, a0_3⟩ : S52) )) (Reps.c4 (show Kd.M k52 _ _ _ (⟨a1_0, a1_1, a1_2, a1_3⟩ : S52) [.int .i64 a1_0, .int .i64 a1_1, .int .i64 a1_2, .int .u64 a1_3] from (k52_mkM _ _ _ (⟨a1_0, a1_1, a1_2, a1_3⟩ : S52) )) (Reps.c4 (show Kd.M k52 _ _ _ (⟨a2_0, a2_1, a2_2, a2_3⟩ : S52) [.int .i64 a2_0, .int .i64 a2_1, .int .i64 a2_2, .int .u64 a2_3] from (k52_mkM _ _ _ (⟨a2_0, a2_1, a2_2, a2_3⟩ : S52) )) (Reps.none _ _))))); intro v385 w21 ho22 hb hg_ hnew_; clear hg_ hnew_; (first | rw [← Ny384.out] at ho22 | (simp only [Int.reduceToNat] at ho22; rw [← Ny384.out] at ho22)); have n0_ := Aside0.mk (Kd.R_lower (Kd.R_newB (Kd.R_newB (Kd.R_newB ho22 (g := gb379) (o := .cells #[.int .i64 a0_0, .int .i64 a0_1, .int .i64 a0_2, .int .u64 a0_3] 52 (0, 0)) (by (with_reducible repeat (first | refine blk_drewN ?_ _ | refine blk_drew ?_ | refine blk_alloc ?_ _)); exact BK379.out)) (g := gb380) (o := .cells #[.int .i64 a1_0, .int .i64 a1_1, .int .i64 a1_2, .int .u64 a1_3] 52 (0, 0)) (by (with_reducible repeat (first | refine blk_drewN ?_ _ | refine blk_drew ?_ | refine blk_alloc ?_ _)); exact BK380.out)) (g := gb381) (o := .cells #[.int .i64 a2_0, .int .i64 a2_1, .int .i64 a2_2, .int .u64 a2_3] 52 (0, 0)) (by (with_reducible repeat (first | refine blk_drewN ?_ _ | refine blk_drew ?_ | refine blk_alloc ?_ _)); exact BK381.out)) (below_size (by repeat (first | (with_reducible first | exact HB.out | apply below_alloc | apply pw_below_drewN | apply below_drew1 | refine below_set ?_ GE379.out | refine below_set ?_ GE380.out | refine below_set ?_ GE381.out) | exact HB.out)))); have n1_ := Aside0.mk (blk_below (g := gb379) (o := .cells #[.int .i64 a0_0, .int .i64 a0_1, .int .i64 a0_2, .int .u64 a0_3] 52 (0, 0)) (by (with_reducible repeat (first | refine blk_drewN ?_ _ | refine blk_drew ?_ | refine blk_alloc ?_ _)); exact BK379.out) hb); have n2_ := Aside0.mk (blk_below (g := gb380) (o := .cells #[.int .i64 a1_0, .int .i64 a1_1, .int .i64 a1_2, .int .u64 a1_3] 52 (0, 0)) (by (with_reducible repeat (first | refine blk_drewN ?_ _ | refine blk_drew ?_ | refine blk_alloc ?_ _)); exact BK380.out) hb); have n3_ := Aside0.mk (blk_below (g := gb381) (o := .cells #[.int .i64 a2_0, .int .i64 a2_1, .int .i64 a2_2, .int .u64 a2_3] 52 (0, 0)) (by (with_reducible repeat (first | refine blk_drewN ?_ _ | refine blk_drew ?_ | refine blk_alloc ?_ _)); exact BK381.out) hb); have n4_ := Aside0.mk (below_step (by repeat (first | (with_reducible first | exact HB.out | apply below_alloc | apply pw_below_drewN | apply below_drew1 | refine below_set ?_ GE379.out | refine below_set ?_ GE380.out | refine below_set ?_ GE381.out) | exact HB.out)) hb); clear BK379; clear BK380; clear BK381; clear HB; have HO386 := n0_; have BK379 := n1_; have BK380 := n2_; have BK381 := n3_; have HB := n4_; clear n0_ n1_ n2_ n3_ n4_; clear hb ho22; obtain ⟨Ao23, co23, eo23⟩ := Kd.R_slice HO386.out; subst eo23) | ((with_reducible refine gate_callee (f := 27) rfl ?_); refine goesL_ (some 24) rfl rfl Try.func27 (by kernel_rfl) rfl #[.slice none 0 0, .slice Ao23 y384.length co23] rfl (by (try simp only [List.map_toArray, List.map_cons, List.map_nil]); first | done | rfl | (simp only [List.length_drop, List.length_take]; rfl)) ?_; (refine (timer_Add.calls _ _ ([] : List (S52)) _ _ y384 t387 t388 _ ?side1 ?side2 ?side3 ?side4 A6.out).mono ?_); (case side1 => exact Kd.C_nil _ _); (case side2 => exact Nat.le_refl _); (case side3 => repeat (first | exact (Kd.R_reads' HO386.out).2.2 | (with_reducible refine Kd.C_alloc ?_ _) | (with_reducible refine Kd.C_drewN ?_ _) | (with_reducible refine Kd.C_drew ?_))); (case side4 => exact (Kd.R_reads' HO386.out).2.1); rintro e w24 ⟨v389, rfl, ho0, hb⟩; refine ⟨_, rfl, ?_⟩; have n0_ := Aside0.mk (Kd.R_elder' (by (with_reducible repeat (first | apply Kd.R_alloc | apply Kd.R_drewN | apply Kd.R_drew)); exact HO386.out) (Kd.R_base ho0) hb); have n1_ := Aside0.mk (Kd.R_lower (Kd.R_newB (Kd.R_newB (Kd.R_newB (Kd.R_new' ho0 (Kd.R_lt (by (with_reducible repeat (first | apply Kd.R_alloc | apply Kd.R_drewN | apply Kd.R_drew)); exact HO386.out))) (g := gb379) (o := .cells #[.int .i64 a0_0, .int .i64 a0_1, .int .i64 a0_2, .int .u64 a0_3] 52 (0, 0)) (by (with_reducible repeat (first | refine blk_drewN ?_ _ | refine blk_drew ?_ | refine blk_alloc ?_ _)); exact BK379.out)) (g := gb380) (o := .cells #[.int .i64 a1_0, .int .i64 a1_1, .int .i64 a1_2, .int .u64 a1_3] 52 (0, 0)) (by (with_reducible repeat (first | refine blk_drewN ?_ _ | refine blk_drew ?_ | refine blk_alloc ?_ _)); exact BK380.out)) (g := gb381) (o := .cells #[.int .i64 a2_0, .int .i64 a2_1, .int .i64 a2_2, .int .u64 a2_3] 52 (0, 0)) (by (with_reducible repeat (first | refine blk_drewN ?_ _ | refine blk_drew ?_ | refine blk_alloc ?_ _)); exact BK381.out)) (below_size (by repeat (first | (with_reducible first | exact HB.out | apply below_alloc | apply pw_below_drewN | apply below_drew1 | refine below_set ?_ GE379.out | refine below_set ?_ GE380.out | refine below_set ?_ GE381.out) | exact HB.out)))); have n2_ := Aside0.mk (blk_below (g := gb379) (o := .cells #[.int .i64 a0_0, .int .i64 a0_1, .int .i64 a0_2, .int .u64 a0_3] 52 (0, 0)) (by (with_reducible repeat (first | refine blk_drewN ?_ _ | refine blk_drew ?_ | refine blk_alloc ?_ _)); exact BK379.out) hb); have n3_ := Aside0.mk (blk_below (g := gb380) (o := .cells #[.int .i64 a1_0, .int .i64 a1_1, .int .i64 a1_2, .int .u64 a1_3] 52 (0, 0)) (by (with_reducible repeat (first | refine blk_drewN ?_ _ | refine blk_drew ?_ | refine blk_alloc ?_ _)); exact BK380.out) hb); have n4_ := Aside0.mk (blk_below (g := gb381) (o := .cells #[.int .i64 a2_0, .int .i64 a2_1, .int .i64 a2_2, .int .u64 a2_3] 52 (0, 0)) (by (with_reducible repeat (first | refine blk_drewN ?_ _ | refine blk_drew ?_ | refine blk_alloc ?_ _)); exact BK381.out) hb); have n5_ := Aside0.mk (below_step (by repeat (first | (with_reducible first | exact HB.out | apply below_alloc | apply pw_below_drewN | apply below_drew1 | refine below_set ?_ GE379.out | refine below_set ?_ GE380.out | refine below_set ?_ GE381.out) | exact HB.out)) hb); clear HO386; clear BK379; clear BK380; clear BK381; clear HB; have HO386 := n0_; have HO390 := n1_; have BK379 := n2_; have BK380 := n3_; have BK381 := n4_; have HB := n5_; clear n0_ n1_ n2_ n3_ n4_ n5_; (try clear hb); (try clear hb2); (try clear hk); (try clear hi); (try clear ho0); have hcz25_0 : w24.cell? ⟨gb381, 0, none⟩ = some (.int .i64 a2_0) := (blk_cell BK381.out 0).trans rfl; have hcz25_1 : w24.cell? ⟨gb381, 1, none⟩ = some (.int .i64 a2_1) := (blk_cell BK381.out 1).trans rfl; have hcz25_2 : w24.cell? ⟨gb381, 2, none⟩ = some (.int .i64 a2_2) := (blk_cell BK381.out 2).trans rfl; have hcz25_3 : w24.cell? ⟨gb381, 3, none⟩ = some (.int .u64 a2_3) := (blk_cell BK381.out 3).trans rfl; have hfz25_0 := blk_frozen BK381.out 0; have hfz25_1 := blk_frozen BK381.out 1; have hfz25_2 := blk_frozen BK381.out 2; have hfz25_3 := blk_frozen BK381.out 3; have hcz26_0 : w24.cell? ⟨gb380, 0, none⟩ = some (.int .i64 a1_0) := (blk_cell BK380.out 0).trans rfl; have hcz26_1 : w24.cell? ⟨gb380, 1, none⟩ = some (.int .i64 a1_1) := (blk_cell BK380.out 1).trans rfl; have hcz26_2 : w24.cell? ⟨gb380, 2, none⟩ = some (.int .i64 a1_2) := (blk_cell BK380.out 2).trans rfl; have hcz26_3 : w24.cell? ⟨gb380, 3, none⟩ = some (.int .u64 a1_3) := (blk_cell BK380.out 3).trans rfl; have hfz26_0 := blk_frozen BK380.out 0; have hfz26_1 := blk_frozen BK380.out 1; have hfz26_2 := blk_frozen BK380.out 2; have hfz26_3 := blk_frozen BK380.out 3; have hcz27_0 : w24.cell? ⟨gb379, 0, none⟩ = some (.int .i64 a0_0) := (blk_cell BK379.out 0).trans rfl; have hcz27_1 : w24.cell? ⟨gb379, 1, none⟩ = some (.int .i64 a0_1) := (blk_cell BK379.out 1).trans rfl; have hcz27_2 : w24.cell? ⟨gb379, 2, none⟩ = some (.int .i64 a0_2) := (blk_cell BK379.out 2).trans rfl; have hcz27_3 : w24.cell? ⟨gb379, 3, none⟩ = some (.int .u64 a0_3) := (blk_cell BK379.out 3).trans rfl; have hfz27_0 := blk_frozen BK379.out 0; have hfz27_1 := blk_frozen BK379.out 1; have hfz27_2 := blk_frozen BK379.out 2; have hfz27_3 := blk_frozen BK379.out 3) | ((with_reducible refine gate_dst (N := 31) rfl ?_); (try (refine gate_guard (by rfl) ?_; dsimp only)); refine Kd.R_lit k52 _ 52 ?hg (N := 31) ?hd (xs := ([(⟨a2_0, a2_1, a2_2, a2_3⟩ : S52), (⟨a1_0, a1_1, a1_2, a1_3⟩ : S52), (⟨a0_0, a0_1, a0_2, a0_3⟩ : S52)] : List (S52))) (inner := [.int .i64 a2_0, .int .i64 a2_1, .int .i64 a2_2, .int .u64 a2_3, .int .i64 a1_0, .int .i64 a1_1, .int .i64 a1_2, .int .u64 a1_3, .int .i64 a0_0, .int .i64 a0_1, .int .i64 a0_2, .int .u64 a0_3]) (ok := fun _ => True) (okp := fun _ => True) ?hr ?hp (fun _ hk => hk) trivial (Below.refl _ _) (Nat.le_refl _) (by simp) ?_; (case hd => rfl); (case hg => rfl); (case hr => first | (go_simp; done) | (go_simp; rfl)); (case hp => exact (Reps.c4 (show Kd.M k52 _ _ _ (⟨a2_0, a2_1, a2_2, a2_3⟩ : S52) [.int .i64 a2_0, .int .i64 a2_1, .int .i64 a2_2, .int .u64 a2_3] from (k52_mkM _ _ _ (⟨a2_0, a2_1, a2_2, a2_3⟩ : S52) )) (Reps.c4 (show Kd.M k52 _ _ _ (⟨a1_0, a1_1, a1_2, a1_3⟩ : S52) [.int .i64 a1_0, .int .i64 a1_1, .int .i64 a1_2, .int .u64 a1_3] from (k52_mkM _ _ _ (⟨a1_0, a1_1, a1_2, a1_3⟩ : S52) )) (Reps.c4 (show Kd.M k52 _ _ _ (⟨a0_0, a0_1, a0_2, a0_3⟩ : S52) [.int .i64 a0_0, .int .i64 a0_1, .int .i64 a0_2, .int .u64 a0_3] from (k52_mkM _ _ _ (⟨a0_0, a0_1, a0_2, a0_3⟩ : S52) )) (Reps.none _ _))))); intro v392 w28 ho29 hb hg_ hnew_; clear hg_ hnew_; (first | rw [← Ny391.out] at ho29 | (simp only [Int.reduceToNat] at ho29; rw [← Ny391.out] at ho29)); have n0_ := Aside0.mk (Kd.R_elder' (by (with_reducible repeat (first | apply Kd.R_alloc | apply Kd.R_drewN | apply Kd.R_drew)); exact HO386.out) (Kd.R_base ho29) hb); have n1_ := Aside0.mk (Kd.R_elder' (by (with_reducible repeat (first | apply Kd.R_alloc | apply Kd.R_drewN | apply Kd.R_drew)); exact HO390.out) (Kd.R_base ho29) hb); have n2_ := Aside0.mk (Kd.R_lower (Kd.R_newB (Kd.R_newB (Kd.R_newB (Kd.R_new' (Kd.R_new' ho29 (Kd.R_lt (by (with_reducible repeat (first | apply Kd.R_alloc | apply Kd.R_drewN | apply Kd.R_drew)); exact HO386.out))) (Kd.R_lt (by (with_reducible repeat (first | apply Kd.R_alloc | apply Kd.R_drewN | apply Kd.R_drew)); exact HO390.out))) (g := gb379) (o := .cells #[.int .i64 a0_0, .int .i64 a0_1, .int .i64 a0_2, .int .u64 a0_3] 52 (0, 0)) (by (with_reducible repeat (first | refine blk_drewN ?_ _ | refine blk_drew ?_ | refine blk_alloc ?_ _)); exact BK379.out)) (g := gb380) (o := .cells #[.int .i64 a1_0, .int .i64 a1_1, .int .i64 a1_2, .int .u64 a1_3] 52 (0, 0)) (by (with_reducible repeat (first | refine blk_drewN ?_ _ | refine blk_drew ?_ | refine blk_alloc ?_ _)); exact BK380.out)) (g := gb381) (o := .cells #[.int .i64 a2_0, .int .i64 a2_1, .int .i64 a2_2, .int .u64 a2_3] 52 (0, 0)) (by (with_reducible repeat (first | refine blk_drewN ?_ _ | refine blk_drew ?_ | refine blk_alloc ?_ _)); exact BK381.out)) (below_size (by repeat (first | (with_reducible first | exact HB.out | apply below_alloc | apply pw_below_drewN | apply below_drew1 | refine below_set ?_ GE379.out | refine below_set ?_ GE380.out | refine below_set ?_ GE381.out) | exact HB.out)))); have n3_ := Aside0.mk (blk_below (g := gb379) (o := .cells #[.int .i64 a0_0, .int .i64 a0_1, .int .i64 a0_2, .int .u64 a0_3] 52 (0, 0)) (by (with_reducible repeat (first | refine blk_drewN ?_ _ | refine blk_drew ?_ | refine blk_alloc ?_ _)); exact BK379.out) hb); have n4_ := Aside0.mk (blk_below (g := gb380) (o := .cells #[.int .i64 a1_0, .int .i64 a1_1, .int .i64 a1_2, .int .u64 a1_3] 52 (0, 0)) (by (with_reducible repeat (first | refine blk_drewN ?_ _ | refine blk_drew ?_ | refine blk_alloc ?_ _)); exact BK380.out) hb); have n5_ := Aside0.mk (blk_below (g := gb381) (o := .cells #[.int .i64 a2_0, .int .i64 a2_1, .int .i64 a2_2, .int .u64 a2_3] 52 (0, 0)) (by (with_reducible repeat (first | refine blk_drewN ?_ _ | refine blk_drew ?_ | refine blk_alloc ?_ _)); exact BK381.out) hb); have n6_ := Aside0.mk (below_step (by repeat (first | (with_reducible first | exact HB.out | apply below_alloc | apply pw_below_drewN | apply below_drew1 | refine below_set ?_ GE379.out | refine below_set ?_ GE380.out | refine below_set ?_ GE381.out) | exact HB.out)) hb); clear HO386; clear HO390; clear BK379; clear BK380; clear BK381; clear HB; have HO386 := n0_; have HO390 := n1_; have HO393 := n2_; have BK379 := n3_; have BK380 := n4_; have BK381 := n5_; have HB := n6_; clear n0_ n1_ n2_ n3_ n4_ n5_ n6_; clear hb ho29; obtain ⟨Ao30, co30, eo30⟩ := Kd.R_slice HO393.out; subst eo30) | ((with_reducible refine gate_callee (f := 27) rfl ?_); refine goesL_ (some 32) rfl rfl Try.func27 (by kernel_rfl) rfl #[.slice none 0 0, .slice Ao30 y391.length co30] rfl (by (try simp only [List.map_toArray, List.map_cons, List.map_nil]); first | done | rfl | (simp only [List.length_drop, List.length_take]; rfl)) ?_; (refine (timer_Add.calls _ _ ([] : List (S52)) _ _ y391 t394 t395 _ ?side1 ?side2 ?side3 ?side4 A7.out).mono ?_); (case side1 => exact Kd.C_nil _ _); (case side2 => exact Nat.le_refl _); (case side3 => repeat (first | exact (Kd.R_reads' HO393.out).2.2 | (with_reducible refine Kd.C_alloc ?_ _) | (with_reducible refine Kd.C_drewN ?_ _) | (with_reducible refine Kd.C_drew ?_))); (case side4 => exact (Kd.R_reads' HO393.out).2.1); rintro e w31 ⟨v396, rfl, ho0, hb⟩; refine ⟨_, rfl, ?_⟩; have n0_ := Aside0.mk (Kd.R_elder' (by (with_reducible repeat (first | apply Kd.R_alloc | apply Kd.R_drewN | apply Kd.R_drew)); exact HO386.out) (Kd.R_base ho0) hb); have n1_ := Aside0.mk (Kd.R_elder' (by (with_reducible repeat (first | apply Kd.R_alloc | apply Kd.R_drewN | apply Kd.R_drew)); exact HO390.out) (Kd.R_base ho0) hb); have n2_ := Aside0.mk (Kd.R_elder' (by (with_reducible repeat (first | apply Kd.R_alloc | apply Kd.R_drewN | apply Kd.R_drew)); exact HO393.out) (Kd.R_base ho0) hb); have n3_ := Aside0.mk (Kd.R_lower (Kd.R_newB (Kd.R_newB (Kd.R_newB (Kd.R_new' (Kd.R_new' (Kd.R_new' ho0 (Kd.R_lt (by (with_reducible repeat (first | apply Kd.R_alloc | apply Kd.R_drewN | apply Kd.R_drew)); exact HO386.out))) (Kd.R_lt (by (with_reducible repeat (first | apply Kd.R_alloc | apply Kd.R_drewN | apply Kd.R_drew)); exact HO390.out))) (Kd.R_lt (by (with_reducible repeat (first | apply Kd.R_alloc | apply Kd.R_drewN | apply Kd.R_drew)); exact HO393.out))) (g := gb379) (o := .cells #[.int .i64 a0_0, .int .i64 a0_1, .int .i64 a0_2, .int .u64 a0_3] 52 (0, 0)) (by (with_reducible repeat (first | refine blk_drewN ?_ _ | refine blk_drew ?_ | refine blk_alloc ?_ _)); exact BK379.out)) (g := gb380) (o := .cells #[.int .i64 a1_0, .int .i64 a1_1, .int .i64 a1_2, .int .u64 a1_3] 52 (0, 0)) (by (with_reducible repeat (first | refine blk_drewN ?_ _ | refine blk_drew ?_ | refine blk_alloc ?_ _)); exact BK380.out)) (g := gb381) (o := .cells #[.int .i64 a2_0, .int .i64 a2_1, .int .i64 a2_2, .int .u64 a2_3] 52 (0, 0)) (by (with_reducible repeat (first | refine blk_drewN ?_ _ | refine blk_drew ?_ | refine blk_alloc ?_ _)); exact BK381.out)) (below_size (by repeat (first | (with_reducible first | exact HB.out | apply below_alloc | apply pw_below_drewN | apply below_drew1 | refine below_set ?_ GE379.out | refine below_set ?_ GE380.out | refine below_set ?_ GE381.out) | exact HB.out)))); have n4_ := Aside0.mk (blk_below (g := gb379) (o := .cells #[.int .i64 a0_0, .int .i64 a0_1, .int .i64 a0_2, .int .u64 a0_3] 52 (0, 0)) (by (with_reducible repeat (first | refine blk_drewN ?_ _ | refine blk_drew ?_ | refine blk_alloc ?_ _)); exact BK379.out) hb); have n5_ := Aside0.mk (blk_below (g := gb380) (o := .cells #[.int .i64 a1_0, .int .i64 a1_1, .int .i64 a1_2, .int .u64 a1_3] 52 (0, 0)) (by (with_reducible repeat (first | refine blk_drewN ?_ _ | refine blk_drew ?_ | refine blk_alloc ?_ _)); exact BK380.out) hb); have n6_ := Aside0.mk (blk_below (g := gb381) (o := .cells #[.int .i64 a2_0, .int .i64 a2_1, .int .i64 a2_2, .int .u64 a2_3] 52 (0, 0)) (by (with_reducible repeat (first | refine blk_drewN ?_ _ | refine blk_drew ?_ | refine blk_alloc ?_ _)); exact BK381.out) hb); have n7_ := Aside0.mk (below_step (by repeat (first | (with_reducible first | exact HB.out | apply below_alloc | apply pw_below_drewN | apply below_drew1 | refine below_set ?_ GE379.out | refine below_set ?_ GE380.out | refine below_set ?_ GE381.out) | exact HB.out)) hb); clear HO386; clear HO390; clear HO393; clear BK379; clear BK380; clear BK381; clear HB; have HO386 := n0_; have HO390 := n1_; have HO393 := n2_; have HO397 := n3_; have BK379 := n4_; have BK380 := n5_; have BK381 := n6_; have HB := n7_; clear n0_ n1_ n2_ n3_ n4_ n5_ n6_ n7_; (try clear hb); (try clear hb2); (try clear hk); (try clear hi); (try clear ho0)))
  (try simp only [Act.put, List.setIfInBounds_toArray, List.set_cons_zero, List.set_cons_succ])
  go_cut [51] (fun v51 wc => ∃ (kq : Nat) (x51_7 : Bool), v51 = .bool x51_7 ∧ Aside0 (tattlelaw03_TimerOrders.j0 kq t382 t383 t387 x51_7 a0_0 a0_1 a0_2 a0_3 a1_0 a1_1 a1_2 a1_3 a2_0 a2_1 a2_2 a2_3 = some r) ∧ Aside0 (kq ≤ k) ∧ Aside0 (Kd.R k52 52 wc w.heap.size (fun k_ => k_ ≠ gb379 ∧ k_ ≠ gb380 ∧ k_ ≠ gb381) v389 t387) ∧ Aside0 (wc.heap[gb379]? = some (.cells #[.int .i64 a0_0, .int .i64 a0_1, .int .i64 a0_2, .int .u64 a0_3] 52 (0, 0))) ∧ Aside0 (wc.heap[gb380]? = some (.cells #[.int .i64 a1_0, .int .i64 a1_1, .int .i64 a1_2, .int .u64 a1_3] 52 (0, 0))) ∧ Aside0 (wc.heap[gb381]? = some (.cells #[.int .i64 a2_0, .int .i64 a2_1, .int .i64 a2_2, .int .u64 a2_3] 52 (0, 0))) ∧ Aside0 (Below w.heap.size w wc))
  case first =>
    have H := HC8.out
    clear HC8
    by_cases c32 : t388 = 0
    · rw [if_pos c32] at H
      have c32b0 : (t388 == 0) = true := beq_iff_eq.mpr c32
      have c32b1 : (t388 != 0) = false := bne_eq_false_iff_eq.mpr c32
      clear c32
      (first | rw [c32b0] | (simp only [i64_w, i32_w]; rw [c32b0]) | skip)
      by_cases c33 : t395 = 0
      · rw [if_pos c33] at H
        have c33b0 : (t395 == 0) = true := beq_iff_eq.mpr c33
        have c33b1 : (t395 != 0) = false := bne_eq_false_iff_eq.mpr c33
        clear c33
        replace H := Option.bind_eq_some_iff.mp H
        obtain ⟨t398, A340, H⟩ := H
        replace H : (if t398 = true then (tattlelaw03_TimerOrders.j0 k t382 t383 t387 ((t387.length : Int) != 3) a0_0 a0_1 a0_2 a0_3 a1_0 a1_1 a1_2 a1_3 a2_0 a2_1 a2_2 a2_3) else (tattlelaw03_TimerOrders.j0 k t382 t383 t387 true a0_0 a0_1 a0_2 a0_3 a1_0 a1_1 a1_2 a1_3 a2_0 a2_1 a2_2 a2_3)) = some r := H
        have A34 := Aside0.mk A340
        clear A340
        by_cases c35 : t398 = true
        · subst c35
          have H1 : (tattlelaw03_TimerOrders.j0 k t382 t383 t387 ((t387.length : Int) != 3) a0_0 a0_1 a0_2 a0_3 a1_0 a1_1 a1_2 a1_3 a2_0 a2_1 a2_2 a2_3) = some r := by rw [if_pos rfl] at H; exact H
          clear H
          have H := H1
          clear H1
          have H' := Aside0.mk H
          clear H
          obtain ⟨Ao36, co36, eo36⟩ := Kd.R_slice HO390.out
          subst eo36
          obtain ⟨Ao37, co37, eo37⟩ := Kd.R_slice HO397.out
          subst eo37
          go_wp2_with (first | (go_at_call 28; (with_reducible refine (tattleref03_Same.calls k _ _ t387 _ _ t394 true _ ?side1 ?side2 ?side3 ?side4 A34.out).mono ?_); (case side1 => repeat (first | exact (Kd.R_reads' HO390.out).2.2 | (with_reducible refine Kd.C_alloc ?_ _) | (with_reducible refine Kd.C_drewN ?_ _) | (with_reducible refine Kd.C_drew ?_))); (case side2 => exact (Kd.R_reads' HO390.out).2.1); (case side3 => repeat (first | exact (Kd.R_reads' HO397.out).2.2 | (with_reducible refine Kd.C_alloc ?_ _) | (with_reducible refine Kd.C_drewN ?_ _) | (with_reducible refine Kd.C_drew ?_))); (case side4 => exact (Kd.R_reads' HO397.out).2.1); rintro e w' ⟨rfl, ⟨nd, rfl⟩⟩))
          go_meet
          case rel => exact ⟨_, (((t387.length : Int) != 3)), (by first | rfl | (simp; done) | (simp [*]; done)), H', ⟨by first | omega | exact Nat.le_refl _⟩, ⟨by (with_reducible repeat (first | apply Kd.R_alloc | apply Kd.R_drewN | apply Kd.R_drew)); exact Kd.R_mono HO390.out (fun _ hk => ⟨hk.1.1.1.1.2, ⟨hk.1.1.1.2, hk.1.1.2⟩⟩)⟩, ⟨by (with_reducible repeat (first | refine blk_drewN ?_ _ | refine blk_drew ?_ | refine blk_alloc ?_ _)); exact BK379.out⟩, ⟨by (with_reducible repeat (first | refine blk_drewN ?_ _ | refine blk_drew ?_ | refine blk_alloc ?_ _)); exact BK380.out⟩, ⟨by (with_reducible repeat (first | refine blk_drewN ?_ _ | refine blk_drew ?_ | refine blk_alloc ?_ _)); exact BK381.out⟩, ⟨by repeat (first | (with_reducible first | exact HB.out | apply below_alloc | apply pw_below_drewN | apply below_drew1 | refine below_set ?_ GE379.out | refine below_set ?_ GE380.out | refine below_set ?_ GE381.out) | exact HB.out)⟩⟩
        · replace c35 := Bool.eq_false_iff.mpr c35
          subst c35
          have H1 : (tattlelaw03_TimerOrders.j0 k t382 t383 t387 true a0_0 a0_1 a0_2 a0_3 a1_0 a1_1 a1_2 a1_3 a2_0 a2_1 a2_2 a2_3) = some r := by rw [if_neg (show ¬ (false = true) by decide)] at H; exact H
          clear H
          have H := H1
          clear H1
          have H' := Aside0.mk H
          clear H
          obtain ⟨Ao38, co38, eo38⟩ := Kd.R_slice HO390.out
          subst eo38
          obtain ⟨Ao39, co39, eo39⟩ := Kd.R_slice HO397.out
          subst eo39
          go_wp2_with (first | (go_at_call 28; (with_reducible refine (tattleref03_Same.calls k _ _ t387 _ _ t394 false _ ?side1 ?side2 ?side3 ?side4 A34.out).mono ?_); (case side1 => repeat (first | exact (Kd.R_reads' HO390.out).2.2 | (with_reducible refine Kd.C_alloc ?_ _) | (with_reducible refine Kd.C_drewN ?_ _) | (with_reducible refine Kd.C_drew ?_))); (case side2 => exact (Kd.R_reads' HO390.out).2.1); (case side3 => repeat (first | exact (Kd.R_reads' HO397.out).2.2 | (with_reducible refine Kd.C_alloc ?_ _) | (with_reducible refine Kd.C_drewN ?_ _) | (with_reducible refine Kd.C_drew ?_))); (case side4 => exact (Kd.R_reads' HO397.out).2.1); rintro e w' ⟨rfl, ⟨nd, rfl⟩⟩))
          go_meet
          case rel => exact ⟨_, (true), (by first | rfl | (simp; done) | (simp [*]; done)), H', ⟨by first | omega | exact Nat.le_refl _⟩, ⟨by (with_reducible repeat (first | apply Kd.R_alloc | apply Kd.R_drewN | apply Kd.R_drew)); exact Kd.R_mono HO390.out (fun _ hk => ⟨hk.1.1.1.1.2, ⟨hk.1.1.1.2, hk.1.1.2⟩⟩)⟩, ⟨by (with_reducible repeat (first | refine blk_drewN ?_ _ | refine blk_drew ?_ | refine blk_alloc ?_ _)); exact BK379.out⟩, ⟨by (with_reducible repeat (first | refine blk_drewN ?_ _ | refine blk_drew ?_ | refine blk_alloc ?_ _)); exact BK380.out⟩, ⟨by (with_reducible repeat (first | refine blk_drewN ?_ _ | refine blk_drew ?_ | refine blk_alloc ?_ _)); exact BK381.out⟩, ⟨by repeat (first | (with_reducible first | exact HB.out | apply below_alloc | apply pw_below_drewN | apply below_drew1 | refine below_set ?_ GE379.out | refine below_set ?_ GE380.out | refine below_set ?_ GE381.out) | exact HB.out)⟩⟩
      · rw [if_neg c33] at H
        have c33b0 : (t395 == 0) = false := beq_eq_false_iff_ne.mpr c33
        have c33b1 : (t395 != 0) = true := bne_iff_ne.mpr c33
        have H' := Aside0.mk H
        clear H
        go_wp2
        go_meet
        case rel => exact ⟨_, (true), (by first | rfl | (simp; done) | (simp [*]; done)), H', ⟨by first | omega | exact Nat.le_refl _⟩, ⟨by (with_reducible repeat (first | apply Kd.R_alloc | apply Kd.R_drewN | apply Kd.R_drew)); exact Kd.R_mono HO390.out (fun _ hk => ⟨hk.1.1.1.1.2, ⟨hk.1.1.1.2, hk.1.1.2⟩⟩)⟩, ⟨by (with_reducible repeat (first | refine blk_drewN ?_ _ | refine blk_drew ?_ | refine blk_alloc ?_ _)); exact BK379.out⟩, ⟨by (with_reducible repeat (first | refine blk_drewN ?_ _ | refine blk_drew ?_ | refine blk_alloc ?_ _)); exact BK380.out⟩, ⟨by (with_reducible repeat (first | refine blk_drewN ?_ _ | refine blk_drew ?_ | refine blk_alloc ?_ _)); exact BK381.out⟩, ⟨by repeat (first | (with_reducible first | exact HB.out | apply below_alloc | apply pw_below_drewN | apply below_drew1 | refine below_set ?_ GE379.out | refine below_set ?_ GE380.out | refine below_set ?_ GE381.out) | exact HB.out)⟩⟩
    · rw [if_neg c32] at H
      have c32b0 : (t388 == 0) = false := beq_eq_false_iff_ne.mpr c32
      have c32b1 : (t388 != 0) = true := bne_iff_ne.mpr c32
      (first | rw [c32b0] | (simp only [i64_w, i32_w]; rw [c32b0]) | skip)
      have H' := Aside0.mk H
      clear H
      go_wp2
      go_meet
      case rel => exact ⟨_, (true), (by first | rfl | (simp; done) | (simp [*]; done)), H', ⟨by first | omega | exact Nat.le_refl _⟩, ⟨by (with_reducible repeat (first | apply Kd.R_alloc | apply Kd.R_drewN | apply Kd.R_drew)); exact Kd.R_mono HO390.out (fun _ hk => ⟨hk.1.1.1.1.2, ⟨hk.1.1.1.2, hk.1.1.2⟩⟩)⟩, ⟨by (with_reducible repeat (first | refine blk_drewN ?_ _ | refine blk_drew ?_ | refine blk_alloc ?_ _)); exact BK379.out⟩, ⟨by (with_reducible repeat (first | refine blk_drewN ?_ _ | refine blk_drew ?_ | refine blk_alloc ?_ _)); exact BK380.out⟩, ⟨by (with_reducible repeat (first | refine blk_drewN ?_ _ | refine blk_drew ?_ | refine blk_alloc ?_ _)); exact BK381.out⟩, ⟨by repeat (first | (with_reducible first | exact HB.out | apply below_alloc | apply pw_below_drewN | apply below_drew1 | refine below_set ?_ GE379.out | refine below_set ?_ GE380.out | refine below_set ?_ GE381.out) | exact HB.out)⟩⟩
  case rest =>
    clear HC8
    try clear c1
    try clear c2
    try clear p2
    try clear c3
    try clear c4
    try clear c9
    try clear c15
    try clear c16
    try clear c18
    try clear c26
    try clear c27
    try clear c32
    try clear c32b0
    try clear c32b1
    try clear c33
    try clear c33b0
    try clear c33b1
    try clear c35
    try clear hcz17_0
    try clear hcz17_1
    try clear hcz17_2
    try clear hcz17_3
    try clear hcz19_0
    try clear hcz19_1
    try clear hcz19_2
    try clear hcz19_3
    try clear hcz20_0
    try clear hcz20_1
    try clear hcz20_2
    try clear hcz20_3
    try clear hcz25_0
    try clear hcz25_1
    try clear hcz25_2
    try clear hcz25_3
    try clear hcz26_0
    try clear hcz26_1
    try clear hcz26_2
    try clear hcz26_3
    try clear hcz27_0
    try clear hcz27_1
    try clear hcz27_2
    try clear hcz27_3
    try clear hfz17_0
    try clear hfz17_1
    try clear hfz17_2
    try clear hfz17_3
    try clear hfz19_0
    try clear hfz19_1
    try clear hfz19_2
    try clear hfz19_3
    try clear hfz20_0
    try clear hfz20_1
    try clear hfz20_2
    try clear hfz20_3
    try clear hfz25_0
    try clear hfz25_1
    try clear hfz25_2
    try clear hfz25_3
    try clear hfz26_0
    try clear hfz26_1
    try clear hfz26_2
    try clear hfz26_3
    try clear hfz27_0
    try clear hfz27_1
    try clear hfz27_2
    try clear hfz27_3
    obtain ⟨kq, x51_7, rfl, HA, HJ7, HO_9, BK379, BK380, BK381, HB⟩ := hcut
    cases kq with
    | zero => exact absurd HA.out (by simp [tattlelaw03_TimerOrders.j0])
    | succ kj7 =>
      have H := HA.out
      clear HA
      simp only [tattlelaw03_TimerOrders.j0] at H
      by_cases c40 : x51_7 = true
      · subst c40
        have H1 : (some false) = some r := by rw [if_pos rfl] at H; exact H
        clear H
        have H := H1
        clear H1
        exact absurd ((Option.some.inj H).trans hrt.out) (by decide)
      · replace c40 := Bool.eq_false_iff.mpr c40
        subst c40
        have H1 : (if t382 = true then (if t383 = true then (tattlelaw03_TimerOrders.j1 kj7 t387 true) else (if (a0_0 == a1_0 && (a0_1 == a1_1 && (a0_2 == a1_2 && (a0_3 == a1_3)))) = true then (tattlelaw03_TimerOrders.j1 kj7 t387 true) else ((timer_Less.f kj7 a1_0 a1_1 a1_2 a1_3 a2_0 a2_1 a2_2 a2_3).bind fun t399 => (if t399 = true then ((timer_Less.f kj7 a0_0 a0_1 a0_2 a0_3 a2_0 a2_1 a2_2 a2_3).bind fun t400 => (tattlelaw03_TimerOrders.j1 kj7 t387 (!t400))) else (tattlelaw03_TimerOrders.j1 kj7 t387 false))))) else (if t383 = true then (if (a0_0 == a1_0 && (a0_1 == a1_1 && (a0_2 == a1_2 && (a0_3 == a1_3)))) = true then (tattlelaw03_TimerOrders.j1 kj7 t387 true) else (tattlelaw03_TimerOrders.j1 kj7 t387 false)) else (if (!(a0_0 == a1_0) || (!(a0_1 == a1_1) || (!(a0_2 == a1_2) || (!(a0_3 == a1_3))))) = true then (tattlelaw03_TimerOrders.j1 kj7 t387 true) else (tattlelaw03_TimerOrders.j1 kj7 t387 false)))) = some r := by rw [if_neg (show ¬ (false = true) by decide)] at H; exact H
        clear H
        have H := H1
        clear H1
        have HC41 := Aside0.mk H
        clear H
        go_upto_region 6 with (fail)
        go_cut [81] (fun v81 wc => ∃ (kq : Nat) (x81_40 : Bool), v81 = .bool x81_40 ∧ Aside0 (tattlelaw03_TimerOrders.j1 kq t387 x81_40 = some r) ∧ Aside0 (kq ≤ kj7) ∧ Aside0 (Kd.R k52 52 wc w.heap.size (fun k_ => k_ ≠ gb379 ∧ k_ ≠ gb380 ∧ k_ ≠ gb381) v389 t387) ∧ Aside0 (wc.heap[gb379]? = some (.cells #[.int .i64 a0_0, .int .i64 a0_1, .int .i64 a0_2, .int .u64 a0_3] 52 (0, 0))) ∧ Aside0 (wc.heap[gb380]? = some (.cells #[.int .i64 a1_0, .int .i64 a1_1, .int .i64 a1_2, .int .u64 a1_3] 52 (0, 0))) ∧ Aside0 (wc.heap[gb381]? = some (.cells #[.int .i64 a2_0, .int .i64 a2_1, .int .i64 a2_2, .int .u64 a2_3] 52 (0, 0))) ∧ Aside0 (Below w.heap.size w wc))
        case first =>
          have H := HC41.out
          clear HC41
          by_cases c42 : t382 = true
          · subst c42
            have H1 : (if t383 = true then (tattlelaw03_TimerOrders.j1 kj7 t387 true) else (if (a0_0 == a1_0 && (a0_1 == a1_1 && (a0_2 == a1_2 && (a0_3 == a1_3)))) = true then (tattlelaw03_TimerOrders.j1 kj7 t387 true) else ((timer_Less.f kj7 a1_0 a1_1 a1_2 a1_3 a2_0 a2_1 a2_2 a2_3).bind fun t399 => (if t399 = true then ((timer_Less.f kj7 a0_0 a0_1 a0_2 a0_3 a2_0 a2_1 a2_2 a2_3).bind fun t400 => (tattlelaw03_TimerOrders.j1 kj7 t387 (!t400))) else (tattlelaw03_TimerOrders.j1 kj7 t387 false))))) = some r := by rw [if_pos rfl] at H; exact H
            clear H
            have H := H1
            clear H1
            by_cases c43 : t383 = true
            · subst c43
              have H1 : (tattlelaw03_TimerOrders.j1 kj7 t387 true) = some r := by rw [if_pos rfl] at H; exact H
              clear H
              have H := H1
              clear H1
              have H' := Aside0.mk H
              clear H
              go_wp2
              go_meet
              case rel => exact ⟨_, (true), (by first | rfl | (simp; done) | (simp [*]; done)), H', ⟨by have := HJ7.out; first | omega | exact Nat.le_refl _⟩, ⟨by (with_reducible repeat (first | apply Kd.R_alloc | apply Kd.R_drewN | apply Kd.R_drew)); exact HO_9.out⟩, ⟨by (with_reducible repeat (first | refine blk_drewN ?_ _ | refine blk_drew ?_ | refine blk_alloc ?_ _)); exact BK379.out⟩, ⟨by (with_reducible repeat (first | refine blk_drewN ?_ _ | refine blk_drew ?_ | refine blk_alloc ?_ _)); exact BK380.out⟩, ⟨by (with_reducible repeat (first | refine blk_drewN ?_ _ | refine blk_drew ?_ | refine blk_alloc ?_ _)); exact BK381.out⟩, ⟨by repeat (first | (with_reducible first | exact HB.out | apply below_alloc | apply pw_below_drewN | apply below_drew1 | refine below_set ?_ GE379.out | refine below_set ?_ GE380.out | refine below_set ?_ GE381.out) | exact HB.out)⟩⟩
            · replace c43 := Bool.eq_false_iff.mpr c43
              subst c43
              have H1 : (if (a0_0 == a1_0 && (a0_1 == a1_1 && (a0_2 == a1_2 && (a0_3 == a1_3)))) = true then (tattlelaw03_TimerOrders.j1 kj7 t387 true) else ((timer_Less.f kj7 a1_0 a1_1 a1_2 a1_3 a2_0 a2_1 a2_2 a2_3).bind fun t399 => (if t399 = true then ((timer_Less.f kj7 a0_0 a0_1 a0_2 a0_3 a2_0 a2_1 a2_2 a2_3).bind fun t400 => (tattlelaw03_TimerOrders.j1 kj7 t387 (!t400))) else (tattlelaw03_TimerOrders.j1 kj7 t387 false)))) = some r := by rw [if_neg (show ¬ (false = true) by decide)] at H; exact H
              clear H
              have H := H1
              clear H1
              by_cases c44 : (a0_0 == a1_0 && (a0_1 == a1_1 && (a0_2 == a1_2 && (a0_3 == a1_3)))) = true
              · rw [if_pos c44] at H
                have c44b0 : (a0_0 == a1_0 && (a0_1 == a1_1 && (a0_2 == a1_2 && (a0_3 == a1_3)))) = true := c44
                (try (have c44b1 : decide (a0_0 = a1_0 && (a0_1 == a1_1 && (a0_2 == a1_2 && (a0_3 == a1_3)))) = true := by simpa using c44))
                (try (have c44b2 : (a0_0 == a1_0 && (a0_1 == a1_1 && (a0_2 == a1_2 && (a0_3 == a1_3)))) = true := by simpa using c44))
                clear c44
                (first | rw [c44b0] | (simp only [i64_w, i32_w]; rw [c44b0]) | skip)
                have H' := Aside0.mk H
                clear H
                have hnb45 := NB379_380.out
                have hnc45 := NB380_379.out
                have hnb46 := NB379_381.out
                have hnc46 := NB381_379.out
                have hcz47_0 : wc.cell? ⟨gb379, 0, none⟩ = some (.int .i64 a0_0) := (blk_cell BK379.out 0).trans rfl
                have hcz47_1 : wc.cell? ⟨gb379, 1, none⟩ = some (.int .i64 a0_1) := (blk_cell BK379.out 1).trans rfl
                have hcz47_2 : wc.cell? ⟨gb379, 2, none⟩ = some (.int .i64 a0_2) := (blk_cell BK379.out 2).trans rfl
                have hcz47_3 : wc.cell? ⟨gb379, 3, none⟩ = some (.int .u64 a0_3) := (blk_cell BK379.out 3).trans rfl
                have hfz47_0 := blk_frozen BK379.out 0
                have hfz47_1 := blk_frozen BK379.out 1
                have hfz47_2 := blk_frozen BK379.out 2
                have hfz47_3 := blk_frozen BK379.out 3
                have hnb48 := NB380_381.out
                have hnc48 := NB381_380.out
                have hcz49_0 : wc.cell? ⟨gb380, 0, none⟩ = some (.int .i64 a1_0) := (blk_cell BK380.out 0).trans rfl
                have hcz49_1 : wc.cell? ⟨gb380, 1, none⟩ = some (.int .i64 a1_1) := (blk_cell BK380.out 1).trans rfl
                have hcz49_2 : wc.cell? ⟨gb380, 2, none⟩ = some (.int .i64 a1_2) := (blk_cell BK380.out 2).trans rfl
                have hcz49_3 : wc.cell? ⟨gb380, 3, none⟩ = some (.int .u64 a1_3) := (blk_cell BK380.out 3).trans rfl
                have hfz49_0 := blk_frozen BK380.out 0
                have hfz49_1 := blk_frozen BK380.out 1
                have hfz49_2 := blk_frozen BK380.out 2
                have hfz49_3 := blk_frozen BK380.out 3
                go_wp2
                go_meet
                case rel => exact ⟨_, (true), (by first | rfl | (simp; done) | (simp [*]; done)), H', ⟨by have := HJ7.out; first | omega | exact Nat.le_refl _⟩, ⟨by (with_reducible repeat (first | apply Kd.R_alloc | apply Kd.R_drewN | apply Kd.R_drew)); exact HO_9.out⟩, ⟨by (with_reducible repeat (first | refine blk_drewN ?_ _ | refine blk_drew ?_ | refine blk_alloc ?_ _)); exact BK379.out⟩, ⟨by (with_reducible repeat (first | refine blk_drewN ?_ _ | refine blk_drew ?_ | refine blk_alloc ?_ _)); exact BK380.out⟩, ⟨by (with_reducible repeat (first | refine blk_drewN ?_ _ | refine blk_drew ?_ | refine blk_alloc ?_ _)); exact BK381.out⟩, ⟨by repeat (first | (with_reducible first | exact HB.out | apply below_alloc | apply pw_below_drewN | apply below_drew1 | refine below_set ?_ GE379.out | refine below_set ?_ GE380.out | refine below_set ?_ GE381.out) | exact HB.out)⟩⟩
              · rw [if_neg c44] at H
                have c44b0 : (a0_0 == a1_0 && (a0_1 == a1_1 && (a0_2 == a1_2 && (a0_3 == a1_3)))) = false := by simpa using c44
                (try (have c44b1 : decide (a0_0 = a1_0 && (a0_1 == a1_1 && (a0_2 == a1_2 && (a0_3 == a1_3)))) = false := by simpa using c44))
                (try (have c44b2 : (a0_0 == a1_0 && (a0_1 == a1_1 && (a0_2 == a1_2 && (a0_3 == a1_3)))) = false := by simpa using c44))
                (try (have c44b3 : ¬ (a0_0 = a1_0 && (a0_1 == a1_1 && (a0_2 == a1_2 && (a0_3 == a1_3)))) := by simpa using c44))
                clear c44
                (first | rw [c44b0] | (simp only [i64_w, i32_w]; rw [c44b0]) | skip)
                replace H := Option.bind_eq_some_iff.mp H
                obtain ⟨t399, A500, H⟩ := H
                replace H : (if t399 = true then ((timer_Less.f kj7 a0_0 a0_1 a0_2 a0_3 a2_0 a2_1 a2_2 a2_3).bind fun t400 => (tattlelaw03_TimerOrders.j1 kj7 t387 (!t400))) else (tattlelaw03_TimerOrders.j1 kj7 t387 false)) = some r := H
                have A50 := Aside0.mk A500
                clear A500
                by_cases c51 : t399 = true
                · subst c51
                  have H1 : ((timer_Less.f kj7 a0_0 a0_1 a0_2 a0_3 a2_0 a2_1 a2_2 a2_3).bind fun t400 => (tattlelaw03_TimerOrders.j1 kj7 t387 (!t400))) = some r := by rw [if_pos rfl] at H; exact H
                  clear H
                  have H := H1
                  clear H1
                  replace H := Option.bind_eq_some_iff.mp H
                  obtain ⟨t400, A520, H⟩ := H
                  replace H : (tattlelaw03_TimerOrders.j1 kj7 t387 (!t400)) = some r := H
                  have A52 := Aside0.mk A520
                  clear A520
                  have H' := Aside0.mk H
                  clear H
                  have hnb53 := NB379_380.out
                  have hnc53 := NB380_379.out
                  have hnb54 := NB379_381.out
                  have hnc54 := NB381_379.out
                  have hcz55_0 : wc.cell? ⟨gb379, 0, none⟩ = some (.int .i64 a0_0) := (blk_cell BK379.out 0).trans rfl
                  have hcz55_1 : wc.cell? ⟨gb379, 1, none⟩ = some (.int .i64 a0_1) := (blk_cell BK379.out 1).trans rfl
                  have hcz55_2 : wc.cell? ⟨gb379, 2, none⟩ = some (.int .i64 a0_2) := (blk_cell BK379.out 2).trans rfl
                  have hcz55_3 : wc.cell? ⟨gb379, 3, none⟩ = some (.int .u64 a0_3) := (blk_cell BK379.out 3).trans rfl
                  have hfz55_0 := blk_frozen BK379.out 0
                  have hfz55_1 := blk_frozen BK379.out 1
                  have hfz55_2 := blk_frozen BK379.out 2
                  have hfz55_3 := blk_frozen BK379.out 3
                  have hnb56 := NB380_381.out
                  have hnc56 := NB381_380.out
                  have hcz57_0 : wc.cell? ⟨gb380, 0, none⟩ = some (.int .i64 a1_0) := (blk_cell BK380.out 0).trans rfl
                  have hcz57_1 : wc.cell? ⟨gb380, 1, none⟩ = some (.int .i64 a1_1) := (blk_cell BK380.out 1).trans rfl
                  have hcz57_2 : wc.cell? ⟨gb380, 2, none⟩ = some (.int .i64 a1_2) := (blk_cell BK380.out 2).trans rfl
                  have hcz57_3 : wc.cell? ⟨gb380, 3, none⟩ = some (.int .u64 a1_3) := (blk_cell BK380.out 3).trans rfl
                  have hfz57_0 := blk_frozen BK380.out 0
                  have hfz57_1 := blk_frozen BK380.out 1
                  have hfz57_2 := blk_frozen BK380.out 2
                  have hfz57_3 := blk_frozen BK380.out 3
                  have hcz58_0 : wc.cell? ⟨gb381, 0, none⟩ = some (.int .i64 a2_0) := (blk_cell BK381.out 0).trans rfl
                  have hcz58_1 : wc.cell? ⟨gb381, 1, none⟩ = some (.int .i64 a2_1) := (blk_cell BK381.out 1).trans rfl
                  have hcz58_2 : wc.cell? ⟨gb381, 2, none⟩ = some (.int .i64 a2_2) := (blk_cell BK381.out 2).trans rfl
                  have hcz58_3 : wc.cell? ⟨gb381, 3, none⟩ = some (.int .u64 a2_3) := (blk_cell BK381.out 3).trans rfl
                  have hfz58_0 := blk_frozen BK381.out 0
                  have hfz58_1 := blk_frozen BK381.out 1
                  have hfz58_2 := blk_frozen BK381.out 2
                  have hfz58_3 := blk_frozen BK381.out 3
                  go_wp2_with (first | (go_at_call 26; (with_reducible refine (timer_Less.calls kj7 a1_0 a1_1 a1_2 a1_3 a2_0 a2_1 a2_2 a2_3 true _ A50.out).mono ?_); rintro e w59 ⟨rfl, hb⟩; have n0_ := Aside0.mk (Kd.R_below (by (with_reducible repeat (first | apply Kd.R_alloc | apply Kd.R_drewN | apply Kd.R_drew)); exact HO_9.out) hb); have n1_ := Aside0.mk (blk_below (g := gb379) (o := .cells #[.int .i64 a0_0, .int .i64 a0_1, .int .i64 a0_2, .int .u64 a0_3] 52 (0, 0)) (by (with_reducible repeat (first | refine blk_drewN ?_ _ | refine blk_drew ?_ | refine blk_alloc ?_ _)); exact BK379.out) hb); have n2_ := Aside0.mk (blk_below (g := gb380) (o := .cells #[.int .i64 a1_0, .int .i64 a1_1, .int .i64 a1_2, .int .u64 a1_3] 52 (0, 0)) (by (with_reducible repeat (first | refine blk_drewN ?_ _ | refine blk_drew ?_ | refine blk_alloc ?_ _)); exact BK380.out) hb); have n3_ := Aside0.mk (blk_below (g := gb381) (o := .cells #[.int .i64 a2_0, .int .i64 a2_1, .int .i64 a2_2, .int .u64 a2_3] 52 (0, 0)) (by (with_reducible repeat (first | refine blk_drewN ?_ _ | refine blk_drew ?_ | refine blk_alloc ?_ _)); exact BK381.out) hb); have n4_ := Aside0.mk (below_step (by repeat (first | (with_reducible first | exact HB.out | apply below_alloc | apply pw_below_drewN | apply below_drew1 | refine below_set ?_ GE379.out | refine below_set ?_ GE380.out | refine below_set ?_ GE381.out) | exact HB.out)) hb); clear HO_9; clear BK379; clear BK380; clear BK381; clear HB; have HO_9 := n0_; have BK379 := n1_; have BK380 := n2_; have BK381 := n3_; have HB := n4_; clear n0_ n1_ n2_ n3_ n4_; (try clear hb); (try clear hb2); (try clear hk); (try clear hi); have hcz60_0 : w59.cell? ⟨gb379, 0, none⟩ = some (.int .i64 a0_0) := (blk_cell BK379.out 0).trans rfl; have hcz60_1 : w59.cell? ⟨gb379, 1, none⟩ = some (.int .i64 a0_1) := (blk_cell BK379.out 1).trans rfl; have hcz60_2 : w59.cell? ⟨gb379, 2, none⟩ = some (.int .i64 a0_2) := (blk_cell BK379.out 2).trans rfl; have hcz60_3 : w59.cell? ⟨gb379, 3, none⟩ = some (.int .u64 a0_3) := (blk_cell BK379.out 3).trans rfl; have hfz60_0 := blk_frozen BK379.out 0; have hfz60_1 := blk_frozen BK379.out 1; have hfz60_2 := blk_frozen BK379.out 2; have hfz60_3 := blk_frozen BK379.out 3; have hcz61_0 : w59.cell? ⟨gb381, 0, none⟩ = some (.int .i64 a2_0) := (blk_cell BK381.out 0).trans rfl; have hcz61_1 : w59.cell? ⟨gb381, 1, none⟩ = some (.int .i64 a2_1) := (blk_cell BK381.out 1).trans rfl; have hcz61_2 : w59.cell? ⟨gb381, 2, none⟩ = some (.int .i64 a2_2) := (blk_cell BK381.out 2).trans rfl; have hcz61_3 : w59.cell? ⟨gb381, 3, none⟩ = some (.int .u64 a2_3) := (blk_cell BK381.out 3).trans rfl; have hfz61_0 := blk_frozen BK381.out 0; have hfz61_1 := blk_frozen BK381.out 1; have hfz61_2 := blk_frozen BK381.out 2; have hfz61_3 := blk_frozen BK381.out 3) | (go_at_call 26; (with_reducible refine (timer_Less.calls kj7 a0_0 a0_1 a0_2 a0_3 a2_0 a2_1 a2_2 a2_3 t400 _ A52.out).mono ?_); rintro e w62 ⟨rfl, hb⟩; have n0_ := Aside0.mk (Kd.R_below (by (with_reducible repeat (first | apply Kd.R_alloc | apply Kd.R_drewN | apply Kd.R_drew)); exact HO_9.out) hb); have n1_ := Aside0.mk (blk_below (g := gb379) (o := .cells #[.int .i64 a0_0, .int .i64 a0_1, .int .i64 a0_2, .int .u64 a0_3] 52 (0, 0)) (by (with_reducible repeat (first | refine blk_drewN ?_ _ | refine blk_drew ?_ | refine blk_alloc ?_ _)); exact BK379.out) hb); have n2_ := Aside0.mk (blk_below (g := gb380) (o := .cells #[.int .i64 a1_0, .int .i64 a1_1, .int .i64 a1_2, .int .u64 a1_3] 52 (0, 0)) (by (with_reducible repeat (first | refine blk_drewN ?_ _ | refine blk_drew ?_ | refine blk_alloc ?_ _)); exact BK380.out) hb); have n3_ := Aside0.mk (blk_below (g := gb381) (o := .cells #[.int .i64 a2_0, .int .i64 a2_1, .int .i64 a2_2, .int .u64 a2_3] 52 (0, 0)) (by (with_reducible repeat (first | refine blk_drewN ?_ _ | refine blk_drew ?_ | refine blk_alloc ?_ _)); exact BK381.out) hb); have n4_ := Aside0.mk (below_step (by repeat (first | (with_reducible first | exact HB.out | apply below_alloc | apply pw_below_drewN | apply below_drew1 | refine below_set ?_ GE379.out | refine below_set ?_ GE380.out | refine below_set ?_ GE381.out) | exact HB.out)) hb); clear HO_9; clear BK379; clear BK380; clear BK381; clear HB; have HO_9 := n0_; have BK379 := n1_; have BK380 := n2_; have BK381 := n3_; have HB := n4_; clear n0_ n1_ n2_ n3_ n4_; (try clear hb); (try clear hb2); (try clear hk); (try clear hi)))
                  go_meet
                  case rel => exact ⟨_, (!t400), (by first | rfl | (simp; done) | (simp [*]; done)), H', ⟨by have := HJ7.out; first | omega | exact Nat.le_refl _⟩, ⟨by (with_reducible repeat (first | apply Kd.R_alloc | apply Kd.R_drewN | apply Kd.R_drew)); exact HO_9.out⟩, ⟨by (with_reducible repeat (first | refine blk_drewN ?_ _ | refine blk_drew ?_ | refine blk_alloc ?_ _)); exact BK379.out⟩, ⟨by (with_reducible repeat (first | refine blk_drewN ?_ _ | refine blk_drew ?_ | refine blk_alloc ?_ _)); exact BK380.out⟩, ⟨by (with_reducible repeat (first | refine blk_drewN ?_ _ | refine blk_drew ?_ | refine blk_alloc ?_ _)); exact BK381.out⟩, ⟨by repeat (first | (with_reducible first | exact HB.out | apply below_alloc | apply pw_below_drewN | apply below_drew1 | refine below_set ?_ GE379.out | refine below_set ?_ GE380.out | refine below_set ?_ GE381.out) | exact HB.out)⟩⟩
                · replace c51 := Bool.eq_false_iff.mpr c51
                  subst c51
                  have H1 : (tattlelaw03_TimerOrders.j1 kj7 t387 false) = some r := by rw [if_neg (show ¬ (false = true) by decide)] at H; exact H
                  clear H
                  have H := H1
                  clear H1
                  have H' := Aside0.mk H
                  clear H
                  have hnb63 := NB379_380.out
                  have hnc63 := NB380_379.out
                  have hnb64 := NB379_381.out
                  have hnc64 := NB381_379.out
                  have hcz65_0 : wc.cell? ⟨gb379, 0, none⟩ = some (.int .i64 a0_0) := (blk_cell BK379.out 0).trans rfl
                  have hcz65_1 : wc.cell? ⟨gb379, 1, none⟩ = some (.int .i64 a0_1) := (blk_cell BK379.out 1).trans rfl
                  have hcz65_2 : wc.cell? ⟨gb379, 2, none⟩ = some (.int .i64 a0_2) := (blk_cell BK379.out 2).trans rfl
                  have hcz65_3 : wc.cell? ⟨gb379, 3, none⟩ = some (.int .u64 a0_3) := (blk_cell BK379.out 3).trans rfl
                  have hfz65_0 := blk_frozen BK379.out 0
                  have hfz65_1 := blk_frozen BK379.out 1
                  have hfz65_2 := blk_frozen BK379.out 2
                  have hfz65_3 := blk_frozen BK379.out 3
                  have hnb66 := NB380_381.out
                  have hnc66 := NB381_380.out
                  have hcz67_0 : wc.cell? ⟨gb380, 0, none⟩ = some (.int .i64 a1_0) := (blk_cell BK380.out 0).trans rfl
                  have hcz67_1 : wc.cell? ⟨gb380, 1, none⟩ = some (.int .i64 a1_1) := (blk_cell BK380.out 1).trans rfl
                  have hcz67_2 : wc.cell? ⟨gb380, 2, none⟩ = some (.int .i64 a1_2) := (blk_cell BK380.out 2).trans rfl
                  have hcz67_3 : wc.cell? ⟨gb380, 3, none⟩ = some (.int .u64 a1_3) := (blk_cell BK380.out 3).trans rfl
                  have hfz67_0 := blk_frozen BK380.out 0
                  have hfz67_1 := blk_frozen BK380.out 1
                  have hfz67_2 := blk_frozen BK380.out 2
                  have hfz67_3 := blk_frozen BK380.out 3
                  have hcz68_0 : wc.cell? ⟨gb381, 0, none⟩ = some (.int .i64 a2_0) := (blk_cell BK381.out 0).trans rfl
                  have hcz68_1 : wc.cell? ⟨gb381, 1, none⟩ = some (.int .i64 a2_1) := (blk_cell BK381.out 1).trans rfl
                  have hcz68_2 : wc.cell? ⟨gb381, 2, none⟩ = some (.int .i64 a2_2) := (blk_cell BK381.out 2).trans rfl
                  have hcz68_3 : wc.cell? ⟨gb381, 3, none⟩ = some (.int .u64 a2_3) := (blk_cell BK381.out 3).trans rfl
                  have hfz68_0 := blk_frozen BK381.out 0
                  have hfz68_1 := blk_frozen BK381.out 1
                  have hfz68_2 := blk_frozen BK381.out 2
                  have hfz68_3 := blk_frozen BK381.out 3
                  go_wp2_with (first | (go_at_call 26; (with_reducible refine (timer_Less.calls kj7 a1_0 a1_1 a1_2 a1_3 a2_0 a2_1 a2_2 a2_3 false _ A50.out).mono ?_); rintro e w69 ⟨rfl, hb⟩; have n0_ := Aside0.mk (Kd.R_below (by (with_reducible repeat (first | apply Kd.R_alloc | apply Kd.R_drewN | apply Kd.R_drew)); exact HO_9.out) hb); have n1_ := Aside0.mk (blk_below (g := gb379) (o := .cells #[.int .i64 a0_0, .int .i64 a0_1, .int .i64 a0_2, .int .u64 a0_3] 52 (0, 0)) (by (with_reducible repeat (first | refine blk_drewN ?_ _ | refine blk_drew ?_ | refine blk_alloc ?_ _)); exact BK379.out) hb); have n2_ := Aside0.mk (blk_below (g := gb380) (o := .cells #[.int .i64 a1_0, .int .i64 a1_1, .int .i64 a1_2, .int .u64 a1_3] 52 (0, 0)) (by (with_reducible repeat (first | refine blk_drewN ?_ _ | refine blk_drew ?_ | refine blk_alloc ?_ _)); exact BK380.out) hb); have n3_ := Aside0.mk (blk_below (g := gb381) (o := .cells #[.int .i64 a2_0, .int .i64 a2_1, .int .i64 a2_2, .int .u64 a2_3] 52 (0, 0)) (by (with_reducible repeat (first | refine blk_drewN ?_ _ | refine blk_drew ?_ | refine blk_alloc ?_ _)); exact BK381.out) hb); have n4_ := Aside0.mk (below_step (by repeat (first | (with_reducible first | exact HB.out | apply below_alloc | apply pw_below_drewN | apply below_drew1 | refine below_set ?_ GE379.out | refine below_set ?_ GE380.out | refine below_set ?_ GE381.out) | exact HB.out)) hb); clear HO_9; clear BK379; clear BK380; clear BK381; clear HB; have HO_9 := n0_; have BK379 := n1_; have BK380 := n2_; have BK381 := n3_; have HB := n4_; clear n0_ n1_ n2_ n3_ n4_; (try clear hb); (try clear hb2); (try clear hk); (try clear hi)))
                  go_meet
                  case rel => exact ⟨_, (false), (by first | rfl | (simp; done) | (simp [*]; done)), H', ⟨by have := HJ7.out; first | omega | exact Nat.le_refl _⟩, ⟨by (with_reducible repeat (first | apply Kd.R_alloc | apply Kd.R_drewN | apply Kd.R_drew)); exact HO_9.out⟩, ⟨by (with_reducible repeat (first | refine blk_drewN ?_ _ | refine blk_drew ?_ | refine blk_alloc ?_ _)); exact BK379.out⟩, ⟨by (with_reducible repeat (first | refine blk_drewN ?_ _ | refine blk_drew ?_ | refine blk_alloc ?_ _)); exact BK380.out⟩, ⟨by (with_reducible repeat (first | refine blk_drewN ?_ _ | refine blk_drew ?_ | refine blk_alloc ?_ _)); exact BK381.out⟩, ⟨by repeat (first | (with_reducible first | exact HB.out | apply below_alloc | apply pw_below_drewN | apply below_drew1 | refine below_set ?_ GE379.out | refine below_set ?_ GE380.out | refine below_set ?_ GE381.out) | exact HB.out)⟩⟩
          · replace c42 := Bool.eq_false_iff.mpr c42
            subst c42
            have H1 : (if t383 = true then (if (a0_0 == a1_0 && (a0_1 == a1_1 && (a0_2 == a1_2 && (a0_3 == a1_3)))) = true then (tattlelaw03_TimerOrders.j1 kj7 t387 true) else (tattlelaw03_TimerOrders.j1 kj7 t387 false)) else (if (!(a0_0 == a1_0) || (!(a0_1 == a1_1) || (!(a0_2 == a1_2) || (!(a0_3 == a1_3))))) = true then (tattlelaw03_TimerOrders.j1 kj7 t387 true) else (tattlelaw03_TimerOrders.j1 kj7 t387 false))) = some r := by rw [if_neg (show ¬ (false = true) by decide)] at H; exact H
            clear H
            have H := H1
            clear H1
            by_cases c70 : t383 = true
            · subst c70
              have H1 : (if (a0_0 == a1_0 && (a0_1 == a1_1 && (a0_2 == a1_2 && (a0_3 == a1_3)))) = true then (tattlelaw03_TimerOrders.j1 kj7 t387 true) else (tattlelaw03_TimerOrders.j1 kj7 t387 false)) = some r := by rw [if_pos rfl] at H; exact H
              clear H
              have H := H1
              clear H1
              by_cases c71 : (a0_0 == a1_0 && (a0_1 == a1_1 && (a0_2 == a1_2 && (a0_3 == a1_3)))) = true
              · rw [if_pos c71] at H
                have c71b0 : (a0_0 == a1_0 && (a0_1 == a1_1 && (a0_2 == a1_2 && (a0_3 == a1_3)))) = true := c71
                (try (have c71b1 : decide (a0_0 = a1_0 && (a0_1 == a1_1 && (a0_2 == a1_2 && (a0_3 == a1_3)))) = true := by simpa using c71))
                (try (have c71b2 : (a0_0 == a1_0 && (a0_1 == a1_1 && (a0_2 == a1_2 && (a0_3 == a1_3)))) = true := by simpa using c71))
                clear c71
                have H' := Aside0.mk H
                clear H
                have hnb72 := NB379_380.out
                have hnc72 := NB380_379.out
                have hnb73 := NB379_381.out
                have hnc73 := NB381_379.out
                have hcz74_0 : wc.cell? ⟨gb379, 0, none⟩ = some (.int .i64 a0_0) := (blk_cell BK379.out 0).trans rfl
                have hcz74_1 : wc.cell? ⟨gb379, 1, none⟩ = some (.int .i64 a0_1) := (blk_cell BK379.out 1).trans rfl
                have hcz74_2 : wc.cell? ⟨gb379, 2, none⟩ = some (.int .i64 a0_2) := (blk_cell BK379.out 2).trans rfl
                have hcz74_3 : wc.cell? ⟨gb379, 3, none⟩ = some (.int .u64 a0_3) := (blk_cell BK379.out 3).trans rfl
                have hfz74_0 := blk_frozen BK379.out 0
                have hfz74_1 := blk_frozen BK379.out 1
                have hfz74_2 := blk_frozen BK379.out 2
                have hfz74_3 := blk_frozen BK379.out 3
                have hnb75 := NB380_381.out
                have hnc75 := NB381_380.out
                have hcz76_0 : wc.cell? ⟨gb380, 0, none⟩ = some (.int .i64 a1_0) := (blk_cell BK380.out 0).trans rfl
                have hcz76_1 : wc.cell? ⟨gb380, 1, none⟩ = some (.int .i64 a1_1) := (blk_cell BK380.out 1).trans rfl
                have hcz76_2 : wc.cell? ⟨gb380, 2, none⟩ = some (.int .i64 a1_2) := (blk_cell BK380.out 2).trans rfl
                have hcz76_3 : wc.cell? ⟨gb380, 3, none⟩ = some (.int .u64 a1_3) := (blk_cell BK380.out 3).trans rfl
                have hfz76_0 := blk_frozen BK380.out 0
                have hfz76_1 := blk_frozen BK380.out 1
                have hfz76_2 := blk_frozen BK380.out 2
                have hfz76_3 := blk_frozen BK380.out 3
                go_wp2
                go_meet
                case rel => exact ⟨_, (true), (by first | rfl | (simp; done) | (simp [*]; done)), H', ⟨by have := HJ7.out; first | omega | exact Nat.le_refl _⟩, ⟨by (with_reducible repeat (first | apply Kd.R_alloc | apply Kd.R_drewN | apply Kd.R_drew)); exact HO_9.out⟩, ⟨by (with_reducible repeat (first | refine blk_drewN ?_ _ | refine blk_drew ?_ | refine blk_alloc ?_ _)); exact BK379.out⟩, ⟨by (with_reducible repeat (first | refine blk_drewN ?_ _ | refine blk_drew ?_ | refine blk_alloc ?_ _)); exact BK380.out⟩, ⟨by (with_reducible repeat (first | refine blk_drewN ?_ _ | refine blk_drew ?_ | refine blk_alloc ?_ _)); exact BK381.out⟩, ⟨by repeat (first | (with_reducible first | exact HB.out | apply below_alloc | apply pw_below_drewN | apply below_drew1 | refine below_set ?_ GE379.out | refine below_set ?_ GE380.out | refine below_set ?_ GE381.out) | exact HB.out)⟩⟩
              · rw [if_neg c71] at H
                have c71b0 : (a0_0 == a1_0 && (a0_1 == a1_1 && (a0_2 == a1_2 && (a0_3 == a1_3)))) = false := by simpa using c71
                (try (have c71b1 : decide (a0_0 = a1_0 && (a0_1 == a1_1 && (a0_2 == a1_2 && (a0_3 == a1_3)))) = false := by simpa using c71))
                (try (have c71b2 : (a0_0 == a1_0 && (a0_1 == a1_1 && (a0_2 == a1_2 && (a0_3 == a1_3)))) = false := by simpa using c71))
                (try (have c71b3 : ¬ (a0_0 = a1_0 && (a0_1 == a1_1 && (a0_2 == a1_2 && (a0_3 == a1_3)))) := by simpa using c71))
                clear c71
                have H' := Aside0.mk H
                clear H
                have hnb77 := NB379_380.out
                have hnc77 := NB380_379.out
                have hnb78 := NB379_381.out
                have hnc78 := NB381_379.out
                have hcz79_0 : wc.cell? ⟨gb379, 0, none⟩ = some (.int .i64 a0_0) := (blk_cell BK379.out 0).trans rfl
                have hcz79_1 : wc.cell? ⟨gb379, 1, none⟩ = some (.int .i64 a0_1) := (blk_cell BK379.out 1).trans rfl
                have hcz79_2 : wc.cell? ⟨gb379, 2, none⟩ = some (.int .i64 a0_2) := (blk_cell BK379.out 2).trans rfl
                have hcz79_3 : wc.cell? ⟨gb379, 3, none⟩ = some (.int .u64 a0_3) := (blk_cell BK379.out 3).trans rfl
                have hfz79_0 := blk_frozen BK379.out 0
                have hfz79_1 := blk_frozen BK379.out 1
                have hfz79_2 := blk_frozen BK379.out 2
                have hfz79_3 := blk_frozen BK379.out 3
                have hnb80 := NB380_381.out
                have hnc80 := NB381_380.out
                have hcz81_0 : wc.cell? ⟨gb380, 0, none⟩ = some (.int .i64 a1_0) := (blk_cell BK380.out 0).trans rfl
                have hcz81_1 : wc.cell? ⟨gb380, 1, none⟩ = some (.int .i64 a1_1) := (blk_cell BK380.out 1).trans rfl
                have hcz81_2 : wc.cell? ⟨gb380, 2, none⟩ = some (.int .i64 a1_2) := (blk_cell BK380.out 2).trans rfl
                have hcz81_3 : wc.cell? ⟨gb380, 3, none⟩ = some (.int .u64 a1_3) := (blk_cell BK380.out 3).trans rfl
                have hfz81_0 := blk_frozen BK380.out 0
                have hfz81_1 := blk_frozen BK380.out 1
                have hfz81_2 := blk_frozen BK380.out 2
                have hfz81_3 := blk_frozen BK380.out 3
                go_wp2
                go_meet
                case rel => exact ⟨_, (false), (by first | rfl | (simp; done) | (simp [*]; done)), H', ⟨by have := HJ7.out; first | omega | exact Nat.le_refl _⟩, ⟨by (with_reducible repeat (first | apply Kd.R_alloc | apply Kd.R_drewN | apply Kd.R_drew)); exact HO_9.out⟩, ⟨by (with_reducible repeat (first | refine blk_drewN ?_ _ | refine blk_drew ?_ | refine blk_alloc ?_ _)); exact BK379.out⟩, ⟨by (with_reducible repeat (first | refine blk_drewN ?_ _ | refine blk_drew ?_ | refine blk_alloc ?_ _)); exact BK380.out⟩, ⟨by (with_reducible repeat (first | refine blk_drewN ?_ _ | refine blk_drew ?_ | refine blk_alloc ?_ _)); exact BK381.out⟩, ⟨by repeat (first | (with_reducible first | exact HB.out | apply below_alloc | apply pw_below_drewN | apply below_drew1 | refine below_set ?_ GE379.out | refine below_set ?_ GE380.out | refine below_set ?_ GE381.out) | exact HB.out)⟩⟩
            · replace c70 := Bool.eq_false_iff.mpr c70
              subst c70
              have H1 : (if (!(a0_0 == a1_0) || (!(a0_1 == a1_1) || (!(a0_2 == a1_2) || (!(a0_3 == a1_3))))) = true then (tattlelaw03_TimerOrders.j1 kj7 t387 true) else (tattlelaw03_TimerOrders.j1 kj7 t387 false)) = some r := by rw [if_neg (show ¬ (false = true) by decide)] at H; exact H
              clear H
              have H := H1
              clear H1
              by_cases c82 : (!(a0_0 == a1_0) || (!(a0_1 == a1_1) || (!(a0_2 == a1_2) || (!(a0_3 == a1_3))))) = true
              · rw [if_pos c82] at H
                have c82b0 : (!(a0_0 == a1_0) || (!(a0_1 == a1_1) || (!(a0_2 == a1_2) || (!(a0_3 == a1_3))))) = true := c82
                clear c82
                have H' := Aside0.mk H
                clear H
                have hnb83 := NB379_380.out
                have hnc83 := NB380_379.out
                have hnb84 := NB379_381.out
                have hnc84 := NB381_379.out
                have hcz85_0 : wc.cell? ⟨gb379, 0, none⟩ = some (.int .i64 a0_0) := (blk_cell BK379.out 0).trans rfl
                have hcz85_1 : wc.cell? ⟨gb379, 1, none⟩ = some (.int .i64 a0_1) := (blk_cell BK379.out 1).trans rfl
                have hcz85_2 : wc.cell? ⟨gb379, 2, none⟩ = some (.int .i64 a0_2) := (blk_cell BK379.out 2).trans rfl
                have hcz85_3 : wc.cell? ⟨gb379, 3, none⟩ = some (.int .u64 a0_3) := (blk_cell BK379.out 3).trans rfl
                have hfz85_0 := blk_frozen BK379.out 0
                have hfz85_1 := blk_frozen BK379.out 1
                have hfz85_2 := blk_frozen BK379.out 2
                have hfz85_3 := blk_frozen BK379.out 3
                have hnb86 := NB380_381.out
                have hnc86 := NB381_380.out
                have hcz87_0 : wc.cell? ⟨gb380, 0, none⟩ = some (.int .i64 a1_0) := (blk_cell BK380.out 0).trans rfl
                have hcz87_1 : wc.cell? ⟨gb380, 1, none⟩ = some (.int .i64 a1_1) := (blk_cell BK380.out 1).trans rfl
                have hcz87_2 : wc.cell? ⟨gb380, 2, none⟩ = some (.int .i64 a1_2) := (blk_cell BK380.out 2).trans rfl
                have hcz87_3 : wc.cell? ⟨gb380, 3, none⟩ = some (.int .u64 a1_3) := (blk_cell BK380.out 3).trans rfl
                have hfz87_0 := blk_frozen BK380.out 0
                have hfz87_1 := blk_frozen BK380.out 1
                have hfz87_2 := blk_frozen BK380.out 2
                have hfz87_3 := blk_frozen BK380.out 3
                go_wp2
                go_meet
                case rel => exact ⟨_, (true), (by first | rfl | (simp; done) | (simp [*]; done)), H', ⟨by have := HJ7.out; first | omega | exact Nat.le_refl _⟩, ⟨by (with_reducible repeat (first | apply Kd.R_alloc | apply Kd.R_drewN | apply Kd.R_drew)); exact HO_9.out⟩, ⟨by (with_reducible repeat (first | refine blk_drewN ?_ _ | refine blk_drew ?_ | refine blk_alloc ?_ _)); exact BK379.out⟩, ⟨by (with_reducible repeat (first | refine blk_drewN ?_ _ | refine blk_drew ?_ | refine blk_alloc ?_ _)); exact BK380.out⟩, ⟨by (with_reducible repeat (first | refine blk_drewN ?_ _ | refine blk_drew ?_ | refine blk_alloc ?_ _)); exact BK381.out⟩, ⟨by repeat (first | (with_reducible first | exact HB.out | apply below_alloc | apply pw_below_drewN | apply below_drew1 | refine below_set ?_ GE379.out | refine below_set ?_ GE380.out | refine below_set ?_ GE381.out) | exact HB.out)⟩⟩
              · rw [if_neg c82] at H
                have c82b0 : (!(a0_0 == a1_0) || (!(a0_1 == a1_1) || (!(a0_2 == a1_2) || (!(a0_3 == a1_3))))) = false := by simpa using c82
                clear c82
                have H' := Aside0.mk H
                clear H
                have hnb88 := NB379_380.out
                have hnc88 := NB380_379.out
                have hnb89 := NB379_381.out
                have hnc89 := NB381_379.out
                have hcz90_0 : wc.cell? ⟨gb379, 0, none⟩ = some (.int .i64 a0_0) := (blk_cell BK379.out 0).trans rfl
                have hcz90_1 : wc.cell? ⟨gb379, 1, none⟩ = some (.int .i64 a0_1) := (blk_cell BK379.out 1).trans rfl
                have hcz90_2 : wc.cell? ⟨gb379, 2, none⟩ = some (.int .i64 a0_2) := (blk_cell BK379.out 2).trans rfl
                have hcz90_3 : wc.cell? ⟨gb379, 3, none⟩ = some (.int .u64 a0_3) := (blk_cell BK379.out 3).trans rfl
                have hfz90_0 := blk_frozen BK379.out 0
                have hfz90_1 := blk_frozen BK379.out 1
                have hfz90_2 := blk_frozen BK379.out 2
                have hfz90_3 := blk_frozen BK379.out 3
                have hnb91 := NB380_381.out
                have hnc91 := NB381_380.out
                have hcz92_0 : wc.cell? ⟨gb380, 0, none⟩ = some (.int .i64 a1_0) := (blk_cell BK380.out 0).trans rfl
                have hcz92_1 : wc.cell? ⟨gb380, 1, none⟩ = some (.int .i64 a1_1) := (blk_cell BK380.out 1).trans rfl
                have hcz92_2 : wc.cell? ⟨gb380, 2, none⟩ = some (.int .i64 a1_2) := (blk_cell BK380.out 2).trans rfl
                have hcz92_3 : wc.cell? ⟨gb380, 3, none⟩ = some (.int .u64 a1_3) := (blk_cell BK380.out 3).trans rfl
                have hfz92_0 := blk_frozen BK380.out 0
                have hfz92_1 := blk_frozen BK380.out 1
                have hfz92_2 := blk_frozen BK380.out 2
                have hfz92_3 := blk_frozen BK380.out 3
                go_wp2
                go_meet
                case rel => exact ⟨_, (false), (by first | rfl | (simp; done) | (simp [*]; done)), H', ⟨by have := HJ7.out; first | omega | exact Nat.le_refl _⟩, ⟨by (with_reducible repeat (first | apply Kd.R_alloc | apply Kd.R_drewN | apply Kd.R_drew)); exact HO_9.out⟩, ⟨by (with_reducible repeat (first | refine blk_drewN ?_ _ | refine blk_drew ?_ | refine blk_alloc ?_ _)); exact BK379.out⟩, ⟨by (with_reducible repeat (first | refine blk_drewN ?_ _ | refine blk_drew ?_ | refine blk_alloc ?_ _)); exact BK380.out⟩, ⟨by (with_reducible repeat (first | refine blk_drewN ?_ _ | refine blk_drew ?_ | refine blk_alloc ?_ _)); exact BK381.out⟩, ⟨by repeat (first | (with_reducible first | exact HB.out | apply below_alloc | apply pw_below_drewN | apply below_drew1 | refine below_set ?_ GE379.out | refine below_set ?_ GE380.out | refine below_set ?_ GE381.out) | exact HB.out)⟩⟩
        case rest =>
          clear HC41
          try clear c1
          try clear c2
          try clear p2
          try clear c3
          try clear c4
          try clear c5
          try clear c6
          try clear c7
          try clear c8
          try clear c9
          try clear c15
          try clear c16
          try clear c18
          try clear c26
          try clear c27
          try clear c32
          try clear c32b0
          try clear c32b1
          try clear c33
          try clear c33b0
          try clear c33b1
          try clear c35
          try clear c40
          try clear c42
          try clear c43
          try clear c44
          try clear c44b0
          try clear c44b1
          try clear c44b2
          try clear c45
          try clear c46
          try clear c48
          try clear c51
          try clear c53
          try clear c54
          try clear c56
          try clear c63
          try clear c64
          try clear c66
          try clear c70
          try clear c71
          try clear c71b0
          try clear c71b1
          try clear c71b2
          try clear c72
          try clear c73
          try clear c75
          try clear c77
          try clear c78
          try clear c80
          try clear c82
          try clear c82b0
          try clear c83
          try clear c84
          try clear c86
          try clear c88
          try clear c89
          try clear c91
          try clear hcz17_0
          try clear hcz17_1
          try clear hcz17_2
          try clear hcz17_3
          try clear hcz19_0
          try clear hcz19_1
          try clear hcz19_2
          try clear hcz19_3
          try clear hcz20_0
          try clear hcz20_1
          try clear hcz20_2
          try clear hcz20_3
          try clear hcz25_0
          try clear hcz25_1
          try clear hcz25_2
          try clear hcz25_3
          try clear hcz26_0
          try clear hcz26_1
          try clear hcz26_2
          try clear hcz26_3
          try clear hcz27_0
          try clear hcz27_1
          try clear hcz27_2
          try clear hcz27_3
          try clear hcz47_0
          try clear hcz47_1
          try clear hcz47_2
          try clear hcz47_3
          try clear hcz49_0
          try clear hcz49_1
          try clear hcz49_2
          try clear hcz49_3
          try clear hcz55_0
          try clear hcz55_1
          try clear hcz55_2
          try clear hcz55_3
          try clear hcz57_0
          try clear hcz57_1
          try clear hcz57_2
          try clear hcz57_3
          try clear hcz58_0
          try clear hcz58_1
          try clear hcz58_2
          try clear hcz58_3
          try clear hcz60_0
          try clear hcz60_1
          try clear hcz60_2
          try clear hcz60_3
          try clear hcz61_0
          try clear hcz61_1
          try clear hcz61_2
          try clear hcz61_3
          try clear hcz65_0
          try clear hcz65_1
          try clear hcz65_2
          try clear hcz65_3
          try clear hcz67_0
          try clear hcz67_1
          try clear hcz67_2
          try clear hcz67_3
          try clear hcz68_0
          try clear hcz68_1
          try clear hcz68_2
          try clear hcz68_3
          try clear hcz74_0
          try clear hcz74_1
          try clear hcz74_2
          try clear hcz74_3
          try clear hcz76_0
          try clear hcz76_1
          try clear hcz76_2
          try clear hcz76_3
          try clear hcz79_0
          try clear hcz79_1
          try clear hcz79_2
          try clear hcz79_3
          try clear hcz81_0
          try clear hcz81_1
          try clear hcz81_2
          try clear hcz81_3
          try clear hcz85_0
          try clear hcz85_1
          try clear hcz85_2
          try clear hcz85_3
          try clear hcz87_0
          try clear hcz87_1
          try clear hcz87_2
          try clear hcz87_3
          try clear hcz90_0
          try clear hcz90_1
          try clear hcz90_2
          try clear hcz90_3
          try clear hcz92_0
          try clear hcz92_1
          try clear hcz92_2
          try clear hcz92_3
          try clear hfz17_0
          try clear hfz17_1
          try clear hfz17_2
          try clear hfz17_3
          try clear hfz19_0
          try clear hfz19_1
          try clear hfz19_2
          try clear hfz19_3
          try clear hfz20_0
          try clear hfz20_1
          try clear hfz20_2
          try clear hfz20_3
          try clear hfz25_0
          try clear hfz25_1
          try clear hfz25_2
          try clear hfz25_3
          try clear hfz26_0
          try clear hfz26_1
          try clear hfz26_2
          try clear hfz26_3
          try clear hfz27_0
          try clear hfz27_1
          try clear hfz27_2
          try clear hfz27_3
          try clear hfz47_0
          try clear hfz47_1
          try clear hfz47_2
          try clear hfz47_3
          try clear hfz49_0
          try clear hfz49_1
          try clear hfz49_2
          try clear hfz49_3
          try clear hfz55_0
          try clear hfz55_1
          try clear hfz55_2
          try clear hfz55_3
          try clear hfz57_0
          try clear hfz57_1
          try clear hfz57_2
          try clear hfz57_3
          try clear hfz58_0
          try clear hfz58_1
          try clear hfz58_2
          try clear hfz58_3
          try clear hfz60_0
          try clear hfz60_1
          try clear hfz60_2
          try clear hfz60_3
          try clear hfz61_0
          try clear hfz61_1
          try clear hfz61_2
          try clear hfz61_3
          try clear hfz65_0
          try clear hfz65_1
          try clear hfz65_2
          try clear hfz65_3
          try clear hfz67_0
          try clear hfz67_1
          try clear hfz67_2
          try clear hfz67_3
          try clear hfz68_0
          try clear hfz68_1
          try clear hfz68_2
          try clear hfz68_3
          try clear hfz74_0
          try clear hfz74_1
          try clear hfz74_2
          try clear hfz74_3
          try clear hfz76_0
          try clear hfz76_1
          try clear hfz76_2
          try clear hfz76_3
          try clear hfz79_0
          try clear hfz79_1
          try clear hfz79_2
          try clear hfz79_3
          try clear hfz81_0
          try clear hfz81_1
          try clear hfz81_2
          try clear hfz81_3
          try clear hfz85_0
          try clear hfz85_1
          try clear hfz85_2
          try clear hfz85_3
          try clear hfz87_0
          try clear hfz87_1
          try clear hfz87_2
          try clear hfz87_3
          try clear hfz90_0
          try clear hfz90_1
          try clear hfz90_2
          try clear hfz90_3
          try clear hfz92_0
          try clear hfz92_1
          try clear hfz92_2
          try clear hfz92_3
          try clear p2
          obtain ⟨kq, x81_40, rfl, HA, HJ40, HO_9, BK379, BK380, BK381, HB⟩ := hcut
          cases kq with
          | zero => exact absurd HA.out (by simp [tattlelaw03_TimerOrders.j1])
          | succ kj40 =>
            have H := HA.out
            clear HA
            simp only [tattlelaw03_TimerOrders.j1] at H
            by_cases c93 : x81_40 = true
            · subst c93
              have H1 : (some false) = some r := by rw [if_pos rfl] at H; exact H
              clear H
              have H := H1
              clear H1
              exact absurd ((Option.some.inj H).trans hrt.out) (by decide)
            · replace c93 := Bool.eq_false_iff.mpr c93
              subst c93
              have H1 : (if 1 < (t387.length : Int) then (if 0 < (t387.length : Int) then ((timer_Less.f kj40 ((rd_T52 t387 1).f0) ((rd_T52 t387 1).f1) ((rd_T52 t387 1).f2) ((rd_T52 t387 1).f3) ((rd_T52 t387 0).f0) ((rd_T52 t387 0).f1) ((rd_T52 t387 0).f2) ((rd_T52 t387 0).f3)).bind fun t403 => (if t403 = true then (some false) else (if 2 < (t387.length : Int) then ((timer_Less.f kj40 ((rd_T52 t387 2).f0) ((rd_T52 t387 2).f1) ((rd_T52 t387 2).f2) ((rd_T52 t387 2).f3) ((rd_T52 t387 1).f0) ((rd_T52 t387 1).f1) ((rd_T52 t387 1).f2) ((rd_T52 t387 1).f3)).bind fun t406 => (if t406 = true then (some false) else ((tattlelaw03_awakeT.f).bind fun t407 => (some t407)))) else (none)))) else (none)) else (none)) = some r := by rw [if_neg (show ¬ (false = true) by decide)] at H; exact H
              clear H
              have H := H1
              clear H1
              by_cases c94 : 1 < (t387.length : Int)
              · rw [if_pos c94] at H
                have c94b0 : decide (1 < (t387.length : Int)) = true := decide_eq_true c94
                have c94b1 : decide (1 < t387.length) = true := decide_eq_true (by omega)
                clear c94
                by_cases c95 : 0 < (t387.length : Int)
                · rw [if_pos c95] at H
                  have c95b0 : decide (0 < (t387.length : Int)) = true := decide_eq_true c95
                  have c95b1 : decide (0 < t387.length) = true := decide_eq_true (by omega)
                  clear c95
                  replace H := Option.bind_eq_some_iff.mp H
                  obtain ⟨t403, A960, H⟩ := H
                  replace H : (if t403 = true then (some false) else (if 2 < (t387.length : Int) then ((timer_Less.f kj40 ((rd_T52 t387 2).f0) ((rd_T52 t387 2).f1) ((rd_T52 t387 2).f2) ((rd_T52 t387 2).f3) ((rd_T52 t387 1).f0) ((rd_T52 t387 1).f1) ((rd_T52 t387 1).f2) ((rd_T52 t387 1).f3)).bind fun t406 => (if t406 = true then (some false) else ((tattlelaw03_awakeT.f).bind fun t407 => (some t407)))) else (none))) = some r := H
                  have A96 := Aside0.mk A960
                  clear A960
                  by_cases c97 : t403 = true
                  · subst c97
                    have H1 : (some false) = some r := by rw [if_pos rfl] at H; exact H
                    clear H
                    have H := H1
                    clear H1
                    exact absurd ((Option.some.inj H).trans hrt.out) (by decide)
                  · replace c97 := Bool.eq_false_iff.mpr c97
                    subst c97
                    have H1 : (if 2 < (t387.length : Int) then ((timer_Less.f kj40 ((rd_T52 t387 2).f0) ((rd_T52 t387 2).f1) ((rd_T52 t387 2).f2) ((rd_T52 t387 2).f3) ((rd_T52 t387 1).f0) ((rd_T52 t387 1).f1) ((rd_T52 t387 1).f2) ((rd_T52 t387 1).f3)).bind fun t406 => (if t406 = true then (some false) else ((tattlelaw03_awakeT.f).bind fun t407 => (some t407)))) else (none)) = some r := by rw [if_neg (show ¬ (false = true) by decide)] at H; exact H
                    clear H
                    have H := H1
                    clear H1
                    by_cases c98 : 2 < (t387.length : Int)
                    · rw [if_pos c98] at H
                      have c98b0 : decide (2 < (t387.length : Int)) = true := decide_eq_true c98
                      have c98b1 : decide (2 < t387.length) = true := decide_eq_true (by omega)
                      clear c98
                      replace H := Option.bind_eq_some_iff.mp H
                      obtain ⟨t406, A990, H⟩ := H
                      replace H : (if t406 = true then (some false) else ((tattlelaw03_awakeT.f).bind fun t407 => (some t407))) = some r := H
                      have A99 := Aside0.mk A990
                      clear A990
                      by_cases c100 : t406 = true
                      · subst c100
                        have H1 : (some false) = some r := by rw [if_pos rfl] at H; exact H
                        clear H
                        have H := H1
                        clear H1
                        exact absurd ((Option.some.inj H).trans hrt.out) (by decide)
                      · replace c100 := Bool.eq_false_iff.mpr c100
                        subst c100
                        have H1 : ((tattlelaw03_awakeT.f).bind fun t407 => (some t407)) = some r := by rw [if_neg (show ¬ (false = true) by decide)] at H; exact H
                        clear H
                        have H := H1
                        clear H1
                        replace H := Option.bind_eq_some_iff.mp H
                        obtain ⟨t407, A1010, H⟩ := H
                        replace H : (some t407) = some r := H
                        have A101 := Aside0.mk A1010
                        clear A1010
                        obtain rfl := Option.some.inj H
                        try go_wp2
                        have n0_ := Aside0.mk (Kd.R_drew HO_9.out)
                        have n1_ := Aside0.mk (blk_drew BK379.out)
                        have n2_ := Aside0.mk (blk_drew BK380.out)
                        have n3_ := Aside0.mk (blk_drew BK381.out)
                        have n4_ := Aside0.mk (below_drew1 HB.out)
                        clear HO_9
                        clear BK379
                        clear BK380
                        clear BK381
                        clear HB
                        have HO_9 := n0_
                        have BK379 := n1_
                        have BK380 := n2_
                        have BK381 := n3_
                        have HB := n4_
                        clear n0_ n1_ n2_ n3_ n4_
                        obtain ⟨Ao103, co103, eo103⟩ := Kd.R_slice HO_9.out
                        (first | subst eo103 | (injection eo103 with f1_ f2_ f3_; have f4_ := f1_.symm; have f5_ := f3_.symm; clear f1_ f2_ f3_; subst f4_; subst f5_))
                        have p401 : 0 ≤ (1 : Int) := (by omega)
                        have q401 : 1 < (t387.length : Int) := of_decide_eq_true (by first | (with_reducible assumption) | assumption)
                        obtain ⟨ad401, e401, hx401_0, hx401_1, hx401_2, hx401_3⟩ := at_T52 (Kd.R_reads' HO_9.out).2.2 1 p401 q401
                        cases e401
                        (try simp only [show (1 : Int).toNat = 1 from rfl, Nat.reduceMul, Nat.reduceEqDiff, Go.Addr.add, ↓reduceIte] at hx401_0)
                        (try simp only [show (1 : Int).toNat = 1 from rfl, Nat.reduceMul, Nat.reduceEqDiff, Go.Addr.add, ↓reduceIte] at hx401_1)
                        (try simp only [show (1 : Int).toNat = 1 from rfl, Nat.reduceMul, Nat.reduceEqDiff, Go.Addr.add, ↓reduceIte] at hx401_2)
                        (try simp only [show (1 : Int).toNat = 1 from rfl, Nat.reduceMul, Nat.reduceEqDiff, Go.Addr.add, ↓reduceIte] at hx401_3)
                        have qi401 : (1 < t387.length) = True := eq_true (by omega)
                        (try rw [show ((1 : Int)).toNat = 1 from rfl] at hx401_0)
                        (try rw [show 1 * 4 = 4 from rfl] at hx401_0)
                        (try rw [show ((1 : Int)).toNat = 1 from rfl] at hx401_1)
                        (try rw [show 1 * 4 = 4 from rfl] at hx401_1)
                        (try rw [show ((1 : Int)).toNat = 1 from rfl] at hx401_2)
                        (try rw [show 1 * 4 = 4 from rfl] at hx401_2)
                        (try rw [show ((1 : Int)).toNat = 1 from rfl] at hx401_3)
                        (try rw [show 1 * 4 = 4 from rfl] at hx401_3)
                        replace p401 := eq_true p401
                        replace q401 := eq_true q401
                        have p402 : 0 ≤ (0 : Int) := (by omega)
                        have q402 : 0 < (t387.length : Int) := of_decide_eq_true (by first | (with_reducible assumption) | assumption)
                        obtain ⟨ad402, e402, hx402_0, hx402_1, hx402_2, hx402_3⟩ := at_T52 (Kd.R_reads' HO_9.out).2.2 0 p402 q402
                        obtain rfl : ad401 = ad402 := (by injection e402)
                        have qi402 : (0 < t387.length) = True := eq_true (by omega)
                        (try rw [show ((0 : Int)).toNat = 0 from rfl] at hx402_0)
                        (try rw [show 0 * 4 = 0 from rfl] at hx402_0)
                        (try rw [Addr.add_zero'] at hx402_0)
                        (try rw [show ((0 : Int)).toNat = 0 from rfl] at hx402_1)
                        (try rw [show 0 * 4 = 0 from rfl] at hx402_1)
                        (try rw [Addr.add_zero'] at hx402_1)
                        (try rw [show ((0 : Int)).toNat = 0 from rfl] at hx402_2)
                        (try rw [show 0 * 4 = 0 from rfl] at hx402_2)
                        (try rw [Addr.add_zero'] at hx402_2)
                        (try rw [show ((0 : Int)).toNat = 0 from rfl] at hx402_3)
                        (try rw [show 0 * 4 = 0 from rfl] at hx402_3)
                        (try rw [Addr.add_zero'] at hx402_3)
                        replace p402 := eq_true p402
                        replace q402 := eq_true q402
                        have p404 : 0 ≤ (2 : Int) := (by omega)
                        have q404 : 2 < (t387.length : Int) := of_decide_eq_true (by first | (with_reducible assumption) | assumption)
                        obtain ⟨ad404, e404, hx404_0, hx404_1, hx404_2, hx404_3⟩ := at_T52 (Kd.R_reads' HO_9.out).2.2 2 p404 q404
                        obtain rfl : ad401 = ad404 := (by injection e404)
                        (try simp only [show (2 : Int).toNat = 2 from rfl, Nat.reduceMul, Nat.reduceEqDiff, Go.Addr.add, ↓reduceIte] at hx404_0)
                        (try simp only [show (2 : Int).toNat = 2 from rfl, Nat.reduceMul, Nat.reduceEqDiff, Go.Addr.add, ↓reduceIte] at hx404_1)
                        (try simp only [show (2 : Int).toNat = 2 from rfl, Nat.reduceMul, Nat.reduceEqDiff, Go.Addr.add, ↓reduceIte] at hx404_2)
                        (try simp only [show (2 : Int).toNat = 2 from rfl, Nat.reduceMul, Nat.reduceEqDiff, Go.Addr.add, ↓reduceIte] at hx404_3)
                        have qi404 : (2 < t387.length) = True := eq_true (by omega)
                        (try rw [show ((2 : Int)).toNat = 2 from rfl] at hx404_0)
                        (try rw [show 2 * 4 = 8 from rfl] at hx404_0)
                        (try rw [show ((2 : Int)).toNat = 2 from rfl] at hx404_1)
                        (try rw [show 2 * 4 = 8 from rfl] at hx404_1)
                        (try rw [show ((2 : Int)).toNat = 2 from rfl] at hx404_2)
                        (try rw [show 2 * 4 = 8 from rfl] at hx404_2)
                        (try rw [show ((2 : Int)).toNat = 2 from rfl] at hx404_3)
                        (try rw [show 2 * 4 = 8 from rfl] at hx404_3)
                        replace p404 := eq_true p404
                        replace q404 := eq_true q404
                        have p405 : 0 ≤ (1 : Int) := (by omega)
                        have q405 : 1 < (t387.length : Int) := of_decide_eq_true (by first | (with_reducible assumption) | assumption)
                        obtain ⟨ad405, e405, hx405_0, hx405_1, hx405_2, hx405_3⟩ := at_T52 (Kd.R_reads' HO_9.out).2.2 1 p405 q405
                        obtain rfl : ad401 = ad405 := (by injection e405)
                        (try simp only [show (1 : Int).toNat = 1 from rfl, Nat.reduceMul, Nat.reduceEqDiff, Go.Addr.add, ↓reduceIte] at hx405_0)
                        (try simp only [show (1 : Int).toNat = 1 from rfl, Nat.reduceMul, Nat.reduceEqDiff, Go.Addr.add, ↓reduceIte] at hx405_1)
                        (try simp only [show (1 : Int).toNat = 1 from rfl, Nat.reduceMul, Nat.reduceEqDiff, Go.Addr.add, ↓reduceIte] at hx405_2)
                        (try simp only [show (1 : Int).toNat = 1 from rfl, Nat.reduceMul, Nat.reduceEqDiff, Go.Addr.add, ↓reduceIte] at hx405_3)
                        have qi405 : (1 < t387.length) = True := eq_true (by omega)
                        (try rw [show ((1 : Int)).toNat = 1 from rfl] at hx405_0)
                        (try rw [show 1 * 4 = 4 from rfl] at hx405_0)
                        (try rw [show ((1 : Int)).toNat = 1 from rfl] at hx405_1)
                        (try rw [show 1 * 4 = 4 from rfl] at hx405_1)
                        (try rw [show ((1 : Int)).toNat = 1 from rfl] at hx405_2)
                        (try rw [show 1 * 4 = 4 from rfl] at hx405_2)
                        (try rw [show ((1 : Int)).toNat = 1 from rfl] at hx405_3)
                        (try rw [show 1 * 4 = 4 from rfl] at hx405_3)
                        replace p405 := eq_true p405
                        replace q405 := eq_true q405
                        refine start_ (n := 22) (S := fun w' => w'.cell? ⟨ad401.block, ad401.off + 4, none⟩ = some (.int .i64 ((rd_T52 t387 1).f0)) ∧ w'.cell? ⟨ad401.block, ad401.off + 4 + 1, none⟩ = some (.int .i64 ((rd_T52 t387 1).f1)) ∧ w'.cell? ⟨ad401.block, ad401.off + 4 + 2, none⟩ = some (.int .i64 ((rd_T52 t387 1).f2)) ∧ w'.cell? ⟨ad401.block, ad401.off + 4 + 3, none⟩ = some (.int .u64 ((rd_T52 t387 1).f3)) ∧ w'.cell? ad401 = some (.int .i64 ((rd_T52 t387 0).f0)) ∧ w'.cell? ⟨ad401.block, ad401.off + 1, none⟩ = some (.int .i64 ((rd_T52 t387 0).f1)) ∧ w'.cell? ⟨ad401.block, ad401.off + 2, none⟩ = some (.int .i64 ((rd_T52 t387 0).f2)) ∧ w'.cell? ⟨ad401.block, ad401.off + 3, none⟩ = some (.int .u64 ((rd_T52 t387 0).f3)) ∧ w'.cell? ⟨ad401.block, ad401.off + 8, none⟩ = some (.int .i64 ((rd_T52 t387 2).f0)) ∧ w'.cell? ⟨ad401.block, ad401.off + 8 + 1, none⟩ = some (.int .i64 ((rd_T52 t387 2).f1)) ∧ w'.cell? ⟨ad401.block, ad401.off + 8 + 2, none⟩ = some (.int .i64 ((rd_T52 t387 2).f2)) ∧ w'.cell? ⟨ad401.block, ad401.off + 8 + 3, none⟩ = some (.int .u64 ((rd_T52 t387 2).f3)) ∧ w'.cell? ⟨ad401.block, ad401.off + 4, none⟩ = some (.int .i64 ((rd_T52 t387 1).f0)) ∧ w'.cell? ⟨ad401.block, ad401.off + 4 + 1, none⟩ = some (.int .i64 ((rd_T52 t387 1).f1)) ∧ w'.cell? ⟨ad401.block, ad401.off + 4 + 2, none⟩ = some (.int .i64 ((rd_T52 t387 1).f2)) ∧ w'.cell? ⟨ad401.block, ad401.off + 4 + 3, none⟩ = some (.int .u64 ((rd_T52 t387 1).f3))) (ds := []) #[false, false, false, false, false, false, false, false, false, false, false, false, false, false, false, false, false, false, false, false, false, false] (by kernel_rfl) rfl rfl ⟨hx401_0, hx401_1, hx401_2, hx401_3, hx402_0, hx402_1, hx402_2, hx402_3, hx404_0, hx404_1, hx404_2, hx404_3, hx405_0, hx405_1, hx405_2, hx405_3⟩ (fun hHeld => ?_); refine with_tabW tattlelaw03_TimerOrders.tab8 tattlelaw03_TimerOrders.bits8 (fun HT_ HW_ => ?_)
                        generalize wc.drew = w102 at HO_9 BK379 BK380 BK381 HB hx401_0 hx401_1 hx401_2 hx401_3 hx402_0 hx402_1 hx402_2 hx402_3 hx404_0 hx404_1 hx404_2 hx404_3 hx405_0 hx405_1 hx405_2 hx405_3 hHeld ⊢
                        refine pure_ (i := 0) (N := some 82) (v := ?_) (a' := ?_) #[true, false, false, false, false, false, false, false, false, false, false, false, false, false, false, false, false, false, false, false, false, false] rfl rfl (any_of HT_.out (by kernel_rfl)) (fun _ _ _ h => h) (Or.inl ⟨by rfl, ?_⟩) ?_ ?_
                        rotate_left
                        · intro w'
                          go_simp
                          with_reducible rfl
                        rotate_left
                        · simp only [Act.put, List.setIfInBounds_toArray, List.set_cons_zero, List.set_cons_succ, i64_w, i32_w]
                          rfl
                        refine pure_ (i := 1) (N := some 83) (v := ?_) (a' := ?_) #[true, true, false, false, false, false, false, false, false, false, false, false, false, false, false, false, false, false, false, false, false, false] rfl rfl (any_of HT_.out (by kernel_rfl)) (fun _ _ _ h => h) (Or.inl ⟨by rfl, ?_⟩) ?_ ?_
                        rotate_left
                        · intro w'
                          go_simp
                          with_reducible rfl
                        rotate_left
                        · simp only [Act.put, List.setIfInBounds_toArray, List.set_cons_zero, List.set_cons_succ, i64_w, i32_w]
                          rfl
                        refine pure_ (i := 3) (N := some 85) (v := ?_) (a' := ?_) #[true, true, false, true, false, false, false, false, false, false, false, false, false, false, false, false, false, false, false, false, false, false] rfl rfl (any_of HT_.out (by kernel_rfl)) (fun _ _ _ h => h) (Or.inl ⟨by rfl, ?_⟩) ?_ ?_
                        rotate_left
                        · intro w'
                          go_simp
                          with_reducible rfl
                        rotate_left
                        · simp only [Act.put, List.setIfInBounds_toArray, List.set_cons_zero, List.set_cons_succ, i64_w, i32_w]
                          rfl
                        refine pure_ (i := 4) (N := some 86) (v := ?_) (a' := ?_) #[true, true, false, true, true, false, false, false, false, false, false, false, false, false, false, false, false, false, false, false, false, false] rfl rfl (any_of HT_.out (by kernel_rfl)) (fun _ _ _ h => h) (Or.inl ⟨by rfl, ?_⟩) ?_ ?_
                        rotate_left
                        · intro w'
                          go_simp
                          with_reducible rfl
                        rotate_left
                        · simp only [Act.put, List.setIfInBounds_toArray, List.set_cons_zero, List.set_cons_succ, i64_w, i32_w]
                          rfl
                        refine take_ (i := 2) (N := some 84) (v := ?_) (a' := ?_) #[true, true, true, true, true, false, false, false, false, false, false, false, false, false, false, false, false, false, false, false, false, false] rfl rfl (take_ofW HT_.out HW_.out (by kernel_rfl)) (fun _ _ _ h => h) (Or.inl ⟨by rfl, ?_⟩) hHeld ?_ ?_
                        rotate_left
                        · rintro w' ⟨s0, s1, s2, s3, s4, s5, s6, s7, s8, s9, s10, s11, s12, s13, s14, s15⟩
                          go_simp
                          with_reducible rfl
                        rotate_left
                        · simp only [Act.put, List.setIfInBounds_toArray, List.set_cons_zero, List.set_cons_succ, i64_w, i32_w]
                          rfl
                        refine take_ (i := 5) (N := some 87) (v := ?_) (a' := ?_) #[true, true, true, true, true, true, false, false, false, false, false, false, false, false, false, false, false, false, false, false, false, false] rfl rfl (take_ofW HT_.out HW_.out (by kernel_rfl)) (fun _ _ _ h => h) (Or.inl ⟨by rfl, ?_⟩) hHeld ?_ ?_
                        rotate_left
                        · rintro w' ⟨s0, s1, s2, s3, s4, s5, s6, s7, s8, s9, s10, s11, s12, s13, s14, s15⟩
                          go_simp
                          with_reducible rfl
                        rotate_left
                        · simp only [Act.put, List.setIfInBounds_toArray, List.set_cons_zero, List.set_cons_succ, i64_w, i32_w]
                          rfl
                        refine one_ (i := 6) (N := some 88) #[true, true, true, true, true, true, true, false, false, false, false, false, false, false, false, false, false, false, false, false, false, false] rfl rfl (one_of HT_.out (by kernel_rfl)) (by decide) (fun K hK => ?_)
                        refine goes_ Try.func26 (by kernel_rfl) rfl #[.agg #[.int .i64 ((rd_T52 t387 1).f0), .int .i64 ((rd_T52 t387 1).f1), .int .i64 ((rd_T52 t387 1).f2), .int .u64 ((rd_T52 t387 1).f3)], .agg #[.int .i64 ((rd_T52 t387 0).f0), .int .i64 ((rd_T52 t387 0).f1), .int .i64 ((rd_T52 t387 0).f2), .int .u64 ((rd_T52 t387 0).f3)]] (by rfl) rfl rfl (by (try simp only [List.map_toArray, List.map_cons, List.map_nil]); first | done | rfl | (simp only [List.length_drop, List.length_take]; rfl)) ?_
                        with_reducible refine (timer_Less.calls kj40 ((rd_T52 t387 1).f0) ((rd_T52 t387 1).f1) ((rd_T52 t387 1).f2) ((rd_T52 t387 1).f3) ((rd_T52 t387 0).f0) ((rd_T52 t387 0).f1) ((rd_T52 t387 0).f2) ((rd_T52 t387 0).f3) false _ A96.out).mono ?_
                        rintro e w104 ⟨rfl, hb⟩
                        have HS0_ := (hb.cell (World.block_lt_of_cell? _ _ (hHeld.1))).trans (hHeld.1)
                        have HS1_ := (hb.cell (World.block_lt_of_cell? _ _ (hHeld.2.1))).trans (hHeld.2.1)
                        have HS2_ := (hb.cell (World.block_lt_of_cell? _ _ (hHeld.2.2.1))).trans (hHeld.2.2.1)
                        have HS3_ := (hb.cell (World.block_lt_of_cell? _ _ (hHeld.2.2.2.1))).trans (hHeld.2.2.2.1)
                        have HS4_ := (hb.cell (World.block_lt_of_cell? _ _ (hHeld.2.2.2.2.1))).trans (hHeld.2.2.2.2.1)
                        have HS5_ := (hb.cell (World.block_lt_of_cell? _ _ (hHeld.2.2.2.2.2.1))).trans (hHeld.2.2.2.2.2.1)
                        have HS6_ := (hb.cell (World.block_lt_of_cell? _ _ (hHeld.2.2.2.2.2.2.1))).trans (hHeld.2.2.2.2.2.2.1)
                        have HS7_ := (hb.cell (World.block_lt_of_cell? _ _ (hHeld.2.2.2.2.2.2.2.1))).trans (hHeld.2.2.2.2.2.2.2.1)
                        have HS8_ := (hb.cell (World.block_lt_of_cell? _ _ (hHeld.2.2.2.2.2.2.2.2.1))).trans (hHeld.2.2.2.2.2.2.2.2.1)
                        have HS9_ := (hb.cell (World.block_lt_of_cell? _ _ (hHeld.2.2.2.2.2.2.2.2.2.1))).trans (hHeld.2.2.2.2.2.2.2.2.2.1)
                        have HS10_ := (hb.cell (World.block_lt_of_cell? _ _ (hHeld.2.2.2.2.2.2.2.2.2.2.1))).trans (hHeld.2.2.2.2.2.2.2.2.2.2.1)
                        have HS11_ := (hb.cell (World.block_lt_of_cell? _ _ (hHeld.2.2.2.2.2.2.2.2.2.2.2.1))).trans (hHeld.2.2.2.2.2.2.2.2.2.2.2.1)
                        have HS12_ := (hb.cell (World.block_lt_of_cell? _ _ (hHeld.2.2.2.2.2.2.2.2.2.2.2.2.1))).trans (hHeld.2.2.2.2.2.2.2.2.2.2.2.2.1)
                        have HS13_ := (hb.cell (World.block_lt_of_cell? _ _ (hHeld.2.2.2.2.2.2.2.2.2.2.2.2.2.1))).trans (hHeld.2.2.2.2.2.2.2.2.2.2.2.2.2.1)
                        have HS14_ := (hb.cell (World.block_lt_of_cell? _ _ (hHeld.2.2.2.2.2.2.2.2.2.2.2.2.2.2.1))).trans (hHeld.2.2.2.2.2.2.2.2.2.2.2.2.2.2.1)
                        have HS15_ := (hb.cell (World.block_lt_of_cell? _ _ (hHeld.2.2.2.2.2.2.2.2.2.2.2.2.2.2.2))).trans (hHeld.2.2.2.2.2.2.2.2.2.2.2.2.2.2.2)
                        refine ⟨_, rfl, ?_⟩
                        have n0_ := Aside0.mk (Kd.R_below (by (with_reducible repeat (first | apply Kd.R_alloc | apply Kd.R_drewN | apply Kd.R_drew)); exact HO_9.out) hb)
                        have n1_ := Aside0.mk (blk_below (g := gb379) (o := .cells #[.int .i64 a0_0, .int .i64 a0_1, .int .i64 a0_2, .int .u64 a0_3] 52 (0, 0)) (by (with_reducible repeat (first | refine blk_drewN ?_ _ | refine blk_drew ?_ | refine blk_alloc ?_ _)); exact BK379.out) hb)
                        have n2_ := Aside0.mk (blk_below (g := gb380) (o := .cells #[.int .i64 a1_0, .int .i64 a1_1, .int .i64 a1_2, .int .u64 a1_3] 52 (0, 0)) (by (with_reducible repeat (first | refine blk_drewN ?_ _ | refine blk_drew ?_ | refine blk_alloc ?_ _)); exact BK380.out) hb)
                        have n3_ := Aside0.mk (blk_below (g := gb381) (o := .cells #[.int .i64 a2_0, .int .i64 a2_1, .int .i64 a2_2, .int .u64 a2_3] 52 (0, 0)) (by (with_reducible repeat (first | refine blk_drewN ?_ _ | refine blk_drew ?_ | refine blk_alloc ?_ _)); exact BK381.out) hb)
                        have n4_ := Aside0.mk (below_step (by repeat (first | (with_reducible first | exact HB.out | apply below_alloc | apply pw_below_drewN | apply below_drew1 | refine below_set ?_ GE379.out | refine below_set ?_ GE380.out | refine below_set ?_ GE381.out) | exact HB.out)) hb)
                        clear HO_9
                        clear BK379
                        clear BK380
                        clear BK381
                        clear HB
                        have HO_9 := n0_
                        have BK379 := n1_
                        have BK380 := n2_
                        have BK381 := n3_
                        have HB := n4_
                        clear n0_ n1_ n2_ n3_ n4_
                        (try clear hb)
                        (try clear hb2)
                        (try clear hk)
                        (try clear hi)
                        refine hK.out _ _ ⟨HS0_, HS1_, HS2_, HS3_, HS4_, HS5_, HS6_, HS7_, HS8_, HS9_, HS10_, HS11_, HS12_, HS13_, HS14_, HS15_⟩ (fun hHeld => ?_)
                        clear hK K
                        refine norm_ (a' := ?_) ?_ ?_
                        rotate_left
                        · show Act.put _ (some 88) _ = _
                          simp only [Act.put, List.setIfInBounds_toArray, List.set_cons_zero, List.set_cons_succ, i64_w, i32_w]
                          rfl
                        refine pure_ (i := 7) (N := some 89) (v := ?_) (a' := ?_) #[true, true, true, true, true, true, true, true, false, false, false, false, false, false, false, false, false, false, false, false, false, false] rfl rfl (any_of HT_.out (by kernel_rfl)) (fun _ _ _ h => h) (Or.inl ⟨by rfl, ?_⟩) ?_ ?_
                        rotate_left
                        · intro w'
                          go_simp
                          with_reducible rfl
                        rotate_left
                        · simp only [Act.put, List.setIfInBounds_toArray, List.set_cons_zero, List.set_cons_succ, i64_w, i32_w]
                          rfl
                        refine pure_ (i := 8) (N := some 90) (v := ?_) (a' := ?_) #[true, true, true, true, true, true, true, true, true, false, false, false, false, false, false, false, false, false, false, false, false, false] rfl rfl (any_of HT_.out (by kernel_rfl)) (fun _ _ _ h => h) (Or.inl ⟨by rfl, ?_⟩) ?_ ?_
                        rotate_left
                        · intro w'
                          go_simp
                          with_reducible rfl
                        rotate_left
                        · simp only [Act.put, List.setIfInBounds_toArray, List.set_cons_zero, List.set_cons_succ, i64_w, i32_w]
                          rfl
                        refine pure_ (i := 9) (N := some 91) (v := ?_) (a' := ?_) #[true, true, true, true, true, true, true, true, true, true, false, false, false, false, false, false, false, false, false, false, false, false] rfl rfl (any_of HT_.out (by kernel_rfl)) (fun _ _ _ h => h) (Or.inl ⟨by rfl, ?_⟩) ?_ ?_
                        rotate_left
                        · intro w'
                          go_simp
                          with_reducible rfl
                        rotate_left
                        · simp only [Act.put, List.setIfInBounds_toArray, List.set_cons_zero, List.set_cons_succ, i64_w, i32_w]
                          rfl
                        refine pure_ (i := 10) (N := some 92) (v := ?_) (a' := ?_) #[true, true, true, true, true, true, true, true, true, true, true, false, false, false, false, false, false, false, false, false, false, false] rfl rfl (any_of HT_.out (by kernel_rfl)) (fun _ _ _ h => h) (Or.inl ⟨by rfl, ?_⟩) ?_ ?_
                        rotate_left
                        · intro w'
                          go_simp
                          with_reducible rfl
                        rotate_left
                        · simp only [Act.put, List.setIfInBounds_toArray, List.set_cons_zero, List.set_cons_succ, i64_w, i32_w]
                          rfl
                        refine pure_ (i := 12) (N := some 94) (v := ?_) (a' := ?_) #[true, true, true, true, true, true, true, true, true, true, true, false, true, false, false, false, false, false, false, false, false, false] rfl rfl (any_of HT_.out (by kernel_rfl)) (fun _ _ _ h => h) (Or.inl ⟨by rfl, ?_⟩) ?_ ?_
                        rotate_left
                        · intro w'
                          go_simp
                          with_reducible rfl
                        rotate_left
                        · simp only [Act.put, List.setIfInBounds_toArray, List.set_cons_zero, List.set_cons_succ, i64_w, i32_w]
                          rfl
                        refine pure_ (i := 13) (N := some 95) (v := ?_) (a' := ?_) #[true, true, true, true, true, true, true, true, true, true, true, false, true, true, false, false, false, false, false, false, false, false] rfl rfl (any_of HT_.out (by kernel_rfl)) (fun _ _ _ h => h) (Or.inl ⟨by rfl, ?_⟩) ?_ ?_
                        rotate_left
                        · intro w'
                          go_simp
                          with_reducible rfl
                        rotate_left
                        · simp only [Act.put, List.setIfInBounds_toArray, List.set_cons_zero, List.set_cons_succ, i64_w, i32_w]
                          rfl
                        refine take_ (i := 11) (N := some 93) (v := ?_) (a' := ?_) #[true, true, true, true, true, true, true, true, true, true, true, true, true, true, false, false, false, false, false, false, false, false] rfl rfl (take_ofW HT_.out HW_.out (by kernel_rfl)) (fun _ _ _ h => h) (Or.inl ⟨by rfl, ?_⟩) hHeld ?_ ?_
                        rotate_left
                        · rintro w' ⟨s0, s1, s2, s3, s4, s5, s6, s7, s8, s9, s10, s11, s12, s13, s14, s15⟩
                          go_simp
                          with_reducible rfl
                        rotate_left
                        · simp only [Act.put, List.setIfInBounds_toArray, List.set_cons_zero, List.set_cons_succ, i64_w, i32_w]
                          rfl
                        refine take_ (i := 14) (N := some 96) (v := ?_) (a' := ?_) #[true, true, true, true, true, true, true, true, true, true, true, true, true, true, true, false, false, false, false, false, false, false] rfl rfl (take_ofW HT_.out HW_.out (by kernel_rfl)) (fun _ _ _ h => h) (Or.inl ⟨by rfl, ?_⟩) hHeld ?_ ?_
                        rotate_left
                        · rintro w' ⟨s0, s1, s2, s3, s4, s5, s6, s7, s8, s9, s10, s11, s12, s13, s14, s15⟩
                          go_simp
                          with_reducible rfl
                        rotate_left
                        · simp only [Act.put, List.setIfInBounds_toArray, List.set_cons_zero, List.set_cons_succ, i64_w, i32_w]
                          rfl
                        refine one_ (i := 15) (N := some 97) #[true, true, true, true, true, true, true, true, true, true, true, true, true, true, true, true, false, false, false, false, false, false] rfl rfl (one_of HT_.out (by kernel_rfl)) (by decide) (fun K hK => ?_)
                        refine goes_ Try.func26 (by kernel_rfl) rfl #[.agg #[.int .i64 ((rd_T52 t387 2).f0), .int .i64 ((rd_T52 t387 2).f1), .int .i64 ((rd_T52 t387 2).f2), .int .u64 ((rd_T52 t387 2).f3)], .agg #[.int .i64 ((rd_T52 t387 1).f0), .int .i64 ((rd_T52 t387 1).f1), .int .i64 ((rd_T52 t387 1).f2), .int .u64 ((rd_T52 t387 1).f3)]] (by rfl) rfl rfl (by (try simp only [List.map_toArray, List.map_cons, List.map_nil]); first | done | rfl | (simp only [List.length_drop, List.length_take]; rfl)) ?_
                        with_reducible refine (timer_Less.calls kj40 ((rd_T52 t387 2).f0) ((rd_T52 t387 2).f1) ((rd_T52 t387 2).f2) ((rd_T52 t387 2).f3) ((rd_T52 t387 1).f0) ((rd_T52 t387 1).f1) ((rd_T52 t387 1).f2) ((rd_T52 t387 1).f3) false _ A99.out).mono ?_
                        rintro e w105 ⟨rfl, hb⟩
                        have HS0_ := (hb.cell (World.block_lt_of_cell? _ _ (hHeld.1))).trans (hHeld.1)
                        have HS1_ := (hb.cell (World.block_lt_of_cell? _ _ (hHeld.2.1))).trans (hHeld.2.1)
                        have HS2_ := (hb.cell (World.block_lt_of_cell? _ _ (hHeld.2.2.1))).trans (hHeld.2.2.1)
                        have HS3_ := (hb.cell (World.block_lt_of_cell? _ _ (hHeld.2.2.2.1))).trans (hHeld.2.2.2.1)
                        have HS4_ := (hb.cell (World.block_lt_of_cell? _ _ (hHeld.2.2.2.2.1))).trans (hHeld.2.2.2.2.1)
                        have HS5_ := (hb.cell (World.block_lt_of_cell? _ _ (hHeld.2.2.2.2.2.1))).trans (hHeld.2.2.2.2.2.1)
                        have HS6_ := (hb.cell (World.block_lt_of_cell? _ _ (hHeld.2.2.2.2.2.2.1))).trans (hHeld.2.2.2.2.2.2.1)
                        have HS7_ := (hb.cell (World.block_lt_of_cell? _ _ (hHeld.2.2.2.2.2.2.2.1))).trans (hHeld.2.2.2.2.2.2.2.1)
                        have HS8_ := (hb.cell (World.block_lt_of_cell? _ _ (hHeld.2.2.2.2.2.2.2.2.1))).trans (hHeld.2.2.2.2.2.2.2.2.1)
                        have HS9_ := (hb.cell (World.block_lt_of_cell? _ _ (hHeld.2.2.2.2.2.2.2.2.2.1))).trans (hHeld.2.2.2.2.2.2.2.2.2.1)
                        have HS10_ := (hb.cell (World.block_lt_of_cell? _ _ (hHeld.2.2.2.2.2.2.2.2.2.2.1))).trans (hHeld.2.2.2.2.2.2.2.2.2.2.1)
                        have HS11_ := (hb.cell (World.block_lt_of_cell? _ _ (hHeld.2.2.2.2.2.2.2.2.2.2.2.1))).trans (hHeld.2.2.2.2.2.2.2.2.2.2.2.1)
                        have HS12_ := (hb.cell (World.block_lt_of_cell? _ _ (hHeld.2.2.2.2.2.2.2.2.2.2.2.2.1))).trans (hHeld.2.2.2.2.2.2.2.2.2.2.2.2.1)
                        have HS13_ := (hb.cell (World.block_lt_of_cell? _ _ (hHeld.2.2.2.2.2.2.2.2.2.2.2.2.2.1))).trans (hHeld.2.2.2.2.2.2.2.2.2.2.2.2.2.1)
                        have HS14_ := (hb.cell (World.block_lt_of_cell? _ _ (hHeld.2.2.2.2.2.2.2.2.2.2.2.2.2.2.1))).trans (hHeld.2.2.2.2.2.2.2.2.2.2.2.2.2.2.1)
                        have HS15_ := (hb.cell (World.block_lt_of_cell? _ _ (hHeld.2.2.2.2.2.2.2.2.2.2.2.2.2.2.2))).trans (hHeld.2.2.2.2.2.2.2.2.2.2.2.2.2.2.2)
                        refine ⟨_, rfl, ?_⟩
                        have n0_ := Aside0.mk (Kd.R_below (by (with_reducible repeat (first | apply Kd.R_alloc | apply Kd.R_drewN | apply Kd.R_drew)); exact HO_9.out) hb)
                        have n1_ := Aside0.mk (blk_below (g := gb379) (o := .cells #[.int .i64 a0_0, .int .i64 a0_1, .int .i64 a0_2, .int .u64 a0_3] 52 (0, 0)) (by (with_reducible repeat (first | refine blk_drewN ?_ _ | refine blk_drew ?_ | refine blk_alloc ?_ _)); exact BK379.out) hb)
                        have n2_ := Aside0.mk (blk_below (g := gb380) (o := .cells #[.int .i64 a1_0, .int .i64 a1_1, .int .i64 a1_2, .int .u64 a1_3] 52 (0, 0)) (by (with_reducible repeat (first | refine blk_drewN ?_ _ | refine blk_drew ?_ | refine blk_alloc ?_ _)); exact BK380.out) hb)
                        have n3_ := Aside0.mk (blk_below (g := gb381) (o := .cells #[.int .i64 a2_0, .int .i64 a2_1, .int .i64 a2_2, .int .u64 a2_3] 52 (0, 0)) (by (with_reducible repeat (first | refine blk_drewN ?_ _ | refine blk_drew ?_ | refine blk_alloc ?_ _)); exact BK381.out) hb)
                        have n4_ := Aside0.mk (below_step (by repeat (first | (with_reducible first | exact HB.out | apply below_alloc | apply pw_below_drewN | apply below_drew1 | refine below_set ?_ GE379.out | refine below_set ?_ GE380.out | refine below_set ?_ GE381.out) | exact HB.out)) hb)
                        clear HO_9
                        clear BK379
                        clear BK380
                        clear BK381
                        clear HB
                        have HO_9 := n0_
                        have BK379 := n1_
                        have BK380 := n2_
                        have BK381 := n3_
                        have HB := n4_
                        clear n0_ n1_ n2_ n3_ n4_
                        (try clear hb)
                        (try clear hb2)
                        (try clear hk)
                        (try clear hi)
                        refine hK.out _ _ ⟨HS0_, HS1_, HS2_, HS3_, HS4_, HS5_, HS6_, HS7_, HS8_, HS9_, HS10_, HS11_, HS12_, HS13_, HS14_, HS15_⟩ (fun hHeld => ?_)
                        clear hK K
                        refine norm_ (a' := ?_) ?_ ?_
                        rotate_left
                        · show Act.put _ (some 97) _ = _
                          simp only [Act.put, List.setIfInBounds_toArray, List.set_cons_zero, List.set_cons_succ, i64_w, i32_w]
                          rfl
                        refine pure_ (i := 16) (N := some 98) (v := ?_) (a' := ?_) #[true, true, true, true, true, true, true, true, true, true, true, true, true, true, true, true, true, false, false, false, false, false] rfl rfl (any_of HT_.out (by kernel_rfl)) (fun _ _ _ h => h) (Or.inl ⟨by rfl, ?_⟩) ?_ ?_
                        rotate_left
                        · intro w'
                          go_simp
                          with_reducible rfl
                        rotate_left
                        · simp only [Act.put, List.setIfInBounds_toArray, List.set_cons_zero, List.set_cons_succ, i64_w, i32_w]
                          rfl
                        refine pure_ (i := 17) (N := some 99) (v := ?_) (a' := ?_) #[true, true, true, true, true, true, true, true, true, true, true, true, true, true, true, true, true, true, false, false, false, false] rfl rfl (any_of HT_.out (by kernel_rfl)) (fun _ _ _ h => h) (Or.inl ⟨by rfl, ?_⟩) ?_ ?_
                        rotate_left
                        · intro w'
                          go_simp
                          with_reducible rfl
                        rotate_left
                        · simp only [Act.put, List.setIfInBounds_toArray, List.set_cons_zero, List.set_cons_succ, i64_w, i32_w]
                          rfl
                        refine pure_ (i := 18) (N := some 100) (v := ?_) (a' := ?_) #[true, true, true, true, true, true, true, true, true, true, true, true, true, true, true, true, true, true, true, false, false, false] rfl rfl (any_of HT_.out (by kernel_rfl)) (fun _ _ _ h => h) (Or.inl ⟨by rfl, ?_⟩) ?_ ?_
                        rotate_left
                        · intro w'
                          go_simp
                          with_reducible rfl
                        rotate_left
                        · simp only [Act.put, List.setIfInBounds_toArray, List.set_cons_zero, List.set_cons_succ, i64_w, i32_w]
                          rfl
                        refine one_ (i := 19) (N := some 101) #[true, true, true, true, true, true, true, true, true, true, true, true, true, true, true, true, true, true, true, true, false, false] rfl rfl (one_of HT_.out (by kernel_rfl)) (by decide) (fun K hK => ?_)
                        refine goes_ Try.func29 (by kernel_rfl) rfl #[] (by rfl) rfl rfl (by (try simp only [List.map_toArray, List.map_cons, List.map_nil]); first | done | rfl | (simp only [List.length_drop, List.length_take]; rfl)) ?_
                        with_reducible refine (tattlelaw03_awakeT.calls  t407 _ A101.out).mono ?_
                        rintro e w106 ⟨rfl, hb⟩
                        have HS0_ := (hb.cell (World.block_lt_of_cell? _ _ (hHeld.1))).trans (hHeld.1)
                        have HS1_ := (hb.cell (World.block_lt_of_cell? _ _ (hHeld.2.1))).trans (hHeld.2.1)
                        have HS2_ := (hb.cell (World.block_lt_of_cell? _ _ (hHeld.2.2.1))).trans (hHeld.2.2.1)
                        have HS3_ := (hb.cell (World.block_lt_of_cell? _ _ (hHeld.2.2.2.1))).trans (hHeld.2.2.2.1)
                        have HS4_ := (hb.cell (World.block_lt_of_cell? _ _ (hHeld.2.2.2.2.1))).trans (hHeld.2.2.2.2.1)
                        have HS5_ := (hb.cell (World.block_lt_of_cell? _ _ (hHeld.2.2.2.2.2.1))).trans (hHeld.2.2.2.2.2.1)
                        have HS6_ := (hb.cell (World.block_lt_of_cell? _ _ (hHeld.2.2.2.2.2.2.1))).trans (hHeld.2.2.2.2.2.2.1)
                        have HS7_ := (hb.cell (World.block_lt_of_cell? _ _ (hHeld.2.2.2.2.2.2.2.1))).trans (hHeld.2.2.2.2.2.2.2.1)
                        have HS8_ := (hb.cell (World.block_lt_of_cell? _ _ (hHeld.2.2.2.2.2.2.2.2.1))).trans (hHeld.2.2.2.2.2.2.2.2.1)
                        have HS9_ := (hb.cell (World.block_lt_of_cell? _ _ (hHeld.2.2.2.2.2.2.2.2.2.1))).trans (hHeld.2.2.2.2.2.2.2.2.2.1)
                        have HS10_ := (hb.cell (World.block_lt_of_cell? _ _ (hHeld.2.2.2.2.2.2.2.2.2.2.1))).trans (hHeld.2.2.2.2.2.2.2.2.2.2.1)
                        have HS11_ := (hb.cell (World.block_lt_of_cell? _ _ (hHeld.2.2.2.2.2.2.2.2.2.2.2.1))).trans (hHeld.2.2.2.2.2.2.2.2.2.2.2.1)
                        have HS12_ := (hb.cell (World.block_lt_of_cell? _ _ (hHeld.2.2.2.2.2.2.2.2.2.2.2.2.1))).trans (hHeld.2.2.2.2.2.2.2.2.2.2.2.2.1)
                        have HS13_ := (hb.cell (World.block_lt_of_cell? _ _ (hHeld.2.2.2.2.2.2.2.2.2.2.2.2.2.1))).trans (hHeld.2.2.2.2.2.2.2.2.2.2.2.2.2.1)
                        have HS14_ := (hb.cell (World.block_lt_of_cell? _ _ (hHeld.2.2.2.2.2.2.2.2.2.2.2.2.2.2.1))).trans (hHeld.2.2.2.2.2.2.2.2.2.2.2.2.2.2.1)
                        have HS15_ := (hb.cell (World.block_lt_of_cell? _ _ (hHeld.2.2.2.2.2.2.2.2.2.2.2.2.2.2.2))).trans (hHeld.2.2.2.2.2.2.2.2.2.2.2.2.2.2.2)
                        refine ⟨_, rfl, ?_⟩
                        have n0_ := Aside0.mk (Kd.R_below (by (with_reducible repeat (first | apply Kd.R_alloc | apply Kd.R_drewN | apply Kd.R_drew)); exact HO_9.out) hb)
                        have n1_ := Aside0.mk (blk_below (g := gb379) (o := .cells #[.int .i64 a0_0, .int .i64 a0_1, .int .i64 a0_2, .int .u64 a0_3] 52 (0, 0)) (by (with_reducible repeat (first | refine blk_drewN ?_ _ | refine blk_drew ?_ | refine blk_alloc ?_ _)); exact BK379.out) hb)
                        have n2_ := Aside0.mk (blk_below (g := gb380) (o := .cells #[.int .i64 a1_0, .int .i64 a1_1, .int .i64 a1_2, .int .u64 a1_3] 52 (0, 0)) (by (with_reducible repeat (first | refine blk_drewN ?_ _ | refine blk_drew ?_ | refine blk_alloc ?_ _)); exact BK380.out) hb)
                        have n3_ := Aside0.mk (blk_below (g := gb381) (o := .cells #[.int .i64 a2_0, .int .i64 a2_1, .int .i64 a2_2, .int .u64 a2_3] 52 (0, 0)) (by (with_reducible repeat (first | refine blk_drewN ?_ _ | refine blk_drew ?_ | refine blk_alloc ?_ _)); exact BK381.out) hb)
                        have n4_ := Aside0.mk (below_step (by repeat (first | (with_reducible first | exact HB.out | apply below_alloc | apply pw_below_drewN | apply below_drew1 | refine below_set ?_ GE379.out | refine below_set ?_ GE380.out | refine below_set ?_ GE381.out) | exact HB.out)) hb)
                        clear HO_9
                        clear BK379
                        clear BK380
                        clear BK381
                        clear HB
                        have HO_9 := n0_
                        have BK379 := n1_
                        have BK380 := n2_
                        have BK381 := n3_
                        have HB := n4_
                        clear n0_ n1_ n2_ n3_ n4_
                        (try clear hb)
                        (try clear hb2)
                        (try clear hk)
                        (try clear hi)
                        refine hK.out _ _ ⟨HS0_, HS1_, HS2_, HS3_, HS4_, HS5_, HS6_, HS7_, HS8_, HS9_, HS10_, HS11_, HS12_, HS13_, HS14_, HS15_⟩ (fun hHeld => ?_)
                        clear hK K
                        refine norm_ (a' := ?_) ?_ ?_
                        rotate_left
                        · show Act.put _ (some 101) _ = _
                          simp only [Act.put, List.setIfInBounds_toArray, List.set_cons_zero, List.set_cons_succ, i64_w, i32_w]
                          rfl
                        refine pure_ (i := 20) (N := some 102) (v := ?_) (a' := ?_) #[true, true, true, true, true, true, true, true, true, true, true, true, true, true, true, true, true, true, true, true, true, false] rfl rfl (any_of HT_.out (by kernel_rfl)) (fun _ _ _ h => h) (Or.inl ⟨by rfl, ?_⟩) ?_ ?_
                        rotate_left
                        · intro w'
                          go_simp
                          with_reducible rfl
                        rotate_left
                        · simp only [Act.put, List.setIfInBounds_toArray, List.set_cons_zero, List.set_cons_succ, i64_w, i32_w]
                          rfl
                        refine pure_ (i := 21) (N := some 6) (v := ?_) (a' := ?_) #[true, true, true, true, true, true, true, true, true, true, true, true, true, true, true, true, true, true, true, true, true, true] rfl rfl (any_of HT_.out (by kernel_rfl)) (fun _ _ _ h => h) (Or.inl ⟨by rfl, ?_⟩) ?_ ?_
                        rotate_left
                        · intro w'
                          go_simp
                          with_reducible rfl
                        rotate_left
                        · simp only [Act.put, List.setIfInBounds_toArray, List.set_cons_zero, List.set_cons_succ, i64_w, i32_w]
                          rfl
                        refine done_ (done_of HT_.out (by kernel_rfl)) ?_
                        try go_wp2
                        go_ret
                        exact ⟨by first | rfl | (simp [errW_none, errW_some] <;> rfl) | (simp [*, errW_none, errW_some] <;> rfl), by repeat (first | (with_reducible first | exact HB.out | apply below_alloc | apply pw_below_drewN | apply below_drew1 | refine below_set ?_ GE379.out | refine below_set ?_ GE380.out | refine below_set ?_ GE381.out) | exact HB.out)⟩
                    · rw [if_neg c98] at H
                      exact absurd H (by simp)
                · rw [if_neg c95] at H
                  exact absurd H (by simp)
              · rw [if_neg c94] at H
                exact absurd H (by simp)

end Go.Proofs.Ytahppppkepcbkaa.Fn
