-- Written by program (a turned copy of the kit's print) for this seat: functions, contracts. Lean checks it.
import Derived.Test.YtjamociekniepaaFnx0
import Derived.Test.YtjamociekniepaaFnx4
import Derived.Test.YtjamociekniepaaFnx6
import Derived.Test.YtjamociekniepaaFnx14
import Derived.Test.YtjamociekniepaaFnx15
import Derived.Test.YtjamociekniepaaFnx16
import Derived.Test.YtjamociekniepaaAw28
namespace Go.Proofs.Ytjamociekniepaa.Fn
open Go.RowKit Go.Proofs.YtjamociekniepaaW.PrintWords Go.Proofs.YtjamociekniepaaW.PrintLast Go.Proofs.YtjamociekniepaaW.PrintMore
attribute [local go_sem] max2_int min2_int max_two min_two max_three min_three max_four min_four   -- for this text's walks alone
set_option linter.unusedVariables false
set_option linter.unusedSimpArgs false

/-! ### tattlelaw06_TableOrders: function 9 -/
mutual
def tattlelaw06_TableOrders.j0 : Nat → List (S26) → List (S26) → List Int → List Int → Bool → Option (Bool)
  | 0, _, _, _, _, _ => none
  | k + 1, x3, x4, x5, x6, x44 => if x44 = true then ((tattlelaw06_awakeT.f).bind fun t365 => (some t365)) else (if (x4.length : Int) > 12 then (if 12 ≤ (x4.length : Int) then (tattlelaw06_TableOrders.j1 k x3 (x4.take 12) x5 x6) else (none)) else (tattlelaw06_TableOrders.j1 k x3 x4 x5 x6))
def tattlelaw06_TableOrders.j1 : Nat → List (S26) → List (S26) → List Int → List Int → Option (Bool)
  | 0, _, _, _, _ => none
  | k + 1, x3, x4, x5, x6 => tattlelaw06_TableOrders.l0 k x3 x4 x5 x6 x3 x3 0
def tattlelaw06_TableOrders.l0 : Nat → List (S26) → List (S26) → List Int → List Int → List (S26) → List (S26) → Int → Option (Bool)
  | 0, _, _, _, _, _, _, _ => none
  | k + 1, x3, x4, x5, x6, x7, x8, x9 => if x9 < (x4.length : Int) then (if 0 ≤ x9 then ((tattleref05_May.f ((rd_T26 x4 x9).f0) ((rd_T26 x4 x9).f1)).bind fun t372 => (if t372 = true then (if (x5.length : Int) = 0 then (none) else (if 0 ≤ (Int.tmod x9 (x5.length : Int)) then (if (Int.tmod x9 (x5.length : Int)) < (x5.length : Int) then (if (x3.length : Int) = 0 then (none) else ((table_Apply.f k x7 (Int.tmod (wrap64 (rd x5 (Int.tmod x9 (x5.length : Int)))) (x3.length : Int)) ((rd_T26 x4 x9).f0) ((rd_T26 x4 x9).f1)).bind fun bt376 => (if bt376.2.2 = 0 then (tattlelaw06_TableOrders.j3 k x3 x4 x5 x6 x7 x8 x9 bt376.1 ((bt376.1.length : Int) != (x7.length : Int))) else (tattlelaw06_TableOrders.j3 k x3 x4 x5 x6 x7 x8 x9 bt376.1 true)))) else (none)) else (none))) else ((tattlelaw06_awakeT.f).bind fun t373 => (some t373)))) else (none)) else (tattlelaw06_TableOrders.l2 k x3 x4 x5 x6 x7 x8 0)
def tattlelaw06_TableOrders.j3 : Nat → List (S26) → List (S26) → List Int → List Int → List (S26) → List (S26) → Int → List (S26) → Bool → Option (Bool)
  | 0, _, _, _, _, _, _, _, _, _ => none
  | k + 1, x3, x4, x5, x6, x7, x8, x9, x10, x95 => if x95 = true then (some false) else (tattlelaw06_TableOrders.l1 k x3 x4 x5 x6 x7 x8 x9 x10 0)
def tattlelaw06_TableOrders.l1 : Nat → List (S26) → List (S26) → List Int → List Int → List (S26) → List (S26) → Int → List (S26) → Int → Option (Bool)
  | 0, _, _, _, _, _, _, _, _, _ => none
  | k + 1, x3, x4, x5, x6, x7, x8, x9, x10, x13 => if x13 < (x7.length : Int) then (if 0 ≤ x13 then (if x13 < (x10.length : Int) then ((tattleref05_Beats.f ((rd_T26 x7 x13).f0) ((rd_T26 x7 x13).f1) ((rd_T26 x10 x13).f0) ((rd_T26 x10 x13).f1)).bind fun t383 => (if t383 = true then (some false) else (tattlelaw06_TableOrders.l1 k x3 x4 x5 x6 x7 x8 x9 x10 (wrap64 (x13 + 1))))) else (none)) else (none)) else (tattlelaw06_TableOrders.l0 k x3 x4 x5 x6 x10 x8 (wrap64 (x9 + 1)))
def tattlelaw06_TableOrders.l2 : Nat → List (S26) → List (S26) → List Int → List Int → List (S26) → List (S26) → Int → Option (Bool)
  | 0, _, _, _, _, _, _, _ => none
  | k + 1, x3, x4, x5, x6, x7, x8, x14 => if x14 < (x6.length : Int) then (if x14 < 40 then (tattlelaw06_TableOrders.j6 k x3 x4 x5 x6 x7 x8 x14 (decide ((x4.length : Int) > 0))) else (tattlelaw06_TableOrders.j6 k x3 x4 x5 x6 x7 x8 x14 false)) else (tattlelaw06_TableOrders.j6 k x3 x4 x5 x6 x7 x8 x14 false)
def tattlelaw06_TableOrders.j6 : Nat → List (S26) → List (S26) → List Int → List Int → List (S26) → List (S26) → Int → Bool → Option (Bool)
  | 0, _, _, _, _, _, _, _, _ => none
  | k + 1, x3, x4, x5, x6, x7, x8, x14, x124 => if x124 = true then (if 0 ≤ x14 then (if x14 < (x6.length : Int) then (if (x4.length : Int) = 0 then (none) else (if (x5.length : Int) = 0 then (none) else (if 0 ≤ (Int.tmod (Int.tmod (wrap64 (rd x6 x14)) (x4.length : Int)) (x5.length : Int)) then (if (Int.tmod (Int.tmod (wrap64 (rd x6 x14)) (x4.length : Int)) (x5.length : Int)) < (x5.length : Int) then (if (x3.length : Int) = 0 then (none) else (if 0 ≤ (Int.tmod (wrap64 (rd x6 x14)) (x4.length : Int)) then (if (Int.tmod (wrap64 (rd x6 x14)) (x4.length : Int)) < (x4.length : Int) then ((table_Apply.f k x8 (Int.tmod (wrap64 (rd x5 (Int.tmod (Int.tmod (wrap64 (rd x6 x14)) (x4.length : Int)) (x5.length : Int)))) (x3.length : Int)) ((rd_T26 x4 (Int.tmod (wrap64 (rd x6 x14)) (x4.length : Int))).f0) ((rd_T26 x4 (Int.tmod (wrap64 (rd x6 x14)) (x4.length : Int))).f1)).bind fun bt387 => (if bt387.2.2 = 0 then (tattlelaw06_TableOrders.l2 k x3 x4 x5 x6 x7 bt387.1 (wrap64 (x14 + 1))) else (some false))) else (none)) else (none))) else (none)) else (none)))) else (none)) else (none)) else (tattlelaw06_TableOrders.l3 k x3 x4 x5 x7 x8 (wrap64 ((x4.length : Int) - 1)))
def tattlelaw06_TableOrders.l3 : Nat → List (S26) → List (S26) → List Int → List (S26) → List (S26) → Int → Option (Bool)
  | 0, _, _, _, _, _, _ => none
  | k + 1, x3, x4, x5, x7, x8, x19 => if x19 ≥ 0 then (if (x5.length : Int) = 0 then (none) else (if 0 ≤ (Int.tmod x19 (x5.length : Int)) then (if (Int.tmod x19 (x5.length : Int)) < (x5.length : Int) then (if (x3.length : Int) = 0 then (none) else (if 0 ≤ x19 then (if x19 < (x4.length : Int) then ((table_Apply.f k x8 (Int.tmod (wrap64 (rd x5 (Int.tmod x19 (x5.length : Int)))) (x3.length : Int)) ((rd_T26 x4 x19).f0) ((rd_T26 x4 x19).f1)).bind fun bt394 => (if bt394.2.2 = 0 then (tattlelaw06_TableOrders.l3 k x3 x4 x5 x7 bt394.1 (wrap64 (x19 - 1))) else (some false))) else (none)) else (none))) else (none)) else (none))) else ((tattleref06_Same.f k x7 x8).bind fun t399 => (if t399 = true then ((tattlelaw06_awakeT.f).bind fun t400 => (some t400)) else (some false)))
end
def tattlelaw06_TableOrders.f (k : Nat) (l0_0 : List (S26)) (l0_1 : List (S26)) (l0_2 : List Int) (l0_3 : List Int) : Option (Bool) := (tattlelaw06_Few.f l0_0).bind fun t361 => ((table_Check.f k t361).bind fun t364 => (if t364 = 0 then (if (t361.length : Int) = 0 then (tattlelaw06_TableOrders.j0 k t361 l0_1 l0_2 l0_3 true) else (tattlelaw06_TableOrders.j0 k t361 l0_1 l0_2 l0_3 ((l0_2.length : Int) == 0))) else (tattlelaw06_TableOrders.j0 k t361 l0_1 l0_2 l0_3 true)))
theorem tattlelaw06_TableOrders.mono_l : ∀ k, (∀ y0 y1 y2 y3 y4, LeO (tattlelaw06_TableOrders.j0 k y0 y1 y2 y3 y4) (tattlelaw06_TableOrders.j0 (k + 1) y0 y1 y2 y3 y4)) ∧ (∀ y0 y1 y2 y3, LeO (tattlelaw06_TableOrders.j1 k y0 y1 y2 y3) (tattlelaw06_TableOrders.j1 (k + 1) y0 y1 y2 y3)) ∧ (∀ y0 y1 y2 y3 y4 y5 y6, LeO (tattlelaw06_TableOrders.l0 k y0 y1 y2 y3 y4 y5 y6) (tattlelaw06_TableOrders.l0 (k + 1) y0 y1 y2 y3 y4 y5 y6)) ∧ (∀ y0 y1 y2 y3 y4 y5 y6 y7 y8, LeO (tattlelaw06_TableOrders.j3 k y0 y1 y2 y3 y4 y5 y6 y7 y8) (tattlelaw06_TableOrders.j3 (k + 1) y0 y1 y2 y3 y4 y5 y6 y7 y8)) ∧ (∀ y0 y1 y2 y3 y4 y5 y6 y7 y8, LeO (tattlelaw06_TableOrders.l1 k y0 y1 y2 y3 y4 y5 y6 y7 y8) (tattlelaw06_TableOrders.l1 (k + 1) y0 y1 y2 y3 y4 y5 y6 y7 y8)) ∧ (∀ y0 y1 y2 y3 y4 y5 y6, LeO (tattlelaw06_TableOrders.l2 k y0 y1 y2 y3 y4 y5 y6) (tattlelaw06_TableOrders.l2 (k + 1) y0 y1 y2 y3 y4 y5 y6)) ∧ (∀ y0 y1 y2 y3 y4 y5 y6 y7, LeO (tattlelaw06_TableOrders.j6 k y0 y1 y2 y3 y4 y5 y6 y7) (tattlelaw06_TableOrders.j6 (k + 1) y0 y1 y2 y3 y4 y5 y6 y7)) ∧ (∀ y0 y1 y2 y3 y4 y5, LeO (tattlelaw06_TableOrders.l3 k y0 y1 y2 y3 y4 y5) (tattlelaw06_TableOrders.l3 (k + 1) y0 y1 y2 y3 y4 y5))
  | 0 => ⟨fun _ _ _ _ _ r h => by simp [tattlelaw06_TableOrders.j0] at h, fun _ _ _ _ r h => by simp [tattlelaw06_TableOrders.j1] at h, fun _ _ _ _ _ _ _ r h => by simp [tattlelaw06_TableOrders.l0] at h, fun _ _ _ _ _ _ _ _ _ r h => by simp [tattlelaw06_TableOrders.j3] at h, fun _ _ _ _ _ _ _ _ _ r h => by simp [tattlelaw06_TableOrders.l1] at h, fun _ _ _ _ _ _ _ r h => by simp [tattlelaw06_TableOrders.l2] at h, fun _ _ _ _ _ _ _ _ r h => by simp [tattlelaw06_TableOrders.j6] at h, fun _ _ _ _ _ _ r h => by simp [tattlelaw06_TableOrders.l3] at h⟩
  | k + 1 => by
    obtain ⟨ih0, ih1, ih2, ih3, ih4, ih5, ih6, ih7⟩ := tattlelaw06_TableOrders.mono_l k
    refine ⟨?_, ?_, ?_, ?_, ?_, ?_, ?_, ?_⟩
    · intro y0 y1 y2 y3 y4
      unfold tattlelaw06_TableOrders.j0
      repeat' first
      | (with_reducible exact ih0 _ _ _ _ _)
      | (with_reducible exact ih1 _ _ _ _)
      | (with_reducible exact ih2 _ _ _ _ _ _ _)
      | (with_reducible exact ih3 _ _ _ _ _ _ _ _ _)
      | (with_reducible exact ih4 _ _ _ _ _ _ _ _ _)
      | (with_reducible exact ih5 _ _ _ _ _ _ _)
      | (with_reducible exact ih6 _ _ _ _ _ _ _ _)
      | (with_reducible exact ih7 _ _ _ _ _ _)
      | (with_reducible exact table_Apply.mono _ _ _ _ _)
      | (with_reducible exact table_Check.mono _ _)
      | (with_reducible exact tattleref06_Same.mono _ _ _)
      | (with_reducible exact LeO.refl _)
      | (with_reducible exact LeO.none _)
      | (with_reducible refine LeO.ite ?_ ?_)
      | (with_reducible refine LeO.bind ?_ (fun _ => ?_))
      | exact ih0 _ _ _ _ _
      | exact ih1 _ _ _ _
      | exact ih2 _ _ _ _ _ _ _
      | exact ih3 _ _ _ _ _ _ _ _ _
      | exact ih4 _ _ _ _ _ _ _ _ _
      | exact ih5 _ _ _ _ _ _ _
      | exact ih6 _ _ _ _ _ _ _ _
      | exact ih7 _ _ _ _ _ _
      | exact table_Apply.mono _ _ _ _ _
      | exact table_Check.mono _ _
      | exact tattleref06_Same.mono _ _ _
      | exact LeO.none _
      | refine LeO.ite ?_ ?_
      | refine LeO.bind ?_ (fun _ => ?_)
    · intro y0 y1 y2 y3
      unfold tattlelaw06_TableOrders.j1
      repeat' first
      | (with_reducible exact ih0 _ _ _ _ _)
      | (with_reducible exact ih1 _ _ _ _)
      | (with_reducible exact ih2 _ _ _ _ _ _ _)
      | (with_reducible exact ih3 _ _ _ _ _ _ _ _ _)
      | (with_reducible exact ih4 _ _ _ _ _ _ _ _ _)
      | (with_reducible exact ih5 _ _ _ _ _ _ _)
      | (with_reducible exact ih6 _ _ _ _ _ _ _ _)
      | (with_reducible exact ih7 _ _ _ _ _ _)
      | (with_reducible exact table_Apply.mono _ _ _ _ _)
      | (with_reducible exact table_Check.mono _ _)
      | (with_reducible exact tattleref06_Same.mono _ _ _)
      | (with_reducible exact LeO.refl _)
      | (with_reducible exact LeO.none _)
      | (with_reducible refine LeO.ite ?_ ?_)
      | (with_reducible refine LeO.bind ?_ (fun _ => ?_))
      | exact ih0 _ _ _ _ _
      | exact ih1 _ _ _ _
      | exact ih2 _ _ _ _ _ _ _
      | exact ih3 _ _ _ _ _ _ _ _ _
      | exact ih4 _ _ _ _ _ _ _ _ _
      | exact ih5 _ _ _ _ _ _ _
      | exact ih6 _ _ _ _ _ _ _ _
      | exact ih7 _ _ _ _ _ _
      | exact table_Apply.mono _ _ _ _ _
      | exact table_Check.mono _ _
      | exact tattleref06_Same.mono _ _ _
      | exact LeO.none _
      | refine LeO.ite ?_ ?_
      | refine LeO.bind ?_ (fun _ => ?_)
    · intro y0 y1 y2 y3 y4 y5 y6
      unfold tattlelaw06_TableOrders.l0
      repeat' first
      | (with_reducible exact ih0 _ _ _ _ _)
      | (with_reducible exact ih1 _ _ _ _)
      | (with_reducible exact ih2 _ _ _ _ _ _ _)
      | (with_reducible exact ih3 _ _ _ _ _ _ _ _ _)
      | (with_reducible exact ih4 _ _ _ _ _ _ _ _ _)
      | (with_reducible exact ih5 _ _ _ _ _ _ _)
      | (with_reducible exact ih6 _ _ _ _ _ _ _ _)
      | (with_reducible exact ih7 _ _ _ _ _ _)
      | (with_reducible exact table_Apply.mono _ _ _ _ _)
      | (with_reducible exact table_Check.mono _ _)
      | (with_reducible exact tattleref06_Same.mono _ _ _)
      | (with_reducible exact LeO.refl _)
      | (with_reducible exact LeO.none _)
      | (with_reducible refine LeO.ite ?_ ?_)
      | (with_reducible refine LeO.bind ?_ (fun _ => ?_))
      | exact ih0 _ _ _ _ _
      | exact ih1 _ _ _ _
      | exact ih2 _ _ _ _ _ _ _
      | exact ih3 _ _ _ _ _ _ _ _ _
      | exact ih4 _ _ _ _ _ _ _ _ _
      | exact ih5 _ _ _ _ _ _ _
      | exact ih6 _ _ _ _ _ _ _ _
      | exact ih7 _ _ _ _ _ _
      | exact table_Apply.mono _ _ _ _ _
      | exact table_Check.mono _ _
      | exact tattleref06_Same.mono _ _ _
      | exact LeO.none _
      | refine LeO.ite ?_ ?_
      | refine LeO.bind ?_ (fun _ => ?_)
    · intro y0 y1 y2 y3 y4 y5 y6 y7 y8
      unfold tattlelaw06_TableOrders.j3
      repeat' first
      | (with_reducible exact ih0 _ _ _ _ _)
      | (with_reducible exact ih1 _ _ _ _)
      | (with_reducible exact ih2 _ _ _ _ _ _ _)
      | (with_reducible exact ih3 _ _ _ _ _ _ _ _ _)
      | (with_reducible exact ih4 _ _ _ _ _ _ _ _ _)
      | (with_reducible exact ih5 _ _ _ _ _ _ _)
      | (with_reducible exact ih6 _ _ _ _ _ _ _ _)
      | (with_reducible exact ih7 _ _ _ _ _ _)
      | (with_reducible exact table_Apply.mono _ _ _ _ _)
      | (with_reducible exact table_Check.mono _ _)
      | (with_reducible exact tattleref06_Same.mono _ _ _)
      | (with_reducible exact LeO.refl _)
      | (with_reducible exact LeO.none _)
      | (with_reducible refine LeO.ite ?_ ?_)
      | (with_reducible refine LeO.bind ?_ (fun _ => ?_))
      | exact ih0 _ _ _ _ _
      | exact ih1 _ _ _ _
      | exact ih2 _ _ _ _ _ _ _
      | exact ih3 _ _ _ _ _ _ _ _ _
      | exact ih4 _ _ _ _ _ _ _ _ _
      | exact ih5 _ _ _ _ _ _ _
      | exact ih6 _ _ _ _ _ _ _ _
      | exact ih7 _ _ _ _ _ _
      | exact table_Apply.mono _ _ _ _ _
      | exact table_Check.mono _ _
      | exact tattleref06_Same.mono _ _ _
      | exact LeO.none _
      | refine LeO.ite ?_ ?_
      | refine LeO.bind ?_ (fun _ => ?_)
    · intro y0 y1 y2 y3 y4 y5 y6 y7 y8
      unfold tattlelaw06_TableOrders.l1
      repeat' first
      | (with_reducible exact ih0 _ _ _ _ _)
      | (with_reducible exact ih1 _ _ _ _)
      | (with_reducible exact ih2 _ _ _ _ _ _ _)
      | (with_reducible exact ih3 _ _ _ _ _ _ _ _ _)
      | (with_reducible exact ih4 _ _ _ _ _ _ _ _ _)
      | (with_reducible exact ih5 _ _ _ _ _ _ _)
      | (with_reducible exact ih6 _ _ _ _ _ _ _ _)
      | (with_reducible exact ih7 _ _ _ _ _ _)
      | (with_reducible exact table_Apply.mono _ _ _ _ _)
      | (with_reducible exact table_Check.mono _ _)
      | (with_reducible exact tattleref06_Same.mono _ _ _)
      | (with_reducible exact LeO.refl _)
      | (with_reducible exact LeO.none _)
      | (with_reducible refine LeO.ite ?_ ?_)
      | (with_reducible refine LeO.bind ?_ (fun _ => ?_))
      | exact ih0 _ _ _ _ _
      | exact ih1 _ _ _ _
      | exact ih2 _ _ _ _ _ _ _
      | exact ih3 _ _ _ _ _ _ _ _ _
      | exact ih4 _ _ _ _ _ _ _ _ _
      | exact ih5 _ _ _ _ _ _ _
      | exact ih6 _ _ _ _ _ _ _ _
      | exact ih7 _ _ _ _ _ _
      | exact table_Apply.mono _ _ _ _ _
      | exact table_Check.mono _ _
      | exact tattleref06_Same.mono _ _ _
      | exact LeO.none _
      | refine LeO.ite ?_ ?_
      | refine LeO.bind ?_ (fun _ => ?_)
    · intro y0 y1 y2 y3 y4 y5 y6
      unfold tattlelaw06_TableOrders.l2
      repeat' first
      | (with_reducible exact ih0 _ _ _ _ _)
      | (with_reducible exact ih1 _ _ _ _)
      | (with_reducible exact ih2 _ _ _ _ _ _ _)
      | (with_reducible exact ih3 _ _ _ _ _ _ _ _ _)
      | (with_reducible exact ih4 _ _ _ _ _ _ _ _ _)
      | (with_reducible exact ih5 _ _ _ _ _ _ _)
      | (with_reducible exact ih6 _ _ _ _ _ _ _ _)
      | (with_reducible exact ih7 _ _ _ _ _ _)
      | (with_reducible exact table_Apply.mono _ _ _ _ _)
      | (with_reducible exact table_Check.mono _ _)
      | (with_reducible exact tattleref06_Same.mono _ _ _)
      | (with_reducible exact LeO.refl _)
      | (with_reducible exact LeO.none _)
      | (with_reducible refine LeO.ite ?_ ?_)
      | (with_reducible refine LeO.bind ?_ (fun _ => ?_))
      | exact ih0 _ _ _ _ _
      | exact ih1 _ _ _ _
      | exact ih2 _ _ _ _ _ _ _
      | exact ih3 _ _ _ _ _ _ _ _ _
      | exact ih4 _ _ _ _ _ _ _ _ _
      | exact ih5 _ _ _ _ _ _ _
      | exact ih6 _ _ _ _ _ _ _ _
      | exact ih7 _ _ _ _ _ _
      | exact table_Apply.mono _ _ _ _ _
      | exact table_Check.mono _ _
      | exact tattleref06_Same.mono _ _ _
      | exact LeO.none _
      | refine LeO.ite ?_ ?_
      | refine LeO.bind ?_ (fun _ => ?_)
    · intro y0 y1 y2 y3 y4 y5 y6 y7
      unfold tattlelaw06_TableOrders.j6
      repeat' first
      | (with_reducible exact ih0 _ _ _ _ _)
      | (with_reducible exact ih1 _ _ _ _)
      | (with_reducible exact ih2 _ _ _ _ _ _ _)
      | (with_reducible exact ih3 _ _ _ _ _ _ _ _ _)
      | (with_reducible exact ih4 _ _ _ _ _ _ _ _ _)
      | (with_reducible exact ih5 _ _ _ _ _ _ _)
      | (with_reducible exact ih6 _ _ _ _ _ _ _ _)
      | (with_reducible exact ih7 _ _ _ _ _ _)
      | (with_reducible exact table_Apply.mono _ _ _ _ _)
      | (with_reducible exact table_Check.mono _ _)
      | (with_reducible exact tattleref06_Same.mono _ _ _)
      | (with_reducible exact LeO.refl _)
      | (with_reducible exact LeO.none _)
      | (with_reducible refine LeO.ite ?_ ?_)
      | (with_reducible refine LeO.bind ?_ (fun _ => ?_))
      | exact ih0 _ _ _ _ _
      | exact ih1 _ _ _ _
      | exact ih2 _ _ _ _ _ _ _
      | exact ih3 _ _ _ _ _ _ _ _ _
      | exact ih4 _ _ _ _ _ _ _ _ _
      | exact ih5 _ _ _ _ _ _ _
      | exact ih6 _ _ _ _ _ _ _ _
      | exact ih7 _ _ _ _ _ _
      | exact table_Apply.mono _ _ _ _ _
      | exact table_Check.mono _ _
      | exact tattleref06_Same.mono _ _ _
      | exact LeO.none _
      | refine LeO.ite ?_ ?_
      | refine LeO.bind ?_ (fun _ => ?_)
    · intro y0 y1 y2 y3 y4 y5
      unfold tattlelaw06_TableOrders.l3
      repeat' first
      | (with_reducible exact ih0 _ _ _ _ _)
      | (with_reducible exact ih1 _ _ _ _)
      | (with_reducible exact ih2 _ _ _ _ _ _ _)
      | (with_reducible exact ih3 _ _ _ _ _ _ _ _ _)
      | (with_reducible exact ih4 _ _ _ _ _ _ _ _ _)
      | (with_reducible exact ih5 _ _ _ _ _ _ _)
      | (with_reducible exact ih6 _ _ _ _ _ _ _ _)
      | (with_reducible exact ih7 _ _ _ _ _ _)
      | (with_reducible exact table_Apply.mono _ _ _ _ _)
      | (with_reducible exact table_Check.mono _ _)
      | (with_reducible exact tattleref06_Same.mono _ _ _)
      | (with_reducible exact LeO.refl _)
      | (with_reducible exact LeO.none _)
      | (with_reducible refine LeO.ite ?_ ?_)
      | (with_reducible refine LeO.bind ?_ (fun _ => ?_))
      | exact ih0 _ _ _ _ _
      | exact ih1 _ _ _ _
      | exact ih2 _ _ _ _ _ _ _
      | exact ih3 _ _ _ _ _ _ _ _ _
      | exact ih4 _ _ _ _ _ _ _ _ _
      | exact ih5 _ _ _ _ _ _ _
      | exact ih6 _ _ _ _ _ _ _ _
      | exact ih7 _ _ _ _ _ _
      | exact table_Apply.mono _ _ _ _ _
      | exact table_Check.mono _ _
      | exact tattleref06_Same.mono _ _ _
      | exact LeO.none _
      | refine LeO.ite ?_ ?_
      | refine LeO.bind ?_ (fun _ => ?_)
theorem tattlelaw06_TableOrders.mono : ∀ a0 a1 a2 a3 k, LeO (tattlelaw06_TableOrders.f k a0 a1 a2 a3) (tattlelaw06_TableOrders.f (k + 1) a0 a1 a2 a3) := by
  intro a0 a1 a2 a3 k
  obtain ⟨ih0, ih1, ih2, ih3, ih4, ih5, ih6, ih7⟩ := tattlelaw06_TableOrders.mono_l k
  unfold tattlelaw06_TableOrders.f
  repeat' first
      | (with_reducible exact ih0 _ _ _ _ _)
      | (with_reducible exact ih1 _ _ _ _)
      | (with_reducible exact ih2 _ _ _ _ _ _ _)
      | (with_reducible exact ih3 _ _ _ _ _ _ _ _ _)
      | (with_reducible exact ih4 _ _ _ _ _ _ _ _ _)
      | (with_reducible exact ih5 _ _ _ _ _ _ _)
      | (with_reducible exact ih6 _ _ _ _ _ _ _ _)
      | (with_reducible exact ih7 _ _ _ _ _ _)
      | (with_reducible exact table_Apply.mono _ _ _ _ _)
      | (with_reducible exact table_Check.mono _ _)
      | (with_reducible exact tattleref06_Same.mono _ _ _)
      | (with_reducible exact LeO.refl _)
      | (with_reducible exact LeO.none _)
      | (with_reducible refine LeO.ite ?_ ?_)
      | (with_reducible refine LeO.bind ?_ (fun _ => ?_))
      | exact ih0 _ _ _ _ _
      | exact ih1 _ _ _ _
      | exact ih2 _ _ _ _ _ _ _
      | exact ih3 _ _ _ _ _ _ _ _ _
      | exact ih4 _ _ _ _ _ _ _ _ _
      | exact ih5 _ _ _ _ _ _ _
      | exact ih6 _ _ _ _ _ _ _ _
      | exact ih7 _ _ _ _ _ _
      | exact table_Apply.mono _ _ _ _ _
      | exact table_Check.mono _ _
      | exact tattleref06_Same.mono _ _ _
      | exact LeO.none _
      | refine LeO.ite ?_ ?_
      | refine LeO.bind ?_ (fun _ => ?_)
def tattlelaw06_TableOrders.T1 : Bool × List (List Nat × List Nat) := (true, [([], []), ([0], [0]), ([1], [1]), ([], []), ([3], [3]), ([], []), ([5], [5]), ([], []), ([7], [7]), ([2, 2, 0, 1, 2], [2]), ([4, 9, 0, 1, 2, 3, 4, 9], [4]), ([6, 10, 0, 1, 2, 3, 4, 5, 6, 9, 10], [6]), ([8, 11, 0, 1, 2, 3, 4, 5, 6, 7, 8, 9, 10, 11], [8])])
def tattlelaw06_TableOrders.B1 : List Nat := [0, 1, 3, 0, 8, 0, 32, 0, 128, 7, 543, 1663, 4095]
theorem tattlelaw06_TableOrders.tab1 : rtab .any (opsOf Try.f9 1) = tattlelaw06_TableOrders.T1 := by kernel_rfl
theorem tattlelaw06_TableOrders.bits1 : waitsOk tattlelaw06_TableOrders.T1.2 tattlelaw06_TableOrders.B1 = true := by kernel_rfl
def tattlelaw06_TableOrders.T12 : Bool × List (List Nat × List Nat) := (true, [([], []), ([], []), ([], []), ([], []), ([3], [3]), ([2, 4], [2, 4]), ([1, 5], [1, 5]), ([6], [6]), ([7], [7]), ([], []), ([9], [9]), ([8, 10], [8, 10]), ([], []), ([], []), ([12, 13], [12, 13]), ([14], [14]), ([0, 11, 15], [0, 11, 15]), ([16], [16]), ([17], [17]), ([17], [17]), ([17], [17]), ([18, 16, 0, 1, 2, 3, 4, 5, 6, 7, 8, 9, 10, 11, 12, 13, 14, 15, 16, 17, 18], [18]), ([19, 21, 0, 1, 2, 3, 4, 5, 6, 7, 8, 9, 10, 11, 12, 13, 14, 15, 16, 17, 18, 19, 21], [19]), ([20, 22, 0, 1, 2, 3, 4, 5, 6, 7, 8, 9, 10, 11, 12, 13, 14, 15, 16, 17, 18, 19, 20, 21, 22], [20])])
def tattlelaw06_TableOrders.B12 : List Nat := [0, 0, 0, 0, 8, 28, 62, 126, 254, 0, 512, 2046, 0, 0, 12288, 28672, 65535, 131071, 262143, 262143, 262143, 524287, 3145727, 8388607]
theorem tattlelaw06_TableOrders.tab12 : rtab .any (opsOf Try.f9 12) = tattlelaw06_TableOrders.T12 := by kernel_rfl
theorem tattlelaw06_TableOrders.bits12 : waitsOk tattlelaw06_TableOrders.T12.2 tattlelaw06_TableOrders.B12 = true := by kernel_rfl
def tattlelaw06_TableOrders.T18 : Bool × List (List Nat × List Nat) := (true, [([], []), ([], []), ([0, 1], [0, 1]), ([2], [2]), ([], []), ([], []), ([4, 5], [4, 5]), ([6], [6]), ([3, 7], [3, 7])])
def tattlelaw06_TableOrders.B18 : List Nat := [0, 0, 3, 7, 0, 0, 48, 112, 255]
theorem tattlelaw06_TableOrders.tab18 : rtab .any (opsOf Try.f9 18) = tattlelaw06_TableOrders.T18 := by kernel_rfl
theorem tattlelaw06_TableOrders.bits18 : waitsOk tattlelaw06_TableOrders.T18.2 tattlelaw06_TableOrders.B18 = true := by kernel_rfl
def tattlelaw06_TableOrders.T25 : Bool × List (List Nat × List Nat) := (true, [([], []), ([], []), ([], []), ([], []), ([3], [3]), ([2, 4], [2, 4]), ([1, 5], [1, 5]), ([6], [6]), ([7], [7]), ([], []), ([9], [9]), ([8, 10], [8, 10]), ([], []), ([], []), ([12, 13], [12, 13]), ([14], [14]), ([0, 11, 15], [0, 11, 15]), ([16], [16]), ([17], [17]), ([17], [17]), ([17], [17]), ([18, 16, 0, 1, 2, 3, 4, 5, 6, 7, 8, 9, 10, 11, 12, 13, 14, 15, 16, 17, 18], [18]), ([19, 21, 0, 1, 2, 3, 4, 5, 6, 7, 8, 9, 10, 11, 12, 13, 14, 15, 16, 17, 18, 19, 21], [19]), ([20, 22, 0, 1, 2, 3, 4, 5, 6, 7, 8, 9, 10, 11, 12, 13, 14, 15, 16, 17, 18, 19, 20, 21, 22], [20])])
def tattlelaw06_TableOrders.B25 : List Nat := [0, 0, 0, 0, 8, 28, 62, 126, 254, 0, 512, 2046, 0, 0, 12288, 28672, 65535, 131071, 262143, 262143, 262143, 524287, 3145727, 8388607]
theorem tattlelaw06_TableOrders.tab25 : rtab .any (opsOf Try.f9 25) = tattlelaw06_TableOrders.T25 := by kernel_rfl
theorem tattlelaw06_TableOrders.bits25 : waitsOk tattlelaw06_TableOrders.T25.2 tattlelaw06_TableOrders.B25 = true := by kernel_rfl
def tattlelaw06_TableOrders.T32 : Bool × List (List Nat × List Nat) := (true, [([], []), ([], []), ([], []), ([], []), ([3], [3]), ([2, 4], [2, 4]), ([1, 5], [1, 5]), ([6], [6]), ([7], [7]), ([], []), ([9], [9]), ([8, 10], [8, 10]), ([], []), ([], []), ([12, 13], [12, 13]), ([14], [14]), ([0, 11, 15], [0, 11, 15]), ([16], [16]), ([17], [17]), ([17], [17]), ([17], [17]), ([18, 16, 0, 1, 2, 3, 4, 5, 6, 7, 8, 9, 10, 11, 12, 13, 14, 15, 16, 17, 18], [18]), ([19, 21, 0, 1, 2, 3, 4, 5, 6, 7, 8, 9, 10, 11, 12, 13, 14, 15, 16, 17, 18, 19, 21], [19]), ([20, 22, 0, 1, 2, 3, 4, 5, 6, 7, 8, 9, 10, 11, 12, 13, 14, 15, 16, 17, 18, 19, 20, 21, 22], [20])])
def tattlelaw06_TableOrders.B32 : List Nat := [0, 0, 0, 0, 8, 28, 62, 126, 254, 0, 512, 2046, 0, 0, 12288, 28672, 65535, 131071, 262143, 262143, 262143, 524287, 3145727, 8388607]
theorem tattlelaw06_TableOrders.tab32 : rtab .any (opsOf Try.f9 32) = tattlelaw06_TableOrders.T32 := by kernel_rfl
theorem tattlelaw06_TableOrders.bits32 : waitsOk tattlelaw06_TableOrders.T32.2 tattlelaw06_TableOrders.B32 = true := by kernel_rfl
set_option maxHeartbeats 8000000 in
set_option maxRecDepth 100000 in
theorem tattlelaw06_TableOrders.calls (k : Nat) (P0_0_ : Nat → Prop) (A0_0 : Option Addr) (c0_0 : Nat) (l0_0 : List (S26)) (P0_1_ : Nat → Prop) (A0_1 : Option Addr) (c0_1 : Nat) (l0_1 : List (S26)) (A0_2 : Option Addr) (c0_2 : Nat) (l0_2 : List Int) (A0_3 : Option Addr) (c0_3 : Nat) (l0_3 : List Int) (r : Bool) (w : World) (hs0_0 : Kd.V k26 26 w w.heap.size (fun k_ => P0_0_ k_) (.slice A0_0 l0_0.length c0_0) l0_0) (hs0_1 : Kd.V k26 26 w w.heap.size (fun k_ => P0_1_ k_) (.slice A0_1 l0_1.length c0_1) l0_1) (hr0_2 : Kd.C (Kd.int .u8) w A0_2 l0_2.length l0_2) (hc0_2 : l0_2.length ≤ c0_2) (hr0_3 : Kd.C (Kd.int .u8) w A0_3 l0_3.length l0_3) (hc0_3 : l0_3.length ≤ c0_3) (hrt : Aside0 (r = true)) (h : tattlelaw06_TableOrders.f k l0_0 l0_1 l0_2 l0_3 = some r) :
    Calls Try.prog 9 #[.agg #[.slice A0_0 l0_0.length c0_0, .slice A0_1 l0_1.length c0_1, .slice A0_2 l0_2.length c0_2, .slice A0_3 l0_3.length c0_3]] w fun e w' => e = .returned (.bool r) ∧ Below w.heap.size w w' := by
  have hu47 := Try.underlying47
  have hu26 := Try.underlying26
  have HO0_0 := Aside0.mk (show Kd.V k26 26 w w.heap.size (fun k_ => ((P0_0_ k_ ∨ P0_1_ k_) ∨ w.heap.size ≤ k_)) (.slice A0_0 l0_0.length c0_0) l0_0 from Kd.V_mono hs0_0 (fun k_ hk => .inl (.inl hk)))
  have HO0_1 := Aside0.mk (show Kd.V k26 26 w w.heap.size (fun k_ => ((P0_0_ k_ ∨ P0_1_ k_) ∨ w.heap.size ≤ k_)) (.slice A0_1 l0_1.length c0_1) l0_1 from Kd.V_mono hs0_1 (fun k_ hk => .inl (.inr hk)))
  have HR0_2 := Aside0.mk hr0_2
  have HC0_2 := Aside0.mk hc0_2
  clear hr0_2 hc0_2
  have HR0_3 := Aside0.mk hr0_3
  have HC0_3 := Aside0.mk hc0_3
  clear hr0_3 hc0_3
  have HB := Aside0.mk (Below.refl w.heap.size w)
  have H : ((tattlelaw06_Few.f l0_0).bind fun t361 => ((table_Check.f k t361).bind fun t364 => (if t364 = 0 then (if (t361.length : Int) = 0 then (tattlelaw06_TableOrders.j0 k t361 l0_1 l0_2 l0_3 true) else (tattlelaw06_TableOrders.j0 k t361 l0_1 l0_2 l0_3 ((l0_2.length : Int) == 0))) else (tattlelaw06_TableOrders.j0 k t361 l0_1 l0_2 l0_3 true)))) = some r := h
  clear h
  replace H := Option.bind_eq_some_iff.mp H
  obtain ⟨t361, A20, H⟩ := H
  replace H : ((table_Check.f k t361).bind fun t364 => (if t364 = 0 then (if (t361.length : Int) = 0 then (tattlelaw06_TableOrders.j0 k t361 l0_1 l0_2 l0_3 true) else (tattlelaw06_TableOrders.j0 k t361 l0_1 l0_2 l0_3 ((l0_2.length : Int) == 0))) else (tattlelaw06_TableOrders.j0 k t361 l0_1 l0_2 l0_3 true))) = some r := H
  have A2 := Aside0.mk A20
  clear A20
  have HC3 := Aside0.mk H
  clear H
  go_enter Try.func9, Try.ntmps9
  try go_wp2_with (first | ((with_reducible refine gate_dst (N := 1) rfl ?_); (try (refine gate_guard (by rfl) ?_; dsimp only)); refine box_event ?hg (N := 1) ?hd (cs := #[.slice A0_0 l0_0.length c0_0, .slice A0_1 l0_1.length c0_1, .slice A0_2 l0_2.length c0_2, .slice A0_3 l0_3.length c0_3]) (t := 47) ?hr ?_; (case hd => rfl); (case hg => rfl); (case hr => first | (go_simp; done) | (go_simp; rfl)); intro gb360 hg w4 hbox hb; have n0_ := Aside0.mk (Kd.V_below (Kd.V_elderB (by (with_reducible repeat (first | apply Kd.V_alloc | apply Kd.V_drewN | apply Kd.V_drew)); exact HO0_0.out) gb360 (Nat.le_of_eq hg.symm)) hb); have n1_ := Aside0.mk (Kd.V_below (Kd.V_elderB (by (with_reducible repeat (first | apply Kd.V_alloc | apply Kd.V_drewN | apply Kd.V_drew)); exact HO0_1.out) gb360 (Nat.le_of_eq hg.symm)) hb); have n2_ := Aside0.mk (below_step (by repeat (first | (with_reducible first | exact HB.out | apply below_alloc | apply pw_below_drewN | apply below_drew1) | exact HB.out)) hb); have n3_ := Aside0.mk (hbox); have n4_ := Aside0.mk ((by rw [hg]; exact (below_size (by repeat (first | (with_reducible first | exact HB.out | apply below_alloc | apply pw_below_drewN | apply below_drew1) | exact HB.out))) : w.heap.size ≤ gb360)); have n5_ := Aside0.mk ((by rw [hg]; exact (below_size (by repeat (first | (with_reducible first | exact HB.out | apply below_alloc | apply pw_below_drewN | apply below_drew1) | exact HB.out))) : w.heap.size ≤ gb360)); clear HO0_0; clear HO0_1; clear HB; have HO0_0 := n0_; have HO0_1 := n1_; have HB := n2_; have BK360 := n3_; have GW360 := n4_; have GE360 := n5_; clear n0_ n1_ n2_ n3_ n4_ n5_; clear hb hbox hg))
  have n0_ := Aside0.mk (Kd.V_drew HO0_0.out)
  have n1_ := Aside0.mk (Kd.V_drew HO0_1.out)
  have n2_ := Aside0.mk (blk_drew BK360.out)
  have n3_ := Aside0.mk (below_drew1 HB.out)
  clear HO0_0
  clear HO0_1
  clear BK360
  clear HB
  have HO0_0 := n0_
  have HO0_1 := n1_
  have BK360 := n2_
  have HB := n3_
  clear n0_ n1_ n2_ n3_
  refine start_ (n := 13) (S := fun w' => w'.cell? ⟨gb360, 0, none⟩ = some (.slice A0_0 l0_0.length c0_0) ∧ w'.cell? ⟨gb360, 1, none⟩ = some (.slice A0_1 l0_1.length c0_1) ∧ w'.cell? ⟨gb360, 2, none⟩ = some (.slice A0_2 l0_2.length c0_2) ∧ w'.cell? ⟨gb360, 3, none⟩ = some (.slice A0_3 l0_3.length c0_3)) (ds := []) #[false, false, false, false, false, false, false, false, false, false, false, false, false] (by kernel_rfl) rfl rfl ⟨(blk_cell BK360.out 0).trans rfl, (blk_cell BK360.out 1).trans rfl, (blk_cell BK360.out 2).trans rfl, (blk_cell BK360.out 3).trans rfl⟩ (fun hHeld => ?_); refine with_tabW tattlelaw06_TableOrders.tab1 tattlelaw06_TableOrders.bits1 (fun HT_ HW_ => ?_)
  generalize w4.drew = w5 at HO0_0 HO0_1 BK360 HB hHeld ⊢
  refine pure_ (i := 0) (N := some 23) (v := ?_) (a' := ?_) #[true, false, false, false, false, false, false, false, false, false, false, false, false] rfl rfl (any_of HT_.out (by kernel_rfl)) (fun _ _ _ h => h) (Or.inl ⟨by rfl, ?_⟩) ?_ ?_
  rotate_left
  · intro w'
    go_simp
    with_reducible rfl
  rotate_left
  · simp only [Act.put, List.setIfInBounds_toArray, List.set_cons_zero, List.set_cons_succ, i64_w, i32_w]
    rfl
  refine pure_ (i := 3) (N := some 26) (v := ?_) (a' := ?_) #[true, false, false, true, false, false, false, false, false, false, false, false, false] rfl rfl (any_of HT_.out (by kernel_rfl)) (fun _ _ _ h => h) (Or.inl ⟨by rfl, ?_⟩) ?_ ?_
  rotate_left
  · intro w'
    go_simp
    with_reducible rfl
  rotate_left
  · simp only [Act.put, List.setIfInBounds_toArray, List.set_cons_zero, List.set_cons_succ, i64_w, i32_w]
    rfl
  refine pure_ (i := 5) (N := some 28) (v := ?_) (a' := ?_) #[true, false, false, true, false, true, false, false, false, false, false, false, false] rfl rfl (any_of HT_.out (by kernel_rfl)) (fun _ _ _ h => h) (Or.inl ⟨by rfl, ?_⟩) ?_ ?_
  rotate_left
  · intro w'
    go_simp
    with_reducible rfl
  rotate_left
  · simp only [Act.put, List.setIfInBounds_toArray, List.set_cons_zero, List.set_cons_succ, i64_w, i32_w]
    rfl
  refine pure_ (i := 7) (N := some 30) (v := ?_) (a' := ?_) #[true, false, false, true, false, true, false, true, false, false, false, false, false] rfl rfl (any_of HT_.out (by kernel_rfl)) (fun _ _ _ h => h) (Or.inl ⟨by rfl, ?_⟩) ?_ ?_
  rotate_left
  · intro w'
    go_simp
    with_reducible rfl
  rotate_left
  · simp only [Act.put, List.setIfInBounds_toArray, List.set_cons_zero, List.set_cons_succ, i64_w, i32_w]
    rfl
  refine take_ (i := 1) (N := some 24) (v := ?_) (a' := ?_) #[true, true, false, true, false, true, false, true, false, false, false, false, false] rfl rfl (take_ofW HT_.out HW_.out (by kernel_rfl)) (fun _ _ _ h => h) (Or.inl ⟨by rfl, ?_⟩) hHeld ?_ ?_
  rotate_left
  · rintro w' ⟨s0, s1, s2, s3⟩
    go_simp
    with_reducible rfl
  rotate_left
  · simp only [Act.put, List.setIfInBounds_toArray, List.set_cons_zero, List.set_cons_succ, i64_w, i32_w]
    rfl
  refine take_ (i := 4) (N := some 27) (v := ?_) (a' := ?_) #[true, true, false, true, true, true, false, true, false, false, false, false, false] rfl rfl (take_ofW HT_.out HW_.out (by kernel_rfl)) (fun _ _ _ h => h) (Or.inl ⟨by rfl, ?_⟩) hHeld ?_ ?_
  rotate_left
  · rintro w' ⟨s0, s1, s2, s3⟩
    go_simp
    with_reducible rfl
  rotate_left
  · simp only [Act.put, List.setIfInBounds_toArray, List.set_cons_zero, List.set_cons_succ, i64_w, i32_w]
    rfl
  refine take_ (i := 6) (N := some 29) (v := ?_) (a' := ?_) #[true, true, false, true, true, true, true, true, false, false, false, false, false] rfl rfl (take_ofW HT_.out HW_.out (by kernel_rfl)) (fun _ _ _ h => h) (Or.inl ⟨by rfl, ?_⟩) hHeld ?_ ?_
  rotate_left
  · rintro w' ⟨s0, s1, s2, s3⟩
    go_simp
    with_reducible rfl
  rotate_left
  · simp only [Act.put, List.setIfInBounds_toArray, List.set_cons_zero, List.set_cons_succ, i64_w, i32_w]
    rfl
  refine take_ (i := 8) (N := some 31) (v := ?_) (a' := ?_) #[true, true, false, true, true, true, true, true, true, false, false, false, false] rfl rfl (take_ofW HT_.out HW_.out (by kernel_rfl)) (fun _ _ _ h => h) (Or.inl ⟨by rfl, ?_⟩) hHeld ?_ ?_
  rotate_left
  · rintro w' ⟨s0, s1, s2, s3⟩
    go_simp
    with_reducible rfl
  rotate_left
  · simp only [Act.put, List.setIfInBounds_toArray, List.set_cons_zero, List.set_cons_succ, i64_w, i32_w]
    rfl
  refine one_ (i := 2) (N := some 25) #[true, true, true, true, true, true, true, true, true, false, false, false, false] rfl rfl (one_of HT_.out (by kernel_rfl)) (by decide) (fun K hK => ?_)
  refine goes_ Try.func26 (by kernel_rfl) rfl #[.slice A0_0 l0_0.length c0_0] (by rfl) rfl rfl (by (try simp only [List.map_toArray, List.map_cons, List.map_nil]); first | done | rfl | (simp only [List.length_drop, List.length_take]; rfl)) ?_
  with_reducible refine (tattlelaw06_Few.calls (fun k_ => (((P0_0_ k_ ∨ P0_1_ k_) ∨ w.heap.size ≤ k_) ∧ k_ ≠ gb360)) _ _ l0_0 t361 _ ?side1 A2.out).mono ?_
  (case side1 => exact HO0_0.out)
  rintro e w6 ⟨v362, rfl, ho0, hb⟩
  refine ⟨_, rfl, ?_⟩
  have n0_ := Aside0.mk (Kd.V_below (by (with_reducible repeat (first | apply Kd.V_alloc | apply Kd.V_drewN | apply Kd.V_drew)); exact HO0_0.out) hb)
  have n1_ := Aside0.mk (Kd.V_below (by (with_reducible repeat (first | apply Kd.V_alloc | apply Kd.V_drewN | apply Kd.V_drew)); exact HO0_1.out) hb)
  have n2_ := Aside0.mk (Kd.V_lower (Kd.V_mono (ok' := fun k_ => ((P0_0_ k_ ∨ P0_1_ k_) ∨ w.heap.size ≤ k_) ∧ k_ ≠ gb360) ho0 (fun k_ hk_ => ⟨Or.elim hk_ (fun hs_ => hs_.1) (fun hn_ => (.inr (Nat.le_trans (below_size (by repeat (first | (with_reducible first | exact HB.out | apply below_alloc | apply pw_below_drewN | apply below_drew1 | refine below_set ?_ GE360.out) | exact HB.out))) hn_))), Or.elim hk_ (fun hs_ => hs_.2) (fun hn_ => (Kd.freshB (g := gb360) (o := .cells #[.slice A0_0 l0_0.length c0_0, .slice A0_1 l0_1.length c0_1, .slice A0_2 l0_2.length c0_2, .slice A0_3 l0_3.length c0_3] 47 (0, 0)) (by (with_reducible repeat (first | refine blk_drewN ?_ _ | refine blk_drew ?_ | refine blk_alloc ?_ _)); exact BK360.out) k_ hn_))⟩)) (below_size (by repeat (first | (with_reducible first | exact HB.out | apply below_alloc | apply pw_below_drewN | apply below_drew1 | refine below_set ?_ GE360.out) | exact HB.out))))
  have n3_ := Aside0.mk (blk_below (g := gb360) (o := .cells #[.slice A0_0 l0_0.length c0_0, .slice A0_1 l0_1.length c0_1, .slice A0_2 l0_2.length c0_2, .slice A0_3 l0_3.length c0_3] 47 (0, 0)) (by (with_reducible repeat (first | refine blk_drewN ?_ _ | refine blk_drew ?_ | refine blk_alloc ?_ _)); exact BK360.out) hb)
  have n4_ := Aside0.mk (below_step (by repeat (first | (with_reducible first | exact HB.out | apply below_alloc | apply pw_below_drewN | apply below_drew1 | refine below_set ?_ GE360.out) | exact HB.out)) hb)
  clear HO0_0
  clear HO0_1
  clear BK360
  clear HB
  have HO0_0 := n0_
  have HO0_1 := n1_
  have HO363 := n2_
  have BK360 := n3_
  have HB := n4_
  clear n0_ n1_ n2_ n3_ n4_
  (try clear hb)
  (try clear hb2)
  (try clear hk)
  (try clear hi)
  (try clear ho0)
  refine hK.out _ _ ⟨(blk_cell BK360.out 0).trans rfl, (blk_cell BK360.out 1).trans rfl, (blk_cell BK360.out 2).trans rfl, (blk_cell BK360.out 3).trans rfl⟩ (fun hHeld => ?_)
  clear hK K
  refine norm_ (a' := ?_) ?_ ?_
  rotate_left
  · show Act.put _ (some 25) _ = _
    simp only [Act.put, List.setIfInBounds_toArray, List.set_cons_zero, List.set_cons_succ, i64_w, i32_w]
    rfl
  refine pure_ (i := 9) (N := some 3) (v := ?_) (a' := ?_) #[true, true, true, true, true, true, true, true, true, true, false, false, false] rfl rfl (any_of HT_.out (by kernel_rfl)) (fun _ _ _ h => h) (Or.inl ⟨by rfl, ?_⟩) ?_ ?_
  rotate_left
  · intro w'
    go_simp
    with_reducible rfl
  rotate_left
  · simp only [Act.put, List.setIfInBounds_toArray, List.set_cons_zero, List.set_cons_succ, i64_w, i32_w]
    rfl
  refine pure_ (i := 10) (N := some 4) (v := ?_) (a' := ?_) #[true, true, true, true, true, true, true, true, true, true, true, false, false] rfl rfl (any_of HT_.out (by kernel_rfl)) (fun _ _ _ h => h) (Or.inl ⟨by rfl, ?_⟩) ?_ ?_
  rotate_left
  · intro w'
    go_simp
    with_reducible rfl
  rotate_left
  · simp only [Act.put, List.setIfInBounds_toArray, List.set_cons_zero, List.set_cons_succ, i64_w, i32_w]
    rfl
  refine pure_ (i := 11) (N := some 5) (v := ?_) (a' := ?_) #[true, true, true, true, true, true, true, true, true, true, true, true, false] rfl rfl (any_of HT_.out (by kernel_rfl)) (fun _ _ _ h => h) (Or.inl ⟨by rfl, ?_⟩) ?_ ?_
  rotate_left
  · intro w'
    go_simp
    with_reducible rfl
  rotate_left
  · simp only [Act.put, List.setIfInBounds_toArray, List.set_cons_zero, List.set_cons_succ, i64_w, i32_w]
    rfl
  refine pure_ (i := 12) (N := some 6) (v := ?_) (a' := ?_) #[true, true, true, true, true, true, true, true, true, true, true, true, true] rfl rfl (any_of HT_.out (by kernel_rfl)) (fun _ _ _ h => h) (Or.inl ⟨by rfl, ?_⟩) ?_ ?_
  rotate_left
  · intro w'
    go_simp
    with_reducible rfl
  rotate_left
  · simp only [Act.put, List.setIfInBounds_toArray, List.set_cons_zero, List.set_cons_succ, i64_w, i32_w]
    rfl
  refine done_ (done_of HT_.out (by kernel_rfl)) ?_
  go_upto_region 2 with (fail)
  go_cut [44] (fun v44 wc => ∃ (kq : Nat) (x44_2 : Bool), v44 = .bool x44_2 ∧ Aside0 (tattlelaw06_TableOrders.j0 kq t361 l0_1 l0_2 l0_3 x44_2 = some r) ∧ Aside0 (kq ≤ k) ∧ Aside0 (Kd.V k26 26 wc w.heap.size (fun k_ => ((P0_0_ k_ ∨ P0_1_ k_) ∨ w.heap.size ≤ k_) ∧ k_ ≠ gb360) v362 t361) ∧ Aside0 (Kd.V k26 26 wc w.heap.size (fun k_ => ((P0_0_ k_ ∨ P0_1_ k_) ∨ w.heap.size ≤ k_) ∧ k_ ≠ gb360) (.slice A0_1 l0_1.length c0_1) l0_1) ∧ Aside0 (Kd.V k26 26 wc w.heap.size (fun k_ => ((P0_0_ k_ ∨ P0_1_ k_) ∨ w.heap.size ≤ k_) ∧ k_ ≠ gb360) (.slice A0_0 l0_0.length c0_0) l0_0) ∧ Aside0 (Kd.V k26 26 wc w.heap.size (fun k_ => ((P0_0_ k_ ∨ P0_1_ k_) ∨ w.heap.size ≤ k_) ∧ k_ ≠ gb360) (.slice A0_1 l0_1.length c0_1) l0_1) ∧ Aside0 (wc.heap[gb360]? = some (.cells #[(.slice A0_0 l0_0.length c0_0), (.slice A0_1 l0_1.length c0_1), (.slice A0_2 l0_2.length c0_2), (.slice A0_3 l0_3.length c0_3)] 47 (0, 0))) ∧ Aside0 (Below w.heap.size w wc))
  case first => as_aux_lemma =>
    have H := HC3.out
    clear HC3
    replace H := Option.bind_eq_some_iff.mp H
    obtain ⟨t364, A70, H⟩ := H
    replace H : (if t364 = 0 then (if (t361.length : Int) = 0 then (tattlelaw06_TableOrders.j0 k t361 l0_1 l0_2 l0_3 true) else (tattlelaw06_TableOrders.j0 k t361 l0_1 l0_2 l0_3 ((l0_2.length : Int) == 0))) else (tattlelaw06_TableOrders.j0 k t361 l0_1 l0_2 l0_3 true)) = some r := H
    have A7 := Aside0.mk A70
    clear A70
    by_cases c8 : t364 = 0
    · rw [if_pos c8] at H
      have c8b0 : (t364 == 0) = true := beq_iff_eq.mpr c8
      have c8b1 : (t364 != 0) = false := bne_eq_false_iff_eq.mpr c8
      clear c8
      (first | rw [c8b0] | (simp only [i64_w, i32_w]; rw [c8b0]) | skip)
      by_cases c9 : (t361.length : Int) = 0
      · rw [if_pos c9] at H
        have c9b0 : ((t361.length : Int) == 0) = true := beq_iff_eq.mpr c9
        have c9b1 : ((t361.length : Int) != 0) = false := bne_eq_false_iff_eq.mpr c9
        clear c9
        as_aux_lemma =>
          have H' := Aside0.mk H
          clear H
          obtain ⟨Ao10, co10, eo10⟩ := Kd.V_slice HO363.out
          subst eo10
          go_wp2_with (first | ((with_reducible refine gate_callee (f := 27) rfl ?_); refine goesL_ (some 33) rfl rfl Try.func27 (by kernel_rfl) rfl #[.slice Ao10 t361.length co10] rfl (by (try simp only [List.map_toArray, List.map_cons, List.map_nil]); first | done | rfl | (simp only [List.length_drop, List.length_take]; rfl)) ?_; (with_reducible refine (table_Check.calls k _ _ t361 t364 _ ?side1 ?side2 A7.out).mono ?_); (case side1 => repeat (first | exact (Kd.V_reads' HO363.out).2.2 | (with_reducible refine Kd.C_alloc ?_ _) | (with_reducible refine Kd.C_drewN ?_ _) | (with_reducible refine Kd.C_drew ?_))); (case side2 => exact (Kd.V_reads' HO363.out).2.1); rintro e w11 ⟨rfl, hb⟩; refine ⟨_, rfl, ?_⟩; have n0_ := Aside0.mk (Kd.V_below (by (with_reducible repeat (first | apply Kd.V_alloc | apply Kd.V_drewN | apply Kd.V_drew)); exact HO0_0.out) hb); have n1_ := Aside0.mk (Kd.V_below (by (with_reducible repeat (first | apply Kd.V_alloc | apply Kd.V_drewN | apply Kd.V_drew)); exact HO0_1.out) hb); have n2_ := Aside0.mk (Kd.V_below (by (with_reducible repeat (first | apply Kd.V_alloc | apply Kd.V_drewN | apply Kd.V_drew)); exact HO363.out) hb); have n3_ := Aside0.mk (blk_below (g := gb360) (o := .cells #[.slice A0_0 l0_0.length c0_0, .slice A0_1 l0_1.length c0_1, .slice A0_2 l0_2.length c0_2, .slice A0_3 l0_3.length c0_3] 47 (0, 0)) (by (with_reducible repeat (first | refine blk_drewN ?_ _ | refine blk_drew ?_ | refine blk_alloc ?_ _)); exact BK360.out) hb); have n4_ := Aside0.mk (below_step (by repeat (first | (with_reducible first | exact HB.out | apply below_alloc | apply pw_below_drewN | apply below_drew1 | refine below_set ?_ GE360.out) | exact HB.out)) hb); clear HO0_0; clear HO0_1; clear HO363; clear BK360; clear HB; have HO0_0 := n0_; have HO0_1 := n1_; have HO363 := n2_; have BK360 := n3_; have HB := n4_; clear n0_ n1_ n2_ n3_ n4_; (try clear hb); (try clear hb2); (try clear hk); (try clear hi)))
          go_meet
          case rel => exact ⟨_, (true), (by first | rfl | (simp; done) | (simp [*]; done)), H', ⟨by first | omega | exact Nat.le_refl _⟩, ⟨by (with_reducible repeat (first | apply Kd.V_alloc | apply Kd.V_drewN | apply Kd.V_drew)); exact HO363.out⟩, ⟨by (with_reducible repeat (first | apply Kd.V_alloc | apply Kd.V_drewN | apply Kd.V_drew)); exact HO0_1.out⟩, ⟨by (with_reducible repeat (first | apply Kd.V_alloc | apply Kd.V_drewN | apply Kd.V_drew)); exact HO0_0.out⟩, ⟨by (with_reducible repeat (first | apply Kd.V_alloc | apply Kd.V_drewN | apply Kd.V_drew)); exact HO0_1.out⟩, ⟨by (with_reducible repeat (first | refine blk_drewN ?_ _ | refine blk_drew ?_ | refine blk_alloc ?_ _)); exact BK360.out⟩, ⟨by repeat (first | (with_reducible first | exact HB.out | apply below_alloc | apply pw_below_drewN | apply below_drew1 | refine below_set ?_ GE360.out) | exact HB.out)⟩⟩
      · rw [if_neg c9] at H
        have c9b0 : ((t361.length : Int) == 0) = false := beq_eq_false_iff_ne.mpr c9
        have c9b1 : ((t361.length : Int) != 0) = true := bne_iff_ne.mpr c9
        have c9b2 : ¬ (t361 = []) := fun h_ => c9 (by rw [h_]; rfl)
        as_aux_lemma =>
          have H' := Aside0.mk H
          clear H
          obtain ⟨Ao12, co12, eo12⟩ := Kd.V_slice HO363.out
          subst eo12
          go_wp2_with (first | ((with_reducible refine gate_callee (f := 27) rfl ?_); refine goesL_ (some 33) rfl rfl Try.func27 (by kernel_rfl) rfl #[.slice Ao12 t361.length co12] rfl (by (try simp only [List.map_toArray, List.map_cons, List.map_nil]); first | done | rfl | (simp only [List.length_drop, List.length_take]; rfl)) ?_; (with_reducible refine (table_Check.calls k _ _ t361 t364 _ ?side1 ?side2 A7.out).mono ?_); (case side1 => repeat (first | exact (Kd.V_reads' HO363.out).2.2 | (with_reducible refine Kd.C_alloc ?_ _) | (with_reducible refine Kd.C_drewN ?_ _) | (with_reducible refine Kd.C_drew ?_))); (case side2 => exact (Kd.V_reads' HO363.out).2.1); rintro e w13 ⟨rfl, hb⟩; refine ⟨_, rfl, ?_⟩; have n0_ := Aside0.mk (Kd.V_below (by (with_reducible repeat (first | apply Kd.V_alloc | apply Kd.V_drewN | apply Kd.V_drew)); exact HO0_0.out) hb); have n1_ := Aside0.mk (Kd.V_below (by (with_reducible repeat (first | apply Kd.V_alloc | apply Kd.V_drewN | apply Kd.V_drew)); exact HO0_1.out) hb); have n2_ := Aside0.mk (Kd.V_below (by (with_reducible repeat (first | apply Kd.V_alloc | apply Kd.V_drewN | apply Kd.V_drew)); exact HO363.out) hb); have n3_ := Aside0.mk (blk_below (g := gb360) (o := .cells #[.slice A0_0 l0_0.length c0_0, .slice A0_1 l0_1.length c0_1, .slice A0_2 l0_2.length c0_2, .slice A0_3 l0_3.length c0_3] 47 (0, 0)) (by (with_reducible repeat (first | refine blk_drewN ?_ _ | refine blk_drew ?_ | refine blk_alloc ?_ _)); exact BK360.out) hb); have n4_ := Aside0.mk (below_step (by repeat (first | (with_reducible first | exact HB.out | apply below_alloc | apply pw_below_drewN | apply below_drew1 | refine below_set ?_ GE360.out) | exact HB.out)) hb); clear HO0_0; clear HO0_1; clear HO363; clear BK360; clear HB; have HO0_0 := n0_; have HO0_1 := n1_; have HO363 := n2_; have BK360 := n3_; have HB := n4_; clear n0_ n1_ n2_ n3_ n4_; (try clear hb); (try clear hb2); (try clear hk); (try clear hi)))
          go_meet
          case rel => exact ⟨_, (((l0_2.length : Int) == 0)), (by first | rfl | (simp; done) | (simp [*]; done)), H', ⟨by first | omega | exact Nat.le_refl _⟩, ⟨by (with_reducible repeat (first | apply Kd.V_alloc | apply Kd.V_drewN | apply Kd.V_drew)); exact HO363.out⟩, ⟨by (with_reducible repeat (first | apply Kd.V_alloc | apply Kd.V_drewN | apply Kd.V_drew)); exact HO0_1.out⟩, ⟨by (with_reducible repeat (first | apply Kd.V_alloc | apply Kd.V_drewN | apply Kd.V_drew)); exact HO0_0.out⟩, ⟨by (with_reducible repeat (first | apply Kd.V_alloc | apply Kd.V_drewN | apply Kd.V_drew)); exact HO0_1.out⟩, ⟨by (with_reducible repeat (first | refine blk_drewN ?_ _ | refine blk_drew ?_ | refine blk_alloc ?_ _)); exact BK360.out⟩, ⟨by repeat (first | (with_reducible first | exact HB.out | apply below_alloc | apply pw_below_drewN | apply below_drew1 | refine below_set ?_ GE360.out) | exact HB.out)⟩⟩
    · rw [if_neg c8] at H
      have c8b0 : (t364 == 0) = false := beq_eq_false_iff_ne.mpr c8
      have c8b1 : (t364 != 0) = true := bne_iff_ne.mpr c8
      (first | rw [c8b0] | (simp only [i64_w, i32_w]; rw [c8b0]) | skip)
      as_aux_lemma =>
        have H' := Aside0.mk H
        clear H
        obtain ⟨Ao14, co14, eo14⟩ := Kd.V_slice HO363.out
        subst eo14
        go_wp2_with (first | ((with_reducible refine gate_callee (f := 27) rfl ?_); refine goesL_ (some 33) rfl rfl Try.func27 (by kernel_rfl) rfl #[.slice Ao14 t361.length co14] rfl (by (try simp only [List.map_toArray, List.map_cons, List.map_nil]); first | done | rfl | (simp only [List.length_drop, List.length_take]; rfl)) ?_; (with_reducible refine (table_Check.calls k _ _ t361 t364 _ ?side1 ?side2 A7.out).mono ?_); (case side1 => repeat (first | exact (Kd.V_reads' HO363.out).2.2 | (with_reducible refine Kd.C_alloc ?_ _) | (with_reducible refine Kd.C_drewN ?_ _) | (with_reducible refine Kd.C_drew ?_))); (case side2 => exact (Kd.V_reads' HO363.out).2.1); rintro e w15 ⟨rfl, hb⟩; refine ⟨_, rfl, ?_⟩; have n0_ := Aside0.mk (Kd.V_below (by (with_reducible repeat (first | apply Kd.V_alloc | apply Kd.V_drewN | apply Kd.V_drew)); exact HO0_0.out) hb); have n1_ := Aside0.mk (Kd.V_below (by (with_reducible repeat (first | apply Kd.V_alloc | apply Kd.V_drewN | apply Kd.V_drew)); exact HO0_1.out) hb); have n2_ := Aside0.mk (Kd.V_below (by (with_reducible repeat (first | apply Kd.V_alloc | apply Kd.V_drewN | apply Kd.V_drew)); exact HO363.out) hb); have n3_ := Aside0.mk (blk_below (g := gb360) (o := .cells #[.slice A0_0 l0_0.length c0_0, .slice A0_1 l0_1.length c0_1, .slice A0_2 l0_2.length c0_2, .slice A0_3 l0_3.length c0_3] 47 (0, 0)) (by (with_reducible repeat (first | refine blk_drewN ?_ _ | refine blk_drew ?_ | refine blk_alloc ?_ _)); exact BK360.out) hb); have n4_ := Aside0.mk (below_step (by repeat (first | (with_reducible first | exact HB.out | apply below_alloc | apply pw_below_drewN | apply below_drew1 | refine below_set ?_ GE360.out) | exact HB.out)) hb); clear HO0_0; clear HO0_1; clear HO363; clear BK360; clear HB; have HO0_0 := n0_; have HO0_1 := n1_; have HO363 := n2_; have BK360 := n3_; have HB := n4_; clear n0_ n1_ n2_ n3_ n4_; (try clear hb); (try clear hb2); (try clear hk); (try clear hi)))
        go_meet
        case rel => exact ⟨_, (true), (by first | rfl | (simp; done) | (simp [*]; done)), H', ⟨by first | omega | exact Nat.le_refl _⟩, ⟨by (with_reducible repeat (first | apply Kd.V_alloc | apply Kd.V_drewN | apply Kd.V_drew)); exact HO363.out⟩, ⟨by (with_reducible repeat (first | apply Kd.V_alloc | apply Kd.V_drewN | apply Kd.V_drew)); exact HO0_1.out⟩, ⟨by (with_reducible repeat (first | apply Kd.V_alloc | apply Kd.V_drewN | apply Kd.V_drew)); exact HO0_0.out⟩, ⟨by (with_reducible repeat (first | apply Kd.V_alloc | apply Kd.V_drewN | apply Kd.V_drew)); exact HO0_1.out⟩, ⟨by (with_reducible repeat (first | refine blk_drewN ?_ _ | refine blk_drew ?_ | refine blk_alloc ?_ _)); exact BK360.out⟩, ⟨by repeat (first | (with_reducible first | exact HB.out | apply below_alloc | apply pw_below_drewN | apply below_drew1 | refine below_set ?_ GE360.out) | exact HB.out)⟩⟩
  case rest => as_aux_lemma =>
    clear HC3
    try clear c2
    try clear p2
    try clear c8
    try clear c8b0
    try clear c8b1
    try clear c9
    try clear c9b0
    try clear c9b1
    try clear c9b2
    obtain ⟨kq, x44_2, rfl, HA, HJ2, HO_3, HO_4, HO_361000, HO_361001, BK360, HB⟩ := hcut
    cases kq with
    | zero => exact absurd HA.out (by simp [tattlelaw06_TableOrders.j0])
    | succ kj2 =>
      have H := HA.out
      clear HA
      simp only [tattlelaw06_TableOrders.j0] at H
      by_cases c16 : x44_2 = true
      · subst c16
        have H1 : ((tattlelaw06_awakeT.f).bind fun t365 => (some t365)) = some r := by rw [if_pos rfl] at H; exact H
        clear H
        have H := H1
        clear H1
        replace H := Option.bind_eq_some_iff.mp H
        obtain ⟨t365, A170, H⟩ := H
        replace H : (some t365) = some r := H
        have A17 := Aside0.mk A170
        clear A170
        as_aux_lemma =>
          obtain rfl := Option.some.inj H
          go_wp2_with (first | ((with_reducible refine gate_callee (f := 28) rfl ?_); refine goesL_ (some 45) rfl rfl Try.func28 (by kernel_rfl) rfl #[] rfl (by (try simp only [List.map_toArray, List.map_cons, List.map_nil]); first | done | rfl | (simp only [List.length_drop, List.length_take]; rfl)) ?_; (with_reducible refine (tattlelaw06_awakeT.calls  t365 _ A17.out).mono ?_); rintro e w18 ⟨rfl, hb⟩; refine ⟨_, rfl, ?_⟩; have n0_ := Aside0.mk (Kd.V_below (by (with_reducible repeat (first | apply Kd.V_alloc | apply Kd.V_drewN | apply Kd.V_drew)); exact HO_361000.out) hb); have n1_ := Aside0.mk (Kd.V_below (by (with_reducible repeat (first | apply Kd.V_alloc | apply Kd.V_drewN | apply Kd.V_drew)); exact HO_361001.out) hb); have n2_ := Aside0.mk (blk_below (g := gb360) (o := .cells #[.slice A0_0 l0_0.length c0_0, .slice A0_1 l0_1.length c0_1, .slice A0_2 l0_2.length c0_2, .slice A0_3 l0_3.length c0_3] 47 (0, 0)) (by (with_reducible repeat (first | refine blk_drewN ?_ _ | refine blk_drew ?_ | refine blk_alloc ?_ _)); exact BK360.out) hb); have n3_ := Aside0.mk (below_step (by repeat (first | (with_reducible first | exact HB.out | apply below_alloc | apply pw_below_drewN | apply below_drew1 | refine below_set ?_ GE360.out) | exact HB.out)) hb); clear HO_361000; clear HO_361001; clear BK360; clear HB; have HO_361000 := n0_; have HO_361001 := n1_; have BK360 := n2_; have HB := n3_; clear n0_ n1_ n2_ n3_; (try clear hb); (try clear hb2); (try clear hk); (try clear hi)))
          go_ret
          exact ⟨by first | rfl | (simp [errW_none, errW_some] <;> rfl) | (simp [*, errW_none, errW_some] <;> rfl), by repeat (first | (with_reducible first | exact HB.out | apply below_alloc | apply pw_below_drewN | apply below_drew1 | refine below_set ?_ GE360.out) | exact HB.out)⟩
      · replace c16 := Bool.eq_false_iff.mpr c16
        subst c16
        have H1 : (if (l0_1.length : Int) > 12 then (if 12 ≤ (l0_1.length : Int) then (tattlelaw06_TableOrders.j1 kj2 t361 (l0_1.take 12) l0_2 l0_3) else (none)) else (tattlelaw06_TableOrders.j1 kj2 t361 l0_1 l0_2 l0_3)) = some r := by rw [if_neg (show ¬ (false = true) by decide)] at H; exact H
        clear H
        have H := H1
        clear H1
        have HC19 := Aside0.mk H
        clear H
        go_upto_if 48 with (fail)
        go_cut [4] (fun v4 wc => ∃ (kq : Nat) (x4_18 : List (S26)), Aside0 (tattlelaw06_TableOrders.j1 kq t361 x4_18 l0_2 l0_3 = some r) ∧ Aside0 (kq ≤ kj2) ∧ Aside0 (Kd.V k26 26 wc w.heap.size (fun k_ => ((P0_0_ k_ ∨ P0_1_ k_) ∨ w.heap.size ≤ k_) ∧ k_ ≠ gb360) v362 t361) ∧ Aside0 (Kd.V k26 26 wc w.heap.size (fun k_ => ((P0_0_ k_ ∨ P0_1_ k_) ∨ w.heap.size ≤ k_) ∧ k_ ≠ gb360) v4 x4_18) ∧ Aside0 (Kd.V k26 26 wc w.heap.size (fun k_ => ((P0_0_ k_ ∨ P0_1_ k_) ∨ w.heap.size ≤ k_) ∧ k_ ≠ gb360) (.slice A0_0 l0_0.length c0_0) l0_0) ∧ Aside0 (Kd.V k26 26 wc w.heap.size (fun k_ => ((P0_0_ k_ ∨ P0_1_ k_) ∨ w.heap.size ≤ k_) ∧ k_ ≠ gb360) (.slice A0_1 l0_1.length c0_1) l0_1) ∧ Aside0 (wc.heap[gb360]? = some (.cells #[(.slice A0_0 l0_0.length c0_0), (.slice A0_1 l0_1.length c0_1), (.slice A0_2 l0_2.length c0_2), (.slice A0_3 l0_3.length c0_3)] 47 (0, 0))) ∧ Aside0 (Below w.heap.size w wc))
        case first => as_aux_lemma =>
          have H := HC19.out
          clear HC19
          by_cases c20 : (l0_1.length : Int) > 12
          · rw [if_pos c20] at H
            have c20b0 : decide (12 < (l0_1.length : Int)) = true := decide_eq_true c20
            have c20b1 : decide (12 < l0_1.length) = true := decide_eq_true (by omega)
            clear c20
            (first | rw [c20b0] | (simp only [i64_w, i32_w]; rw [c20b0]) | skip)
            by_cases c21 : 12 ≤ (l0_1.length : Int)
            · rw [if_pos c21] at H
              have c21b0 := eq_true c21
              have c21b1 : decide (12 ≤ (l0_1.length : Int)) = true := decide_eq_true c21
              clear c21
              obtain ⟨y366, hy366⟩ : ∃ y_ : List (S26), y_ = (l0_1.take 12) := ⟨_, rfl⟩
              replace H : (tattlelaw06_TableOrders.j1 kj2 t361 y366 l0_2 l0_3) = some r := by first | (rw [hy366]; with_reducible exact H) | (have H2_ := (Option.bind_some _ _).symm.trans H; rw [hy366]; with_reducible exact H2_) | (have H2_ := (Option.bind_some _ _).symm.trans H; with_reducible exact H2_) | with_reducible exact H | (rw [hy366]; exact H) | exact H
              have Ny366 := Aside0.mk hy366
              clear hy366
              as_aux_lemma =>
                have H' := Aside0.mk H
                clear H
                have q22 : (12 : Int) ≤ ((l0_1.length : Int) : Int) := of_decide_eq_true (by first | (with_reducible assumption) | assumption)
                obtain ⟨i022, hi022, _, hsz22, _⟩ := info_parts info26
                have hroom22 : l0_1.length ≤ c0_1 := (Kd.V_reads' HO_4.out).2.1
                have hC22 : Kd.F k26 _ _ A0_1 l0_1.length l0_1 := (Kd.V_at (base := w.heap.size) HO_4.out).2.2
                have hcut22 := cut_to (P := Try.prog) 22 26 .i64 Try.underlying22 hi022 A0_1 l0_1.length c0_1 12 (by omega) q22 hroom22
                have hr22 := Kd.F_take (m := 12) hC22 (by omega)
                have hy22 : y366.length = (12 : Int).toNat := (by rw [Ny366.out, List.length_take]; omega)
                rw [← Ny366.out] at hr22
                rw [← hy22] at hcut22
                have HO370 := Aside0.mk (show Kd.V k26 26 _ w.heap.size _ (.slice A0_1 y366.length c0_1) y366 from Kd.V_mk (by omega) hr22)
                have HC370 := Aside0.mk (show y366.length ≤ c0_1 from by omega)
                clear hr22 hC22 hroom22 hi022 hsz22
                have KY22 := Aside0.mk hy22
                clear hy22
                replace q22 := eq_true q22
                go_wp2
                go_meet
                case rel => exact ⟨_, (y366), H', ⟨by have := HJ2.out; first | omega | exact Nat.le_refl _⟩, ⟨by (with_reducible repeat (first | apply Kd.V_alloc | apply Kd.V_drewN | apply Kd.V_drew)); exact HO_3.out⟩, ⟨by (with_reducible repeat (first | apply Kd.V_alloc | apply Kd.V_drewN | apply Kd.V_drew)); exact HO370.out⟩, ⟨by (with_reducible repeat (first | apply Kd.V_alloc | apply Kd.V_drewN | apply Kd.V_drew)); exact HO_361000.out⟩, ⟨by (with_reducible repeat (first | apply Kd.V_alloc | apply Kd.V_drewN | apply Kd.V_drew)); exact HO_361001.out⟩, ⟨by (with_reducible repeat (first | refine blk_drewN ?_ _ | refine blk_drew ?_ | refine blk_alloc ?_ _)); exact BK360.out⟩, ⟨by repeat (first | (with_reducible first | exact HB.out | apply below_alloc | apply pw_below_drewN | apply below_drew1 | refine below_set ?_ GE360.out) | exact HB.out)⟩⟩
            · rw [if_neg c21] at H
              exact absurd H (by simp)
          · rw [if_neg c20] at H
            have c20b0 : decide (12 < (l0_1.length : Int)) = false := decide_eq_false c20
            have c20b1 : decide (12 < l0_1.length) = false := decide_eq_false (by omega)
            clear c20
            (first | rw [c20b0] | (simp only [i64_w, i32_w]; rw [c20b0]) | skip)
            as_aux_lemma =>
              have H' := Aside0.mk H
              clear H
              go_wp2
              go_meet
              case rel => exact ⟨_, (l0_1), H', ⟨by have := HJ2.out; first | omega | exact Nat.le_refl _⟩, ⟨by (with_reducible repeat (first | apply Kd.V_alloc | apply Kd.V_drewN | apply Kd.V_drew)); exact HO_3.out⟩, ⟨by (with_reducible repeat (first | apply Kd.V_alloc | apply Kd.V_drewN | apply Kd.V_drew)); exact HO_4.out⟩, ⟨by (with_reducible repeat (first | apply Kd.V_alloc | apply Kd.V_drewN | apply Kd.V_drew)); exact HO_361000.out⟩, ⟨by (with_reducible repeat (first | apply Kd.V_alloc | apply Kd.V_drewN | apply Kd.V_drew)); exact HO_361001.out⟩, ⟨by (with_reducible repeat (first | refine blk_drewN ?_ _ | refine blk_drew ?_ | refine blk_alloc ?_ _)); exact BK360.out⟩, ⟨by repeat (first | (with_reducible first | exact HB.out | apply below_alloc | apply pw_below_drewN | apply below_drew1 | refine below_set ?_ GE360.out) | exact HB.out)⟩⟩
        case rest => as_aux_lemma =>
          clear HC19
          try clear c1
          try clear c2
          try clear p2
          try clear q2
          try clear c8
          try clear c8b0
          try clear c8b1
          try clear c9
          try clear c9b0
          try clear c9b1
          try clear c9b2
          try clear c16
          try clear c20
          try clear c20b0
          try clear c20b1
          try clear c21
          try clear c21b0
          try clear c21b1
          try clear q22
          try clear p2
          try clear q22
          obtain ⟨kq, x4_18, HA, HJ18, HO_3, HO_4, HO_361000, HO_361001, BK360, HB⟩ := hcut
          cases kq with
          | zero => exact absurd HA.out (by simp [tattlelaw06_TableOrders.j1])
          | succ kj18 =>
            have H := HA.out
            clear HA
            simp only [tattlelaw06_TableOrders.j1] at H
            have H' := Aside0.mk H
            clear H
            go_wp2
            go_loopg [7, 9] kj18 (fun kq v7 v9 w' => ∃ (x7_3 : List (S26)) (x9_3 : Int), v9 = .int .i64 x9_3 ∧ Aside0 (tattlelaw06_TableOrders.l0 kq t361 x4_18 l0_2 l0_3 x7_3 t361 x9_3 = some r) ∧ Aside0 (kq ≤ kj18) ∧ Aside0 (Kd.V k26 26 w' w.heap.size (fun k_ => ((P0_0_ k_ ∨ P0_1_ k_) ∨ w.heap.size ≤ k_) ∧ k_ ≠ gb360) v362 t361) ∧ Aside0 (Kd.V k26 26 w' w.heap.size (fun k_ => ((P0_0_ k_ ∨ P0_1_ k_) ∨ w.heap.size ≤ k_) ∧ k_ ≠ gb360) u4 x4_18) ∧ Aside0 (Kd.V k26 26 w' w.heap.size (fun k_ => ((P0_0_ k_ ∨ P0_1_ k_) ∨ w.heap.size ≤ k_) ∧ k_ ≠ gb360) v7 x7_3) ∧ Aside0 (Kd.V k26 26 w' w.heap.size (fun k_ => ((P0_0_ k_ ∨ P0_1_ k_) ∨ w.heap.size ≤ k_) ∧ k_ ≠ gb360) v362 t361) ∧ Aside0 (Kd.V k26 26 w' w.heap.size (fun k_ => ((P0_0_ k_ ∨ P0_1_ k_) ∨ w.heap.size ≤ k_) ∧ k_ ≠ gb360) (.slice A0_0 l0_0.length c0_0) l0_0) ∧ Aside0 (Kd.V k26 26 w' w.heap.size (fun k_ => ((P0_0_ k_ ∨ P0_1_ k_) ∨ w.heap.size ≤ k_) ∧ k_ ≠ gb360) (.slice A0_1 l0_1.length c0_1) l0_1) ∧ Aside0 (w'.heap[gb360]? = some (.cells #[(.slice A0_0 l0_0.length c0_0), (.slice A0_1 l0_1.length c0_1), (.slice A0_2 l0_2.length c0_2), (.slice A0_3 l0_3.length c0_3)] 47 (0, 0))) ∧ Aside0 (Below w.heap.size w w'))
            case atStart => exact ⟨(t361), (0), (by first | rfl | (simp; done) | (simp [*]; done)), H', ⟨Nat.le_refl _⟩, ⟨by (with_reducible repeat (first | apply Kd.V_alloc | apply Kd.V_drewN | apply Kd.V_drew)); exact HO_3.out⟩, ⟨by (with_reducible repeat (first | apply Kd.V_alloc | apply Kd.V_drewN | apply Kd.V_drew)); exact HO_4.out⟩, ⟨by (with_reducible repeat (first | apply Kd.V_alloc | apply Kd.V_drewN | apply Kd.V_drew)); exact HO_3.out⟩, ⟨by (with_reducible repeat (first | apply Kd.V_alloc | apply Kd.V_drewN | apply Kd.V_drew)); exact HO_3.out⟩, ⟨by (with_reducible repeat (first | apply Kd.V_alloc | apply Kd.V_drewN | apply Kd.V_drew)); exact HO_361000.out⟩, ⟨by (with_reducible repeat (first | apply Kd.V_alloc | apply Kd.V_drewN | apply Kd.V_drew)); exact HO_361001.out⟩, ⟨by (with_reducible repeat (first | refine blk_drewN ?_ _ | refine blk_drew ?_ | refine blk_alloc ?_ _)); exact BK360.out⟩, ⟨by repeat (first | (with_reducible first | exact HB.out | apply below_alloc | apply pw_below_drewN | apply below_drew1 | refine below_set ?_ GE360.out) | exact HB.out)⟩⟩
            case round =>
              clear H'
              try clear c1
              try clear c2
              try clear p2
              try clear q2
              try clear c8
              try clear c8b0
              try clear c8b1
              try clear c9
              try clear c9b0
              try clear c9b1
              try clear c9b2
              try clear c16
              try clear c20
              try clear c20b0
              try clear c20b1
              try clear c21
              try clear c21b0
              try clear c21b1
              try clear q22
              try clear p2
              try clear q2
              try clear q22
              obtain ⟨x7_3, x9_3, rfl, HA, HK3, HO_3, HO_4, HO_7, HO_8, HO_361000, HO_361001, BK360, HB⟩ := hrel
              cases gk with
              | zero => exact absurd HA.out (by simp [tattlelaw06_TableOrders.l0])
              | succ k3 =>
                have H := HA.out
                clear HA
                simp only [tattlelaw06_TableOrders.l0] at H
                by_cases c23 : x9_3 < (x4_18.length : Int)
                · rw [if_pos c23] at H
                  have c23b0 : decide (x9_3 < (x4_18.length : Int)) = true := decide_eq_true c23
                  clear c23
                  by_cases c24 : 0 ≤ x9_3
                  · rw [if_pos c24] at H
                    have c24b0 : decide (0 ≤ x9_3) = true := decide_eq_true c24
                    clear c24
                    replace H := Option.bind_eq_some_iff.mp H
                    obtain ⟨t372, A250, H⟩ := H
                    replace H : (if t372 = true then (if (l0_2.length : Int) = 0 then (none) else (if 0 ≤ (Int.tmod x9_3 (l0_2.length : Int)) then (if (Int.tmod x9_3 (l0_2.length : Int)) < (l0_2.length : Int) then (if (t361.length : Int) = 0 then (none) else ((table_Apply.f k3 x7_3 (Int.tmod (wrap64 (rd l0_2 (Int.tmod x9_3 (l0_2.length : Int)))) (t361.length : Int)) ((rd_T26 x4_18 x9_3).f0) ((rd_T26 x4_18 x9_3).f1)).bind fun bt376 => (if bt376.2.2 = 0 then (tattlelaw06_TableOrders.j3 k3 t361 x4_18 l0_2 l0_3 x7_3 t361 x9_3 bt376.1 ((bt376.1.length : Int) != (x7_3.length : Int))) else (tattlelaw06_TableOrders.j3 k3 t361 x4_18 l0_2 l0_3 x7_3 t361 x9_3 bt376.1 true)))) else (none)) else (none))) else ((tattlelaw06_awakeT.f).bind fun t373 => (some t373))) = some r := H
                    have A25 := Aside0.mk A250
                    clear A250
                    by_cases c26 : t372 = true
                    · subst c26
                      have H1 : (if (l0_2.length : Int) = 0 then (none) else (if 0 ≤ (Int.tmod x9_3 (l0_2.length : Int)) then (if (Int.tmod x9_3 (l0_2.length : Int)) < (l0_2.length : Int) then (if (t361.length : Int) = 0 then (none) else ((table_Apply.f k3 x7_3 (Int.tmod (wrap64 (rd l0_2 (Int.tmod x9_3 (l0_2.length : Int)))) (t361.length : Int)) ((rd_T26 x4_18 x9_3).f0) ((rd_T26 x4_18 x9_3).f1)).bind fun bt376 => (if bt376.2.2 = 0 then (tattlelaw06_TableOrders.j3 k3 t361 x4_18 l0_2 l0_3 x7_3 t361 x9_3 bt376.1 ((bt376.1.length : Int) != (x7_3.length : Int))) else (tattlelaw06_TableOrders.j3 k3 t361 x4_18 l0_2 l0_3 x7_3 t361 x9_3 bt376.1 true)))) else (none)) else (none))) = some r := by rw [if_pos rfl] at H; exact H
                      clear H
                      have H := H1
                      clear H1
                      by_cases c27 : (l0_2.length : Int) = 0
                      · rw [if_pos c27] at H
                        exact absurd H (by simp)
                      · rw [if_neg c27] at H
                        have c27b0 : ((l0_2.length : Int) == 0) = false := beq_eq_false_iff_ne.mpr c27
                        have c27b1 : ((l0_2.length : Int) != 0) = true := bne_iff_ne.mpr c27
                        have c27b2 : ¬ (l0_2 = []) := fun h_ => c27 (by rw [h_]; rfl)
                        obtain ⟨ji28, hji28⟩ : ∃ j_ : Int, (Int.tmod x9_3 (l0_2.length : Int)) = j_ := ⟨_, rfl⟩
                        replace H : (if 0 ≤ (ji28) then (if (ji28) < (l0_2.length : Int) then (if (t361.length : Int) = 0 then (none) else ((table_Apply.f k3 x7_3 (Int.tmod (wrap64 (rd l0_2 (ji28))) (t361.length : Int)) ((rd_T26 x4_18 x9_3).f0) ((rd_T26 x4_18 x9_3).f1)).bind fun bt376 => (if bt376.2.2 = 0 then (tattlelaw06_TableOrders.j3 k3 t361 x4_18 l0_2 l0_3 x7_3 t361 x9_3 bt376.1 ((bt376.1.length : Int) != (x7_3.length : Int))) else (tattlelaw06_TableOrders.j3 k3 t361 x4_18 l0_2 l0_3 x7_3 t361 x9_3 bt376.1 true)))) else (none)) else (none)) = some r := by first | (rw [hji28] at H; exact H) | (simp only [hji28] at H ⊢; exact H)
                        (try rw [hji28] at A25)
                        by_cases c29 : 0 ≤ (ji28)
                        · rw [if_pos c29] at H
                          have c29b0 : decide (0 ≤ (ji28)) = true := decide_eq_true c29
                          clear c29
                          by_cases c30 : (ji28) < (l0_2.length : Int)
                          · rw [if_pos c30] at H
                            have c30b0 : decide ((ji28) < (l0_2.length : Int)) = true := decide_eq_true c30
                            clear c30
                            by_cases c31 : (t361.length : Int) = 0
                            · rw [if_pos c31] at H
                              exact absurd H (by simp)
                            · rw [if_neg c31] at H
                              have c31b0 : ((t361.length : Int) == 0) = false := beq_eq_false_iff_ne.mpr c31
                              have c31b1 : ((t361.length : Int) != 0) = true := bne_iff_ne.mpr c31
                              have c31b2 : ¬ (t361 = []) := fun h_ => c31 (by rw [h_]; rfl)
                              replace H := Option.bind_eq_some_iff.mp H
                              obtain ⟨⟨t376, t379, t380⟩, A320, H⟩ := H
                              replace H : (if t380 = 0 then (tattlelaw06_TableOrders.j3 k3 t361 x4_18 l0_2 l0_3 x7_3 t361 x9_3 t376 ((t376.length : Int) != (x7_3.length : Int))) else (tattlelaw06_TableOrders.j3 k3 t361 x4_18 l0_2 l0_3 x7_3 t361 x9_3 t376 true)) = some r := H
                              have A32 := Aside0.mk A320
                              clear A320
                              have HC33 := Aside0.mk H
                              clear H
                              obtain ⟨Ao34, co34, eo34⟩ := Kd.V_slice HO_4.out
                              subst eo34
                              have p371 : 0 ≤ (x9_3 : Int) := of_decide_eq_true (by first | (with_reducible assumption) | assumption)
                              have q371 : x9_3 < (x4_18.length : Int) := of_decide_eq_true (by first | (with_reducible assumption) | assumption)
                              obtain ⟨ad371, e371, hx371_0, hx371_1⟩ := at_T26 (Kd.V_reads' HO_4.out).2.2 x9_3 p371 q371
                              cases e371
                              replace p371 := eq_true p371
                              replace q371 := eq_true q371
                              try go_wp2_with (first | ((with_reducible refine gate_callee (f := 17) rfl ?_); refine goesL_ (some 63) rfl rfl Try.func17 (by kernel_rfl) rfl #[.agg #[.int .u64 ((rd_T26 x4_18 x9_3).f0), .int .i64 ((rd_T26 x4_18 x9_3).f1)]] rfl (by (try simp only [List.map_toArray, List.map_cons, List.map_nil]); first | done | rfl | (simp only [List.length_drop, List.length_take]; rfl)) ?_; (with_reducible refine (tattleref05_May.calls ((rd_T26 x4_18 x9_3).f0) ((rd_T26 x4_18 x9_3).f1) true _ A25.out).mono ?_); rintro e w35 ⟨rfl, hb⟩; refine ⟨_, rfl, ?_⟩; have n0_ := Aside0.mk (Kd.V_below (by (with_reducible repeat (first | apply Kd.V_alloc | apply Kd.V_drewN | apply Kd.V_drew)); exact HO_3.out) hb); have n1_ := Aside0.mk (Kd.V_below (by (with_reducible repeat (first | apply Kd.V_alloc | apply Kd.V_drewN | apply Kd.V_drew)); exact HO_4.out) hb); have n2_ := Aside0.mk (Kd.V_below (by (with_reducible repeat (first | apply Kd.V_alloc | apply Kd.V_drewN | apply Kd.V_drew)); exact HO_7.out) hb); have n3_ := Aside0.mk (Kd.V_below (by (with_reducible repeat (first | apply Kd.V_alloc | apply Kd.V_drewN | apply Kd.V_drew)); exact HO_8.out) hb); have n4_ := Aside0.mk (Kd.V_below (by (with_reducible repeat (first | apply Kd.V_alloc | apply Kd.V_drewN | apply Kd.V_drew)); exact HO_361000.out) hb); have n5_ := Aside0.mk (Kd.V_below (by (with_reducible repeat (first | apply Kd.V_alloc | apply Kd.V_drewN | apply Kd.V_drew)); exact HO_361001.out) hb); have n6_ := Aside0.mk (blk_below (g := gb360) (o := .cells #[.slice A0_0 l0_0.length c0_0, .slice A0_1 l0_1.length c0_1, .slice A0_2 l0_2.length c0_2, .slice A0_3 l0_3.length c0_3] 47 (0, 0)) (by (with_reducible repeat (first | refine blk_drewN ?_ _ | refine blk_drew ?_ | refine blk_alloc ?_ _)); exact BK360.out) hb); have n7_ := Aside0.mk (below_step (by repeat (first | (with_reducible first | exact HB.out | apply below_alloc | apply pw_below_drewN | apply below_drew1 | refine below_set ?_ GE360.out) | exact HB.out)) hb); clear HO_3; clear HO_4; clear HO_7; clear HO_8; clear HO_361000; clear HO_361001; clear BK360; clear HB; have HO_3 := n0_; have HO_4 := n1_; have HO_7 := n2_; have HO_8 := n3_; have HO_361000 := n4_; have HO_361001 := n5_; have BK360 := n6_; have HB := n7_; clear n0_ n1_ n2_ n3_ n4_ n5_ n6_ n7_; (try clear hb); (try clear hb2); (try clear hk); (try clear hi)))
                              have n0_ := Aside0.mk (Kd.V_drew HO_3.out)
                              have n1_ := Aside0.mk (Kd.V_drew HO_4.out)
                              have n2_ := Aside0.mk (Kd.V_drew HO_7.out)
                              have n3_ := Aside0.mk (Kd.V_drew HO_8.out)
                              have n4_ := Aside0.mk (Kd.V_drew HO_361000.out)
                              have n5_ := Aside0.mk (Kd.V_drew HO_361001.out)
                              have n6_ := Aside0.mk (blk_drew BK360.out)
                              have n7_ := Aside0.mk (below_drew1 HB.out)
                              clear HO_3
                              clear HO_4
                              clear HO_7
                              clear HO_8
                              clear HO_361000
                              clear HO_361001
                              clear BK360
                              clear HB
                              have HO_3 := n0_
                              have HO_4 := n1_
                              have HO_7 := n2_
                              have HO_8 := n3_
                              have HO_361000 := n4_
                              have HO_361001 := n5_
                              have BK360 := n6_
                              have HB := n7_
                              clear n0_ n1_ n2_ n3_ n4_ n5_ n6_ n7_
                              have p374 : 0 ≤ ((ji28) : Int) := of_decide_eq_true (by first | (with_reducible assumption) | assumption)
                              have q374 : (ji28) < (l0_2.length : Int) := of_decide_eq_true (by first | (with_reducible assumption) | assumption)
                              obtain ⟨ad374, e374, hx374_0⟩ := Kd.at_int HR0_2.out (ji28) p374 q374
                              have hw374_0 := hx374_0
                              cases e374
                              replace hx374_0 := (HB.out.cell (World.block_lt_of_cell? w _ hx374_0)).trans hx374_0
                              replace p374 := eq_true p374
                              replace q374 := eq_true q374
                              obtain ⟨Ao37, co37, eo37⟩ := Kd.V_slice HO_3.out
                              (try (have KEEPHO_4 := HO_4))
                              (try (have KEEPHO_7 := HO_7))
                              (try (have KEEPHO_8 := HO_8))
                              (try (have KEEPHO_10 := HO_10))
                              (first | subst eo37 | (injection eo37 with f1_ f2_ f3_; have f4_ := f1_.symm; have f5_ := f3_.symm; clear f1_ f2_ f3_; subst f4_; subst f5_))
                              (try (have HO_4 := KEEPHO_4)); (try clear KEEPHO_4)
                              (try (have HO_7 := KEEPHO_7)); (try clear KEEPHO_7)
                              (try (have HO_8 := KEEPHO_8)); (try clear KEEPHO_8)
                              (try (have HO_10 := KEEPHO_10)); (try clear KEEPHO_10)
                              have p375 : 0 ≤ (x9_3 : Int) := of_decide_eq_true (by first | (with_reducible assumption) | assumption)
                              have q375 : x9_3 < (x4_18.length : Int) := of_decide_eq_true (by first | (with_reducible assumption) | assumption)
                              obtain ⟨ad375, e375, hx375_0, hx375_1⟩ := at_T26 (Kd.V_reads' HO_4.out).2.2 x9_3 p375 q375
                              obtain rfl : ad371 = ad375 := (by injection e375)
                              replace p375 := eq_true p375
                              replace q375 := eq_true q375
                              obtain ⟨Ao38, co38, eo38⟩ := Kd.V_slice HO_7.out
                              (try (have KEEPHO_4 := HO_4))
                              (try (have KEEPHO_7 := HO_7))
                              (try (have KEEPHO_8 := HO_8))
                              (try (have KEEPHO_10 := HO_10))
                              (first | subst eo38 | (injection eo38 with f1_ f2_ f3_; have f4_ := f1_.symm; have f5_ := f3_.symm; clear f1_ f2_ f3_; subst f4_; subst f5_))
                              (try (have HO_4 := KEEPHO_4)); (try clear KEEPHO_4)
                              (try (have HO_7 := KEEPHO_7)); (try clear KEEPHO_7)
                              (try (have HO_8 := KEEPHO_8)); (try clear KEEPHO_8)
                              (try (have HO_10 := KEEPHO_10)); (try clear KEEPHO_10)
                              refine start_ (n := 24) (S := fun w' => w'.cell? (ad374.add ((ji28)).toNat) = some (.int .u8 (rd l0_2 (ji28))) ∧ w'.cell? (ad371.add ((x9_3).toNat * 2)) = some (.int .u64 ((rd_T26 x4_18 x9_3).f0)) ∧ w'.cell? ⟨(ad371.add ((x9_3).toNat * 2)).block, (ad371.add ((x9_3).toNat * 2)).off + 1, none⟩ = some (.int .i64 ((rd_T26 x4_18 x9_3).f1))) (ds := []) #[false, false, false, false, false, false, false, false, false, false, false, false, false, false, false, false, false, false, false, false, false, false, false, false] (by kernel_rfl) rfl rfl ⟨((HB.out.cell (World.block_lt_of_cell? w _ hw374_0)).trans hw374_0), hx375_0, hx375_1⟩ (fun hHeld => ?_); refine with_tabW tattlelaw06_TableOrders.tab12 tattlelaw06_TableOrders.bits12 (fun HT_ HW_ => ?_)
                              generalize w35.drew = w36 at HO_3 HO_4 HO_7 HO_8 HO_361000 HO_361001 BK360 HB hx374_0 hx375_0 hx375_1 hHeld ⊢
                              refine pure_ (i := 0) (N := some 67) (v := ?_) (a' := ?_) #[true, false, false, false, false, false, false, false, false, false, false, false, false, false, false, false, false, false, false, false, false, false, false, false] rfl rfl (any_of HT_.out (by kernel_rfl)) (fun _ _ _ h => h) (Or.inl ⟨by rfl, ?_⟩) ?_ ?_
                              rotate_left
                              · intro w'
                                go_simp
                                with_reducible rfl
                              rotate_left
                              · simp only [Act.put, List.setIfInBounds_toArray, List.set_cons_zero, List.set_cons_succ, i64_w, i32_w]
                                rfl
                              refine pure_ (i := 1) (N := some 68) (v := ?_) (a' := ?_) #[true, true, false, false, false, false, false, false, false, false, false, false, false, false, false, false, false, false, false, false, false, false, false, false] rfl rfl (any_of HT_.out (by kernel_rfl)) (fun _ _ _ h => h) (Or.inl ⟨by rfl, ?_⟩) ?_ ?_
                              rotate_left
                              · intro w'
                                go_simp
                                with_reducible rfl
                              rotate_left
                              · simp only [Act.put, List.setIfInBounds_toArray, List.set_cons_zero, List.set_cons_succ, i64_w, i32_w]
                                rfl
                              refine pure_ (i := 2) (N := some 69) (v := ?_) (a' := ?_) #[true, true, true, false, false, false, false, false, false, false, false, false, false, false, false, false, false, false, false, false, false, false, false, false] rfl rfl (any_of HT_.out (by kernel_rfl)) (fun _ _ _ h => h) (Or.inl ⟨by rfl, ?_⟩) ?_ ?_
                              rotate_left
                              · intro w'
                                go_simp
                                with_reducible rfl
                              rotate_left
                              · simp only [Act.put, List.setIfInBounds_toArray, List.set_cons_zero, List.set_cons_succ, i64_w, i32_w]
                                rfl
                              refine pure_ (i := 3) (N := some 70) (v := ?_) (a' := ?_) #[true, true, true, true, false, false, false, false, false, false, false, false, false, false, false, false, false, false, false, false, false, false, false, false] rfl rfl (any_of HT_.out (by kernel_rfl)) (fun _ _ _ h => h) (Or.inl ⟨by rfl, ?_⟩) ?_ ?_
                              rotate_left
                              · intro w'
                                go_simp
                                with_reducible rfl
                              rotate_left
                              · simp only [Act.put, List.setIfInBounds_toArray, List.set_cons_zero, List.set_cons_succ, i64_w, i32_w]
                                rfl
                              refine pure_ (i := 4) (N := some 71) (v := ?_) (a' := ?_) #[true, true, true, true, true, false, false, false, false, false, false, false, false, false, false, false, false, false, false, false, false, false, false, false] rfl rfl (any_of HT_.out (by kernel_rfl)) (fun _ _ _ h => h) (Or.inl ⟨by rfl, ?_⟩) ?_ ?_
                              rotate_left
                              · intro w'
                                go_simp
                                with_reducible rfl
                              rotate_left
                              · simp only [Act.put, List.setIfInBounds_toArray, List.set_cons_zero, List.set_cons_succ, i64_w, i32_w]
                                rfl
                              refine pure_ (i := 5) (N := some 72) (v := ?_) (a' := ?_) #[true, true, true, true, true, true, false, false, false, false, false, false, false, false, false, false, false, false, false, false, false, false, false, false] rfl rfl (any_of HT_.out (by kernel_rfl)) (fun _ _ _ h => h) (Or.inl ⟨by rfl, ?_⟩) ?_ ?_
                              rotate_left
                              · intro w'
                                go_simp
                                with_reducible rfl
                              rotate_left
                              · simp only [Act.put, List.setIfInBounds_toArray, List.set_cons_zero, List.set_cons_succ, i64_w, i32_w]
                                rfl
                              refine pure_ (i := 6) (N := some 73) (v := ?_) (a' := ?_) #[true, true, true, true, true, true, true, false, false, false, false, false, false, false, false, false, false, false, false, false, false, false, false, false] rfl rfl (any_of HT_.out (by kernel_rfl)) (fun _ _ _ h => h) (Or.inl ⟨by rfl, ?_⟩) ?_ ?_
                              rotate_left
                              · intro w'
                                go_simp
                                with_reducible rfl
                              rotate_left
                              · simp only [Act.put, List.setIfInBounds_toArray, List.set_cons_zero, List.set_cons_succ, i64_w, i32_w]
                                rfl
                              refine pure_ (i := 9) (N := some 76) (v := ?_) (a' := ?_) #[true, true, true, true, true, true, true, false, false, true, false, false, false, false, false, false, false, false, false, false, false, false, false, false] rfl rfl (any_of HT_.out (by kernel_rfl)) (fun _ _ _ h => h) (Or.inl ⟨by rfl, ?_⟩) ?_ ?_
                              rotate_left
                              · intro w'
                                go_simp
                                with_reducible rfl
                              rotate_left
                              · simp only [Act.put, List.setIfInBounds_toArray, List.set_cons_zero, List.set_cons_succ, i64_w, i32_w]
                                rfl
                              refine pure_ (i := 10) (N := some 77) (v := ?_) (a' := ?_) #[true, true, true, true, true, true, true, false, false, true, true, false, false, false, false, false, false, false, false, false, false, false, false, false] rfl rfl (any_of HT_.out (by kernel_rfl)) (fun _ _ _ h => h) (Or.inl ⟨by rfl, ?_⟩) ?_ ?_
                              rotate_left
                              · intro w'
                                go_simp
                                with_reducible rfl
                              rotate_left
                              · simp only [Act.put, List.setIfInBounds_toArray, List.set_cons_zero, List.set_cons_succ, i64_w, i32_w]
                                rfl
                              refine pure_ (i := 12) (N := some 79) (v := ?_) (a' := ?_) #[true, true, true, true, true, true, true, false, false, true, true, false, true, false, false, false, false, false, false, false, false, false, false, false] rfl rfl (any_of HT_.out (by kernel_rfl)) (fun _ _ _ h => h) (Or.inl ⟨by rfl, ?_⟩) ?_ ?_
                              rotate_left
                              · intro w'
                                go_simp
                                with_reducible rfl
                              rotate_left
                              · simp only [Act.put, List.setIfInBounds_toArray, List.set_cons_zero, List.set_cons_succ, i64_w, i32_w]
                                rfl
                              refine pure_ (i := 13) (N := some 80) (v := ?_) (a' := ?_) #[true, true, true, true, true, true, true, false, false, true, true, false, true, true, false, false, false, false, false, false, false, false, false, false] rfl rfl (any_of HT_.out (by kernel_rfl)) (fun _ _ _ h => h) (Or.inl ⟨by rfl, ?_⟩) ?_ ?_
                              rotate_left
                              · intro w'
                                go_simp
                                with_reducible rfl
                              rotate_left
                              · simp only [Act.put, List.setIfInBounds_toArray, List.set_cons_zero, List.set_cons_succ, i64_w, i32_w]
                                rfl
                              refine pure_ (i := 14) (N := some 81) (v := ?_) (a' := ?_) #[true, true, true, true, true, true, true, false, false, true, true, false, true, true, true, false, false, false, false, false, false, false, false, false] rfl rfl (any_of HT_.out (by kernel_rfl)) (fun _ _ _ h => h) (Or.inl ⟨by rfl, ?_⟩) ?_ ?_
                              rotate_left
                              · intro w'
                                go_simp
                                with_reducible rfl
                              rotate_left
                              · simp only [Act.put, List.setIfInBounds_toArray, List.set_cons_zero, List.set_cons_succ, i64_w, i32_w]
                                rfl
                              refine take_ (i := 7) (N := some 74) (v := ?_) (a' := ?_) #[true, true, true, true, true, true, true, true, false, true, true, false, true, true, true, false, false, false, false, false, false, false, false, false] rfl rfl (take_ofW HT_.out HW_.out (by kernel_rfl)) (fun _ _ _ h => h) (Or.inl ⟨by rfl, ?_⟩) hHeld ?_ ?_
                              rotate_left
                              · rintro w' ⟨s0, s1, s2⟩
                                go_simp
                                with_reducible rfl
                              rotate_left
                              · simp only [Act.put, List.setIfInBounds_toArray, List.set_cons_zero, List.set_cons_succ, i64_w, i32_w]
                                rfl
                              refine pure_ (i := 8) (N := some 75) (v := ?_) (a' := ?_) #[true, true, true, true, true, true, true, true, true, true, true, false, true, true, true, false, false, false, false, false, false, false, false, false] rfl rfl (any_of HT_.out (by kernel_rfl)) (fun _ _ _ h => h) (Or.inl ⟨by rfl, ?_⟩) ?_ ?_
                              rotate_left
                              · intro w'
                                go_simp
                                with_reducible rfl
                              rotate_left
                              · simp only [Act.put, List.setIfInBounds_toArray, List.set_cons_zero, List.set_cons_succ, i64_w, i32_w]
                                rfl
                              refine pure_ (i := 11) (N := some 78) (v := ?_) (a' := ?_) #[true, true, true, true, true, true, true, true, true, true, true, true, true, true, true, false, false, false, false, false, false, false, false, false] rfl rfl (any_of HT_.out (by kernel_rfl)) (fun _ _ _ h => h) (Or.inl ⟨by rfl, ?_⟩) ?_ ?_
                              rotate_left
                              · intro w'
                                go_simp
                                with_reducible rfl
                              rotate_left
                              · simp only [Act.put, List.setIfInBounds_toArray, List.set_cons_zero, List.set_cons_succ, i64_w, i32_w]
                                rfl
                              refine take_ (i := 15) (N := some 82) (v := ?_) (a' := ?_) #[true, true, true, true, true, true, true, true, true, true, true, true, true, true, true, true, false, false, false, false, false, false, false, false] rfl rfl (take_ofW HT_.out HW_.out (by kernel_rfl)) (fun _ _ _ h => h) (Or.inl ⟨by rfl, ?_⟩) hHeld ?_ ?_
                              rotate_left
                              · rintro w' ⟨s0, s1, s2⟩
                                go_simp
                                with_reducible rfl
                              rotate_left
                              · simp only [Act.put, List.setIfInBounds_toArray, List.set_cons_zero, List.set_cons_succ, i64_w, i32_w]
                                rfl
                              refine one_ (i := 16) (N := some 83) #[true, true, true, true, true, true, true, true, true, true, true, true, true, true, true, true, true, false, false, false, false, false, false, false] rfl rfl (one_of HT_.out (by kernel_rfl)) (by decide) (fun K hK => ?_)
                              refine goes_ Try.func29 (by kernel_rfl) rfl #[.slice Ao38 x7_3.length co38, .int .i64 (Int.tmod (wrap64 (rd l0_2 (ji28))) (t361.length : Int)), .agg #[.int .u64 ((rd_T26 x4_18 x9_3).f0), .int .i64 ((rd_T26 x4_18 x9_3).f1)]] (by rfl) rfl rfl (by (try simp only [List.map_toArray, List.map_cons, List.map_nil]); first | done | (simp only [hji28]; rfl) | rfl | (simp only [List.length_drop, List.length_take]; rfl)) ?_
                              with_reducible refine (table_Apply.calls k3 (fun k_ => (((P0_0_ k_ ∨ P0_1_ k_) ∨ w.heap.size ≤ k_) ∧ k_ ≠ gb360)) _ _ x7_3 (Int.tmod (wrap64 (rd l0_2 (ji28))) (t361.length : Int)) ((rd_T26 x4_18 x9_3).f0) ((rd_T26 x4_18 x9_3).f1) t376 t379 t380 _ ?side1 A32.out).mono ?_
                              (case side1 => exact HO_7.out)
                              rintro e w39 ⟨v377, rfl, ho0, hb⟩
                              have HS1_ := (hb.cell (World.block_lt_of_cell? _ _ (hHeld.2.1))).trans (hHeld.2.1)
                              have HS2_ := (hb.cell (World.block_lt_of_cell? _ _ (hHeld.2.2))).trans (hHeld.2.2)
                              refine ⟨_, rfl, ?_⟩
                              have n0_ := Aside0.mk (Kd.V_below (by (with_reducible repeat (first | apply Kd.V_alloc | apply Kd.V_drewN | apply Kd.V_drew)); exact HO_3.out) hb)
                              have n1_ := Aside0.mk (Kd.V_below (by (with_reducible repeat (first | apply Kd.V_alloc | apply Kd.V_drewN | apply Kd.V_drew)); exact HO_4.out) hb)
                              have n2_ := Aside0.mk (Kd.V_below (by (with_reducible repeat (first | apply Kd.V_alloc | apply Kd.V_drewN | apply Kd.V_drew)); exact HO_7.out) hb)
                              have n3_ := Aside0.mk (Kd.V_below (by (with_reducible repeat (first | apply Kd.V_alloc | apply Kd.V_drewN | apply Kd.V_drew)); exact HO_8.out) hb)
                              have n4_ := Aside0.mk (Kd.V_below (by (with_reducible repeat (first | apply Kd.V_alloc | apply Kd.V_drewN | apply Kd.V_drew)); exact HO_361000.out) hb)
                              have n5_ := Aside0.mk (Kd.V_below (by (with_reducible repeat (first | apply Kd.V_alloc | apply Kd.V_drewN | apply Kd.V_drew)); exact HO_361001.out) hb)
                              have n6_ := Aside0.mk (Kd.V_lower (Kd.V_mono (ok' := fun k_ => ((P0_0_ k_ ∨ P0_1_ k_) ∨ w.heap.size ≤ k_) ∧ k_ ≠ gb360) ho0 (fun k_ hk_ => ⟨Or.elim hk_ (fun hs_ => hs_.1) (fun hn_ => (.inr (Nat.le_trans (below_size (by repeat (first | (with_reducible first | exact HB.out | apply below_alloc | apply pw_below_drewN | apply below_drew1 | refine below_set ?_ GE360.out) | exact HB.out))) hn_))), Or.elim hk_ (fun hs_ => hs_.2) (fun hn_ => (Kd.freshB (g := gb360) (o := .cells #[.slice A0_0 l0_0.length c0_0, .slice A0_1 l0_1.length c0_1, .slice (some ad374) l0_2.length c0_2, .slice A0_3 l0_3.length c0_3] 47 (0, 0)) (by (with_reducible repeat (first | refine blk_drewN ?_ _ | refine blk_drew ?_ | refine blk_alloc ?_ _)); exact BK360.out) k_ hn_))⟩)) (below_size (by repeat (first | (with_reducible first | exact HB.out | apply below_alloc | apply pw_below_drewN | apply below_drew1 | refine below_set ?_ GE360.out) | exact HB.out))))
                              have n7_ := Aside0.mk (blk_below (g := gb360) (o := .cells #[.slice A0_0 l0_0.length c0_0, .slice A0_1 l0_1.length c0_1, .slice (some ad374) l0_2.length c0_2, .slice A0_3 l0_3.length c0_3] 47 (0, 0)) (by (with_reducible repeat (first | refine blk_drewN ?_ _ | refine blk_drew ?_ | refine blk_alloc ?_ _)); exact BK360.out) hb)
                              have n8_ := Aside0.mk (below_step (by repeat (first | (with_reducible first | exact HB.out | apply below_alloc | apply pw_below_drewN | apply below_drew1 | refine below_set ?_ GE360.out) | exact HB.out)) hb)
                              clear HO_3
                              clear HO_4
                              clear HO_7
                              clear HO_8
                              clear HO_361000
                              clear HO_361001
                              clear BK360
                              clear HB
                              have HO_3 := n0_
                              have HO_4 := n1_
                              have HO_7 := n2_
                              have HO_8 := n3_
                              have HO_361000 := n4_
                              have HO_361001 := n5_
                              have HO378 := n6_
                              have BK360 := n7_
                              have HB := n8_
                              clear n0_ n1_ n2_ n3_ n4_ n5_ n6_ n7_ n8_
                              (try clear hb)
                              (try clear hb2)
                              (try clear hk)
                              (try clear hi)
                              (try clear ho0)
                              refine hK.out _ _ ⟨((HB.out.cell (World.block_lt_of_cell? w _ hw374_0)).trans hw374_0), HS1_, HS2_⟩ (fun hHeld => ?_)
                              clear hK K
                              refine norm_ (a' := ?_) ?_ ?_
                              rotate_left
                              · show Act.put _ (some 83) _ = _
                                simp only [Act.put, List.setIfInBounds_toArray, List.set_cons_zero, List.set_cons_succ, i64_w, i32_w]
                                rfl
                              refine pure_ (i := 17) (N := some 66) (v := ?_) (a' := ?_) #[true, true, true, true, true, true, true, true, true, true, true, true, true, true, true, true, true, true, false, false, false, false, false, false] rfl rfl (any_of HT_.out (by kernel_rfl)) (fun _ _ _ h => h) (Or.inl ⟨by rfl, ?_⟩) ?_ ?_
                              rotate_left
                              · intro w'
                                go_simp
                                with_reducible rfl
                              rotate_left
                              · simp only [Act.put, List.setIfInBounds_toArray, List.set_cons_zero, List.set_cons_succ, i64_w, i32_w]
                                rfl
                              refine pure_ (i := 18) (N := some 84) (v := ?_) (a' := ?_) #[true, true, true, true, true, true, true, true, true, true, true, true, true, true, true, true, true, true, true, false, false, false, false, false] rfl rfl (any_of HT_.out (by kernel_rfl)) (fun _ _ _ h => h) (Or.inl ⟨by rfl, ?_⟩) ?_ ?_
                              rotate_left
                              · intro w'
                                go_simp
                                with_reducible rfl
                              rotate_left
                              · simp only [Act.put, List.setIfInBounds_toArray, List.set_cons_zero, List.set_cons_succ, i64_w, i32_w]
                                rfl
                              refine pure_ (i := 19) (N := some 85) (v := ?_) (a' := ?_) #[true, true, true, true, true, true, true, true, true, true, true, true, true, true, true, true, true, true, true, true, false, false, false, false] rfl rfl (any_of HT_.out (by kernel_rfl)) (fun _ _ _ h => h) (Or.inl ⟨by rfl, ?_⟩) ?_ ?_
                              rotate_left
                              · intro w'
                                go_simp
                                with_reducible rfl
                              rotate_left
                              · simp only [Act.put, List.setIfInBounds_toArray, List.set_cons_zero, List.set_cons_succ, i64_w, i32_w]
                                rfl
                              refine pure_ (i := 20) (N := some 86) (v := ?_) (a' := ?_) #[true, true, true, true, true, true, true, true, true, true, true, true, true, true, true, true, true, true, true, true, true, false, false, false] rfl rfl (any_of HT_.out (by kernel_rfl)) (fun _ _ _ h => h) (Or.inl ⟨by rfl, ?_⟩) ?_ ?_
                              rotate_left
                              · intro w'
                                go_simp
                                with_reducible rfl
                              rotate_left
                              · simp only [Act.put, List.setIfInBounds_toArray, List.set_cons_zero, List.set_cons_succ, i64_w, i32_w]
                                rfl
                              refine pure_ (i := 21) (N := some 10) (v := ?_) (a' := ?_) #[true, true, true, true, true, true, true, true, true, true, true, true, true, true, true, true, true, true, true, true, true, true, false, false] rfl rfl (any_of HT_.out (by kernel_rfl)) (fun _ _ _ h => h) (Or.inl ⟨by rfl, ?_⟩) ?_ ?_
                              rotate_left
                              · intro w'
                                go_simp
                                with_reducible rfl
                              rotate_left
                              · simp only [Act.put, List.setIfInBounds_toArray, List.set_cons_zero, List.set_cons_succ, i64_w, i32_w]
                                rfl
                              refine pure_ (i := 22) (N := some 11) (v := ?_) (a' := ?_) #[true, true, true, true, true, true, true, true, true, true, true, true, true, true, true, true, true, true, true, true, true, true, true, false] rfl rfl (any_of HT_.out (by kernel_rfl)) (fun _ _ _ h => h) (Or.inl ⟨by rfl, ?_⟩) ?_ ?_
                              rotate_left
                              · intro w'
                                go_simp
                                with_reducible rfl
                              rotate_left
                              · simp only [Act.put, List.setIfInBounds_toArray, List.set_cons_zero, List.set_cons_succ, i64_w, i32_w]
                                rfl
                              refine pure_ (i := 23) (N := some 12) (v := ?_) (a' := ?_) #[true, true, true, true, true, true, true, true, true, true, true, true, true, true, true, true, true, true, true, true, true, true, true, true] rfl rfl (any_of HT_.out (by kernel_rfl)) (fun _ _ _ h => h) (Or.inl ⟨by rfl, ?_⟩) ?_ ?_
                              rotate_left
                              · intro w'
                                go_simp
                                with_reducible rfl
                              rotate_left
                              · simp only [Act.put, List.setIfInBounds_toArray, List.set_cons_zero, List.set_cons_succ, i64_w, i32_w]
                                rfl
                              refine done_ (done_of HT_.out (by kernel_rfl)) ?_
                              go_upto_region 13 with (fail)
                              go_cut [95] (fun v95 wc => ∃ (kq : Nat) (x95_32 : Bool), v95 = .bool x95_32 ∧ Aside0 (tattlelaw06_TableOrders.j3 kq t361 x4_18 l0_2 l0_3 x7_3 t361 x9_3 t376 x95_32 = some r) ∧ Aside0 (kq ≤ k3) ∧ Aside0 (Kd.V k26 26 wc w.heap.size (fun k_ => ((P0_0_ k_ ∨ P0_1_ k_) ∨ w.heap.size ≤ k_) ∧ k_ ≠ gb360) (.slice Ao37 t361.length co37) t361) ∧ Aside0 (Kd.V k26 26 wc w.heap.size (fun k_ => ((P0_0_ k_ ∨ P0_1_ k_) ∨ w.heap.size ≤ k_) ∧ k_ ≠ gb360) (.slice (some ad371) x4_18.length co34) x4_18) ∧ Aside0 (Kd.V k26 26 wc w.heap.size (fun k_ => ((P0_0_ k_ ∨ P0_1_ k_) ∨ w.heap.size ≤ k_) ∧ k_ ≠ gb360) (.slice Ao38 x7_3.length co38) x7_3) ∧ Aside0 (Kd.V k26 26 wc w.heap.size (fun k_ => ((P0_0_ k_ ∨ P0_1_ k_) ∨ w.heap.size ≤ k_) ∧ k_ ≠ gb360) (.slice Ao37 t361.length co37) t361) ∧ Aside0 (Kd.V k26 26 wc w.heap.size (fun k_ => ((P0_0_ k_ ∨ P0_1_ k_) ∨ w.heap.size ≤ k_) ∧ k_ ≠ gb360) v377 t376) ∧ Aside0 (Kd.V k26 26 wc w.heap.size (fun k_ => ((P0_0_ k_ ∨ P0_1_ k_) ∨ w.heap.size ≤ k_) ∧ k_ ≠ gb360) (.slice A0_0 l0_0.length c0_0) l0_0) ∧ Aside0 (Kd.V k26 26 wc w.heap.size (fun k_ => ((P0_0_ k_ ∨ P0_1_ k_) ∨ w.heap.size ≤ k_) ∧ k_ ≠ gb360) (.slice A0_1 l0_1.length c0_1) l0_1) ∧ Aside0 (wc.heap[gb360]? = some (.cells #[(.slice A0_0 l0_0.length c0_0), (.slice A0_1 l0_1.length c0_1), (.slice (some ad374) l0_2.length c0_2), (.slice A0_3 l0_3.length c0_3)] 47 (0, 0))) ∧ Aside0 (Below w.heap.size w wc))
                              case first => as_aux_lemma =>
                                have H := HC33.out
                                clear HC33
                                by_cases c40 : t380 = 0
                                · rw [if_pos c40] at H
                                  have c40b0 : (t380 == 0) = true := beq_iff_eq.mpr c40
                                  have c40b1 : (t380 != 0) = false := bne_eq_false_iff_eq.mpr c40
                                  clear c40
                                  (first | rw [c40b0] | (simp only [i64_w, i32_w]; rw [c40b0]) | skip)
                                  as_aux_lemma =>
                                    have H' := Aside0.mk H
                                    clear H
                                    obtain ⟨Ao41, co41, eo41⟩ := Kd.V_slice HO378.out
                                    subst eo41
                                    go_wp2
                                    go_meet
                                    case rel => exact ⟨_, (((t376.length : Int) != (x7_3.length : Int))), (by first | rfl | (simp; done) | (simp [*]; done)), H', ⟨by have := HJ2.out; have := HJ18.out; have := HK3.out; first | omega | exact Nat.le_refl _⟩, ⟨by (with_reducible repeat (first | apply Kd.V_alloc | apply Kd.V_drewN | apply Kd.V_drew)); exact HO_3.out⟩, ⟨by (with_reducible repeat (first | apply Kd.V_alloc | apply Kd.V_drewN | apply Kd.V_drew)); exact HO_4.out⟩, ⟨by (with_reducible repeat (first | apply Kd.V_alloc | apply Kd.V_drewN | apply Kd.V_drew)); exact HO_7.out⟩, ⟨by (with_reducible repeat (first | apply Kd.V_alloc | apply Kd.V_drewN | apply Kd.V_drew)); exact HO_8.out⟩, ⟨by (with_reducible repeat (first | apply Kd.V_alloc | apply Kd.V_drewN | apply Kd.V_drew)); exact HO378.out⟩, ⟨by (with_reducible repeat (first | apply Kd.V_alloc | apply Kd.V_drewN | apply Kd.V_drew)); exact HO_361000.out⟩, ⟨by (with_reducible repeat (first | apply Kd.V_alloc | apply Kd.V_drewN | apply Kd.V_drew)); exact HO_361001.out⟩, ⟨by (with_reducible repeat (first | refine blk_drewN ?_ _ | refine blk_drew ?_ | refine blk_alloc ?_ _)); exact BK360.out⟩, ⟨by repeat (first | (with_reducible first | exact HB.out | apply below_alloc | apply pw_below_drewN | apply below_drew1 | refine below_set ?_ GE360.out) | exact HB.out)⟩⟩
                                · rw [if_neg c40] at H
                                  have c40b0 : (t380 == 0) = false := beq_eq_false_iff_ne.mpr c40
                                  have c40b1 : (t380 != 0) = true := bne_iff_ne.mpr c40
                                  (first | rw [c40b0] | (simp only [i64_w, i32_w]; rw [c40b0]) | skip)
                                  as_aux_lemma =>
                                    have H' := Aside0.mk H
                                    clear H
                                    go_wp2
                                    go_meet
                                    case rel => exact ⟨_, (true), (by first | rfl | (simp; done) | (simp [*]; done)), H', ⟨by have := HJ2.out; have := HJ18.out; have := HK3.out; first | omega | exact Nat.le_refl _⟩, ⟨by (with_reducible repeat (first | apply Kd.V_alloc | apply Kd.V_drewN | apply Kd.V_drew)); exact HO_3.out⟩, ⟨by (with_reducible repeat (first | apply Kd.V_alloc | apply Kd.V_drewN | apply Kd.V_drew)); exact HO_4.out⟩, ⟨by (with_reducible repeat (first | apply Kd.V_alloc | apply Kd.V_drewN | apply Kd.V_drew)); exact HO_7.out⟩, ⟨by (with_reducible repeat (first | apply Kd.V_alloc | apply Kd.V_drewN | apply Kd.V_drew)); exact HO_8.out⟩, ⟨by (with_reducible repeat (first | apply Kd.V_alloc | apply Kd.V_drewN | apply Kd.V_drew)); exact HO378.out⟩, ⟨by (with_reducible repeat (first | apply Kd.V_alloc | apply Kd.V_drewN | apply Kd.V_drew)); exact HO_361000.out⟩, ⟨by (with_reducible repeat (first | apply Kd.V_alloc | apply Kd.V_drewN | apply Kd.V_drew)); exact HO_361001.out⟩, ⟨by (with_reducible repeat (first | refine blk_drewN ?_ _ | refine blk_drew ?_ | refine blk_alloc ?_ _)); exact BK360.out⟩, ⟨by repeat (first | (with_reducible first | exact HB.out | apply below_alloc | apply pw_below_drewN | apply below_drew1 | refine below_set ?_ GE360.out) | exact HB.out)⟩⟩
                              case rest => as_aux_lemma =>
                                clear HC33
                                try clear c1
                                try clear c2
                                try clear p2
                                try clear q2
                                try clear c3
                                try clear p3
                                try clear q3
                                try clear hx3
                                try clear c4
                                try clear p6
                                try clear c8
                                try clear c8b0
                                try clear c8b1
                                try clear c9
                                try clear c9b0
                                try clear c9b1
                                try clear c9b2
                                try clear c16
                                try clear c17
                                try clear c20
                                try clear c20b0
                                try clear c20b1
                                try clear c21
                                try clear c21b0
                                try clear c21b1
                                try clear q22
                                try clear c23
                                try clear c23b0
                                try clear c24
                                try clear c24b0
                                try clear c26
                                try clear c27
                                try clear c27b0
                                try clear c27b1
                                try clear c27b2
                                try clear c28
                                try clear c29
                                try clear c29b0
                                try clear c30
                                try clear c30b0
                                try clear c31
                                try clear c31b0
                                try clear c31b1
                                try clear c31b2
                                try clear p37
                                try clear q37
                                try clear hx37
                                try clear c40
                                try clear c40b0
                                try clear c40b1
                                try clear hx371_0
                                try clear hx371_1
                                try clear hx374_0
                                try clear hx375_0
                                try clear hx375_1
                                try clear p2
                                try clear p371
                                try clear p374
                                try clear p375
                                try clear q2
                                try clear q22
                                try clear q371
                                try clear q374
                                try clear q375
                                obtain ⟨kq, x95_32, rfl, HA, HJ32, HO_3, HO_4, HO_7, HO_8, HO_10, HO_361000, HO_361001, BK360, HB⟩ := hcut
                                cases kq with
                                | zero => exact absurd HA.out (by simp [tattlelaw06_TableOrders.j3])
                                | succ kj32 =>
                                  have H := HA.out
                                  clear HA
                                  simp only [tattlelaw06_TableOrders.j3] at H
                                  by_cases c42 : x95_32 = true
                                  · subst c42
                                    have H1 : (some false) = some r := by rw [if_pos rfl] at H; exact H
                                    clear H
                                    have H := H1
                                    clear H1
                                    as_aux_lemma =>
                                      exact absurd ((Option.some.inj H).trans hrt.out) (by decide)
                                  · replace c42 := Bool.eq_false_iff.mpr c42
                                    subst c42
                                    have H1 : (tattlelaw06_TableOrders.l1 kj32 t361 x4_18 l0_2 l0_3 x7_3 t361 x9_3 t376 0) = some r := by rw [if_neg (show ¬ (false = true) by decide)] at H; exact H
                                    clear H
                                    have H := H1
                                    clear H1
                                    have H' := Aside0.mk H
                                    clear H
                                    go_wp2
                                    go_loopg [13] kj32 (fun kq v13 w' => ∃ (x13_5 : Int), v13 = .int .i64 x13_5 ∧ Aside0 (tattlelaw06_TableOrders.l1 kq t361 x4_18 l0_2 l0_3 x7_3 t361 x9_3 t376 x13_5 = some r) ∧ Aside0 (kq ≤ kj32) ∧ Aside0 (Kd.V k26 26 w' w.heap.size (fun k_ => ((P0_0_ k_ ∨ P0_1_ k_) ∨ w.heap.size ≤ k_) ∧ k_ ≠ gb360) (.slice Ao37 t361.length co37) t361) ∧ Aside0 (Kd.V k26 26 w' w.heap.size (fun k_ => ((P0_0_ k_ ∨ P0_1_ k_) ∨ w.heap.size ≤ k_) ∧ k_ ≠ gb360) (.slice (some ad371) x4_18.length co34) x4_18) ∧ Aside0 (Kd.V k26 26 w' w.heap.size (fun k_ => ((P0_0_ k_ ∨ P0_1_ k_) ∨ w.heap.size ≤ k_) ∧ k_ ≠ gb360) (.slice Ao38 x7_3.length co38) x7_3) ∧ Aside0 (Kd.V k26 26 w' w.heap.size (fun k_ => ((P0_0_ k_ ∨ P0_1_ k_) ∨ w.heap.size ≤ k_) ∧ k_ ≠ gb360) (.slice Ao37 t361.length co37) t361) ∧ Aside0 (Kd.V k26 26 w' w.heap.size (fun k_ => ((P0_0_ k_ ∨ P0_1_ k_) ∨ w.heap.size ≤ k_) ∧ k_ ≠ gb360) v377 t376) ∧ Aside0 (Kd.V k26 26 w' w.heap.size (fun k_ => ((P0_0_ k_ ∨ P0_1_ k_) ∨ w.heap.size ≤ k_) ∧ k_ ≠ gb360) (.slice A0_0 l0_0.length c0_0) l0_0) ∧ Aside0 (Kd.V k26 26 w' w.heap.size (fun k_ => ((P0_0_ k_ ∨ P0_1_ k_) ∨ w.heap.size ≤ k_) ∧ k_ ≠ gb360) (.slice A0_1 l0_1.length c0_1) l0_1) ∧ Aside0 (w'.heap[gb360]? = some (.cells #[(.slice A0_0 l0_0.length c0_0), (.slice A0_1 l0_1.length c0_1), (.slice (some ad374) l0_2.length c0_2), (.slice A0_3 l0_3.length c0_3)] 47 (0, 0))) ∧ Aside0 (Below w.heap.size w w'))
                                    case atStart => exact ⟨(0), (by first | rfl | (simp; done) | (simp [*]; done)), H', ⟨Nat.le_refl _⟩, ⟨by (with_reducible repeat (first | apply Kd.V_alloc | apply Kd.V_drewN | apply Kd.V_drew)); exact HO_3.out⟩, ⟨by (with_reducible repeat (first | apply Kd.V_alloc | apply Kd.V_drewN | apply Kd.V_drew)); exact HO_4.out⟩, ⟨by (with_reducible repeat (first | apply Kd.V_alloc | apply Kd.V_drewN | apply Kd.V_drew)); exact HO_7.out⟩, ⟨by (with_reducible repeat (first | apply Kd.V_alloc | apply Kd.V_drewN | apply Kd.V_drew)); exact HO_8.out⟩, ⟨by (with_reducible repeat (first | apply Kd.V_alloc | apply Kd.V_drewN | apply Kd.V_drew)); exact HO_10.out⟩, ⟨by (with_reducible repeat (first | apply Kd.V_alloc | apply Kd.V_drewN | apply Kd.V_drew)); exact HO_361000.out⟩, ⟨by (with_reducible repeat (first | apply Kd.V_alloc | apply Kd.V_drewN | apply Kd.V_drew)); exact HO_361001.out⟩, ⟨by (with_reducible repeat (first | refine blk_drewN ?_ _ | refine blk_drew ?_ | refine blk_alloc ?_ _)); exact BK360.out⟩, ⟨by repeat (first | (with_reducible first | exact HB.out | apply below_alloc | apply pw_below_drewN | apply below_drew1 | refine below_set ?_ GE360.out) | exact HB.out)⟩⟩
                                    case round =>
                                      clear H'
                                      try clear c1
                                      try clear c2
                                      try clear p2
                                      try clear q2
                                      try clear c3
                                      try clear p3
                                      try clear q3
                                      try clear hx3
                                      try clear c4
                                      try clear p6
                                      try clear c8
                                      try clear c8b0
                                      try clear c8b1
                                      try clear c9
                                      try clear c9b0
                                      try clear c9b1
                                      try clear c9b2
                                      try clear c16
                                      try clear c17
                                      try clear c20
                                      try clear c20b0
                                      try clear c20b1
                                      try clear c21
                                      try clear c21b0
                                      try clear c21b1
                                      try clear q22
                                      try clear c23
                                      try clear c23b0
                                      try clear c24
                                      try clear c24b0
                                      try clear c26
                                      try clear c27
                                      try clear c27b0
                                      try clear c27b1
                                      try clear c27b2
                                      try clear c28
                                      try clear c29
                                      try clear c29b0
                                      try clear c30
                                      try clear c30b0
                                      try clear c31
                                      try clear c31b0
                                      try clear c31b1
                                      try clear c31b2
                                      try clear p37
                                      try clear q37
                                      try clear hx37
                                      try clear c40
                                      try clear c40b0
                                      try clear c40b1
                                      try clear c42
                                      try clear hx371_0
                                      try clear hx371_1
                                      try clear hx374_0
                                      try clear hx375_0
                                      try clear hx375_1
                                      try clear p2
                                      try clear p3
                                      try clear p37
                                      try clear p371
                                      try clear p374
                                      try clear p375
                                      try clear p6
                                      try clear q2
                                      try clear q22
                                      try clear q3
                                      try clear q37
                                      try clear q371
                                      try clear q374
                                      try clear q375
                                      obtain ⟨x13_5, rfl, HA, HK5, HO_3, HO_4, HO_7, HO_8, HO_10, HO_361000, HO_361001, BK360, HB⟩ := hrel
                                      cases gk with
                                      | zero => exact absurd HA.out (by simp [tattlelaw06_TableOrders.l1])
                                      | succ k5 =>
                                        have H := HA.out
                                        clear HA
                                        simp only [tattlelaw06_TableOrders.l1] at H
                                        by_cases c43 : x13_5 < (x7_3.length : Int)
                                        · rw [if_pos c43] at H
                                          have c43b0 : decide (x13_5 < (x7_3.length : Int)) = true := decide_eq_true c43
                                          clear c43
                                          by_cases c44 : 0 ≤ x13_5
                                          · rw [if_pos c44] at H
                                            have c44b0 : decide (0 ≤ x13_5) = true := decide_eq_true c44
                                            clear c44
                                            by_cases c45 : x13_5 < (t376.length : Int)
                                            · rw [if_pos c45] at H
                                              have c45b0 : decide (x13_5 < (t376.length : Int)) = true := decide_eq_true c45
                                              clear c45
                                              replace H := Option.bind_eq_some_iff.mp H
                                              obtain ⟨t383, A460, H⟩ := H
                                              replace H : (if t383 = true then (some false) else (tattlelaw06_TableOrders.l1 k5 t361 x4_18 l0_2 l0_3 x7_3 t361 x9_3 t376 (wrap64 (x13_5 + 1)))) = some r := H
                                              have A46 := Aside0.mk A460
                                              clear A460
                                              by_cases c47 : t383 = true
                                              · subst c47
                                                have H1 : (some false) = some r := by rw [if_pos rfl] at H; exact H
                                                clear H
                                                have H := H1
                                                clear H1
                                                as_aux_lemma =>
                                                  exact absurd ((Option.some.inj H).trans hrt.out) (by decide)
                                              · replace c47 := Bool.eq_false_iff.mpr c47
                                                subst c47
                                                have H1 : (tattlelaw06_TableOrders.l1 k5 t361 x4_18 l0_2 l0_3 x7_3 t361 x9_3 t376 (wrap64 (x13_5 + 1))) = some r := by rw [if_neg (show ¬ (false = true) by decide)] at H; exact H
                                                clear H
                                                have H := H1
                                                clear H1
                                                as_aux_lemma =>
                                                  have H' := Aside0.mk H
                                                  clear H
                                                  try go_wp2
                                                  have n0_ := Aside0.mk (Kd.V_drew HO_3.out)
                                                  have n1_ := Aside0.mk (Kd.V_drew HO_4.out)
                                                  have n2_ := Aside0.mk (Kd.V_drew HO_7.out)
                                                  have n3_ := Aside0.mk (Kd.V_drew HO_8.out)
                                                  have n4_ := Aside0.mk (Kd.V_drew HO_10.out)
                                                  have n5_ := Aside0.mk (Kd.V_drew HO_361000.out)
                                                  have n6_ := Aside0.mk (Kd.V_drew HO_361001.out)
                                                  have n7_ := Aside0.mk (blk_drew BK360.out)
                                                  have n8_ := Aside0.mk (below_drew1 HB.out)
                                                  clear HO_3
                                                  clear HO_4
                                                  clear HO_7
                                                  clear HO_8
                                                  clear HO_10
                                                  clear HO_361000
                                                  clear HO_361001
                                                  clear BK360
                                                  clear HB
                                                  have HO_3 := n0_
                                                  have HO_4 := n1_
                                                  have HO_7 := n2_
                                                  have HO_8 := n3_
                                                  have HO_10 := n4_
                                                  have HO_361000 := n5_
                                                  have HO_361001 := n6_
                                                  have BK360 := n7_
                                                  have HB := n8_
                                                  clear n0_ n1_ n2_ n3_ n4_ n5_ n6_ n7_ n8_
                                                  have p381 : 0 ≤ (x13_5 : Int) := of_decide_eq_true (by first | (with_reducible assumption) | assumption)
                                                  have q381 : x13_5 < (x7_3.length : Int) := of_decide_eq_true (by first | (with_reducible assumption) | assumption)
                                                  obtain ⟨ad381, e381, hx381_0, hx381_1⟩ := at_T26 (Kd.V_reads' HO_7.out).2.2 x13_5 p381 q381
                                                  cases e381
                                                  replace p381 := eq_true p381
                                                  replace q381 := eq_true q381
                                                  obtain ⟨Ao49, co49, eo49⟩ := Kd.V_slice HO_10.out
                                                  (try (have KEEPHO_4 := HO_4))
                                                  (try (have KEEPHO_7 := HO_7))
                                                  (try (have KEEPHO_8 := HO_8))
                                                  (try (have KEEPHO_10 := HO_10))
                                                  (first | subst eo49 | (injection eo49 with f1_ f2_ f3_; have f4_ := f1_.symm; have f5_ := f3_.symm; clear f1_ f2_ f3_; subst f4_; subst f5_))
                                                  (try (have HO_4 := KEEPHO_4)); (try clear KEEPHO_4)
                                                  (try (have HO_7 := KEEPHO_7)); (try clear KEEPHO_7)
                                                  (try (have HO_8 := KEEPHO_8)); (try clear KEEPHO_8)
                                                  (try (have HO_10 := KEEPHO_10)); (try clear KEEPHO_10)
                                                  have p382 : 0 ≤ (x13_5 : Int) := of_decide_eq_true (by first | (with_reducible assumption) | assumption)
                                                  have q382 : x13_5 < (t376.length : Int) := of_decide_eq_true (by first | (with_reducible assumption) | assumption)
                                                  obtain ⟨ad382, e382, hx382_0, hx382_1⟩ := at_T26 (Kd.V_reads' HO_10.out).2.2 x13_5 p382 q382
                                                  cases e382
                                                  replace p382 := eq_true p382
                                                  replace q382 := eq_true q382
                                                  refine start_ (n := 9) (S := fun w' => w'.cell? (ad381.add ((x13_5).toNat * 2)) = some (.int .u64 ((rd_T26 x7_3 x13_5).f0)) ∧ w'.cell? ⟨(ad381.add ((x13_5).toNat * 2)).block, (ad381.add ((x13_5).toNat * 2)).off + 1, none⟩ = some (.int .i64 ((rd_T26 x7_3 x13_5).f1)) ∧ w'.cell? (ad382.add ((x13_5).toNat * 2)) = some (.int .u64 ((rd_T26 t376 x13_5).f0)) ∧ w'.cell? ⟨(ad382.add ((x13_5).toNat * 2)).block, (ad382.add ((x13_5).toNat * 2)).off + 1, none⟩ = some (.int .i64 ((rd_T26 t376 x13_5).f1))) (ds := []) #[false, false, false, false, false, false, false, false, false] (by kernel_rfl) rfl rfl ⟨hx381_0, hx381_1, hx382_0, hx382_1⟩ (fun hHeld => ?_); refine with_tabW tattlelaw06_TableOrders.tab18 tattlelaw06_TableOrders.bits18 (fun HT_ HW_ => ?_)
                                                  generalize wr.drew = w48 at HO_3 HO_4 HO_7 HO_8 HO_10 HO_361000 HO_361001 BK360 HB hx381_0 hx381_1 hx382_0 hx382_1 hHeld ⊢
                                                  refine pure_ (i := 0) (N := some 102) (v := ?_) (a' := ?_) #[true, false, false, false, false, false, false, false, false] rfl rfl (any_of HT_.out (by kernel_rfl)) (fun _ _ _ h => h) (Or.inl ⟨by rfl, ?_⟩) ?_ ?_
                                                  rotate_left
                                                  · intro w'
                                                    go_simp
                                                    with_reducible rfl
                                                  rotate_left
                                                  · simp only [Act.put, List.setIfInBounds_toArray, List.set_cons_zero, List.set_cons_succ, i64_w, i32_w]
                                                    rfl
                                                  refine pure_ (i := 1) (N := some 103) (v := ?_) (a' := ?_) #[true, true, false, false, false, false, false, false, false] rfl rfl (any_of HT_.out (by kernel_rfl)) (fun _ _ _ h => h) (Or.inl ⟨by rfl, ?_⟩) ?_ ?_
                                                  rotate_left
                                                  · intro w'
                                                    go_simp
                                                    with_reducible rfl
                                                  rotate_left
                                                  · simp only [Act.put, List.setIfInBounds_toArray, List.set_cons_zero, List.set_cons_succ, i64_w, i32_w]
                                                    rfl
                                                  refine pure_ (i := 2) (N := some 104) (v := ?_) (a' := ?_) #[true, true, true, false, false, false, false, false, false] rfl rfl (any_of HT_.out (by kernel_rfl)) (fun _ _ _ h => h) (Or.inl ⟨by rfl, ?_⟩) ?_ ?_
                                                  rotate_left
                                                  · intro w'
                                                    go_simp
                                                    with_reducible rfl
                                                  rotate_left
                                                  · simp only [Act.put, List.setIfInBounds_toArray, List.set_cons_zero, List.set_cons_succ, i64_w, i32_w]
                                                    rfl
                                                  refine pure_ (i := 4) (N := some 106) (v := ?_) (a' := ?_) #[true, true, true, false, true, false, false, false, false] rfl rfl (any_of HT_.out (by kernel_rfl)) (fun _ _ _ h => h) (Or.inl ⟨by rfl, ?_⟩) ?_ ?_
                                                  rotate_left
                                                  · intro w'
                                                    go_simp
                                                    with_reducible rfl
                                                  rotate_left
                                                  · simp only [Act.put, List.setIfInBounds_toArray, List.set_cons_zero, List.set_cons_succ, i64_w, i32_w]
                                                    rfl
                                                  refine pure_ (i := 5) (N := some 107) (v := ?_) (a' := ?_) #[true, true, true, false, true, true, false, false, false] rfl rfl (any_of HT_.out (by kernel_rfl)) (fun _ _ _ h => h) (Or.inl ⟨by rfl, ?_⟩) ?_ ?_
                                                  rotate_left
                                                  · intro w'
                                                    go_simp
                                                    with_reducible rfl
                                                  rotate_left
                                                  · simp only [Act.put, List.setIfInBounds_toArray, List.set_cons_zero, List.set_cons_succ, i64_w, i32_w]
                                                    rfl
                                                  refine pure_ (i := 6) (N := some 108) (v := ?_) (a' := ?_) #[true, true, true, false, true, true, true, false, false] rfl rfl (any_of HT_.out (by kernel_rfl)) (fun _ _ _ h => h) (Or.inl ⟨by rfl, ?_⟩) ?_ ?_
                                                  rotate_left
                                                  · intro w'
                                                    go_simp
                                                    with_reducible rfl
                                                  rotate_left
                                                  · simp only [Act.put, List.setIfInBounds_toArray, List.set_cons_zero, List.set_cons_succ, i64_w, i32_w]
                                                    rfl
                                                  refine take_ (i := 3) (N := some 105) (v := ?_) (a' := ?_) #[true, true, true, true, true, true, true, false, false] rfl rfl (take_ofW HT_.out HW_.out (by kernel_rfl)) (fun _ _ _ h => h) (Or.inl ⟨by rfl, ?_⟩) hHeld ?_ ?_
                                                  rotate_left
                                                  · rintro w' ⟨s0, s1, s2, s3⟩
                                                    go_simp
                                                    with_reducible rfl
                                                  rotate_left
                                                  · simp only [Act.put, List.setIfInBounds_toArray, List.set_cons_zero, List.set_cons_succ, i64_w, i32_w]
                                                    rfl
                                                  refine take_ (i := 7) (N := some 109) (v := ?_) (a' := ?_) #[true, true, true, true, true, true, true, true, false] rfl rfl (take_ofW HT_.out HW_.out (by kernel_rfl)) (fun _ _ _ h => h) (Or.inl ⟨by rfl, ?_⟩) hHeld ?_ ?_
                                                  rotate_left
                                                  · rintro w' ⟨s0, s1, s2, s3⟩
                                                    go_simp
                                                    with_reducible rfl
                                                  rotate_left
                                                  · simp only [Act.put, List.setIfInBounds_toArray, List.set_cons_zero, List.set_cons_succ, i64_w, i32_w]
                                                    rfl
                                                  refine one_ (i := 8) (N := some 110) #[true, true, true, true, true, true, true, true, true] rfl rfl (one_of HT_.out (by kernel_rfl)) (by decide) (fun K hK => ?_)
                                                  refine goes_ Try.func24 (by kernel_rfl) rfl #[.agg #[.int .u64 ((rd_T26 x7_3 x13_5).f0), .int .i64 ((rd_T26 x7_3 x13_5).f1)], .agg #[.int .u64 ((rd_T26 t376 x13_5).f0), .int .i64 ((rd_T26 t376 x13_5).f1)]] (by rfl) rfl rfl (by (try simp only [List.map_toArray, List.map_cons, List.map_nil]); first | done | rfl | (simp only [List.length_drop, List.length_take]; rfl)) ?_
                                                  with_reducible refine (tattleref05_Beats.calls ((rd_T26 x7_3 x13_5).f0) ((rd_T26 x7_3 x13_5).f1) ((rd_T26 t376 x13_5).f0) ((rd_T26 t376 x13_5).f1) false _ A46.out).mono ?_
                                                  rintro e w50 ⟨rfl, hb⟩
                                                  have HS0_ := (hb.cell (World.block_lt_of_cell? _ _ (hHeld.1))).trans (hHeld.1)
                                                  have HS1_ := (hb.cell (World.block_lt_of_cell? _ _ (hHeld.2.1))).trans (hHeld.2.1)
                                                  have HS2_ := (hb.cell (World.block_lt_of_cell? _ _ (hHeld.2.2.1))).trans (hHeld.2.2.1)
                                                  have HS3_ := (hb.cell (World.block_lt_of_cell? _ _ (hHeld.2.2.2))).trans (hHeld.2.2.2)
                                                  refine ⟨_, rfl, ?_⟩
                                                  have n0_ := Aside0.mk (Kd.V_below (by (with_reducible repeat (first | apply Kd.V_alloc | apply Kd.V_drewN | apply Kd.V_drew)); exact HO_3.out) hb)
                                                  have n1_ := Aside0.mk (Kd.V_below (by (with_reducible repeat (first | apply Kd.V_alloc | apply Kd.V_drewN | apply Kd.V_drew)); exact HO_4.out) hb)
                                                  have n2_ := Aside0.mk (Kd.V_below (by (with_reducible repeat (first | apply Kd.V_alloc | apply Kd.V_drewN | apply Kd.V_drew)); exact HO_7.out) hb)
                                                  have n3_ := Aside0.mk (Kd.V_below (by (with_reducible repeat (first | apply Kd.V_alloc | apply Kd.V_drewN | apply Kd.V_drew)); exact HO_8.out) hb)
                                                  have n4_ := Aside0.mk (Kd.V_below (by (with_reducible repeat (first | apply Kd.V_alloc | apply Kd.V_drewN | apply Kd.V_drew)); exact HO_10.out) hb)
                                                  have n5_ := Aside0.mk (Kd.V_below (by (with_reducible repeat (first | apply Kd.V_alloc | apply Kd.V_drewN | apply Kd.V_drew)); exact HO_361000.out) hb)
                                                  have n6_ := Aside0.mk (Kd.V_below (by (with_reducible repeat (first | apply Kd.V_alloc | apply Kd.V_drewN | apply Kd.V_drew)); exact HO_361001.out) hb)
                                                  have n7_ := Aside0.mk (blk_below (g := gb360) (o := .cells #[.slice A0_0 l0_0.length c0_0, .slice A0_1 l0_1.length c0_1, .slice (some ad374) l0_2.length c0_2, .slice A0_3 l0_3.length c0_3] 47 (0, 0)) (by (with_reducible repeat (first | refine blk_drewN ?_ _ | refine blk_drew ?_ | refine blk_alloc ?_ _)); exact BK360.out) hb)
                                                  have n8_ := Aside0.mk (below_step (by repeat (first | (with_reducible first | exact HB.out | apply below_alloc | apply pw_below_drewN | apply below_drew1 | refine below_set ?_ GE360.out) | exact HB.out)) hb)
                                                  clear HO_3
                                                  clear HO_4
                                                  clear HO_7
                                                  clear HO_8
                                                  clear HO_10
                                                  clear HO_361000
                                                  clear HO_361001
                                                  clear BK360
                                                  clear HB
                                                  have HO_3 := n0_
                                                  have HO_4 := n1_
                                                  have HO_7 := n2_
                                                  have HO_8 := n3_
                                                  have HO_10 := n4_
                                                  have HO_361000 := n5_
                                                  have HO_361001 := n6_
                                                  have BK360 := n7_
                                                  have HB := n8_
                                                  clear n0_ n1_ n2_ n3_ n4_ n5_ n6_ n7_ n8_
                                                  (try clear hb)
                                                  (try clear hb2)
                                                  (try clear hk)
                                                  (try clear hi)
                                                  refine hK.out _ _ ⟨HS0_, HS1_, HS2_, HS3_⟩ (fun hHeld => ?_)
                                                  clear hK K
                                                  refine norm_ (a' := ?_) ?_ ?_
                                                  rotate_left
                                                  · show Act.put _ (some 110) _ = _
                                                    simp only [Act.put, List.setIfInBounds_toArray, List.set_cons_zero, List.set_cons_succ, i64_w, i32_w]
                                                    rfl
                                                  refine done_ (done_of HT_.out (by kernel_rfl)) ?_
                                                  try go_wp2
                                                  go_roundg k5
                                                  case measure => have := HJ2.out; have := HJ18.out; have := HK3.out; have := HJ32.out; have := HK5.out; omega
                                                  case rel => exact ⟨(wrap64 (x13_5 + 1)), (by first | rfl | (simp; done) | (simp [*]; done)), H', ⟨by have := HJ2.out; have := HJ18.out; have := HK3.out; have := HJ32.out; have := HK5.out; omega⟩, ⟨by (with_reducible repeat (first | apply Kd.V_alloc | apply Kd.V_drewN | apply Kd.V_drew)); exact HO_3.out⟩, ⟨by (with_reducible repeat (first | apply Kd.V_alloc | apply Kd.V_drewN | apply Kd.V_drew)); exact HO_4.out⟩, ⟨by (with_reducible repeat (first | apply Kd.V_alloc | apply Kd.V_drewN | apply Kd.V_drew)); exact HO_7.out⟩, ⟨by (with_reducible repeat (first | apply Kd.V_alloc | apply Kd.V_drewN | apply Kd.V_drew)); exact HO_8.out⟩, ⟨by (with_reducible repeat (first | apply Kd.V_alloc | apply Kd.V_drewN | apply Kd.V_drew)); exact HO_10.out⟩, ⟨by (with_reducible repeat (first | apply Kd.V_alloc | apply Kd.V_drewN | apply Kd.V_drew)); exact HO_361000.out⟩, ⟨by (with_reducible repeat (first | apply Kd.V_alloc | apply Kd.V_drewN | apply Kd.V_drew)); exact HO_361001.out⟩, ⟨by (with_reducible repeat (first | refine blk_drewN ?_ _ | refine blk_drew ?_ | refine blk_alloc ?_ _)); exact BK360.out⟩, ⟨by repeat (first | (with_reducible first | exact HB.out | apply below_alloc | apply pw_below_drewN | apply below_drew1 | refine below_set ?_ GE360.out) | exact HB.out)⟩⟩
                                            · rw [if_neg c45] at H
                                              exact absurd H (by simp)
                                          · rw [if_neg c44] at H
                                            exact absurd H (by simp)
                                        · rw [if_neg c43] at H
                                          have c43b0 : decide (x13_5 < (x7_3.length : Int)) = false := decide_eq_false c43
                                          clear c43
                                          as_aux_lemma =>
                                            have H' := Aside0.mk H
                                            clear H
                                            go_wp2
                                            go_roundg k5
                                            case measure => have := HJ2.out; have := HJ18.out; have := HK3.out; have := HJ32.out; have := HK5.out; omega
                                            case rel => exact ⟨(t376), (wrap64 (x9_3 + 1)), (by first | rfl | (simp; done) | (simp [*]; done)), H', ⟨by have := HJ2.out; have := HJ18.out; have := HK3.out; have := HJ32.out; have := HK5.out; omega⟩, ⟨by (with_reducible repeat (first | apply Kd.V_alloc | apply Kd.V_drewN | apply Kd.V_drew)); exact HO_3.out⟩, ⟨by (with_reducible repeat (first | apply Kd.V_alloc | apply Kd.V_drewN | apply Kd.V_drew)); exact HO_4.out⟩, ⟨by (with_reducible repeat (first | apply Kd.V_alloc | apply Kd.V_drewN | apply Kd.V_drew)); exact HO_10.out⟩, ⟨by (with_reducible repeat (first | apply Kd.V_alloc | apply Kd.V_drewN | apply Kd.V_drew)); exact HO_8.out⟩, ⟨by (with_reducible repeat (first | apply Kd.V_alloc | apply Kd.V_drewN | apply Kd.V_drew)); exact HO_361000.out⟩, ⟨by (with_reducible repeat (first | apply Kd.V_alloc | apply Kd.V_drewN | apply Kd.V_drew)); exact HO_361001.out⟩, ⟨by (with_reducible repeat (first | refine blk_drewN ?_ _ | refine blk_drew ?_ | refine blk_alloc ?_ _)); exact BK360.out⟩, ⟨by repeat (first | (with_reducible first | exact HB.out | apply below_alloc | apply pw_below_drewN | apply below_drew1 | refine below_set ?_ GE360.out) | exact HB.out)⟩⟩
                          · rw [if_neg c30] at H
                            exact absurd H (by simp)
                        · rw [if_neg c29] at H
                          exact absurd H (by simp)
                    · replace c26 := Bool.eq_false_iff.mpr c26
                      subst c26
                      have H1 : ((tattlelaw06_awakeT.f).bind fun t373 => (some t373)) = some r := by rw [if_neg (show ¬ (false = true) by decide)] at H; exact H
                      clear H
                      have H := H1
                      clear H1
                      replace H := Option.bind_eq_some_iff.mp H
                      obtain ⟨t373, A510, H⟩ := H
                      replace H : (some t373) = some r := H
                      have A51 := Aside0.mk A510
                      clear A510
                      as_aux_lemma =>
                        obtain rfl := Option.some.inj H
                        obtain ⟨Ao52, co52, eo52⟩ := Kd.V_slice HO_4.out
                        subst eo52
                        have p371 : 0 ≤ (x9_3 : Int) := of_decide_eq_true (by first | (with_reducible assumption) | assumption)
                        have q371 : x9_3 < (x4_18.length : Int) := of_decide_eq_true (by first | (with_reducible assumption) | assumption)
                        obtain ⟨ad371, e371, hx371_0, hx371_1⟩ := at_T26 (Kd.V_reads' HO_4.out).2.2 x9_3 p371 q371
                        cases e371
                        replace p371 := eq_true p371
                        replace q371 := eq_true q371
                        go_wp2_with (first | ((with_reducible refine gate_callee (f := 17) rfl ?_); refine goesL_ (some 63) rfl rfl Try.func17 (by kernel_rfl) rfl #[.agg #[.int .u64 ((rd_T26 x4_18 x9_3).f0), .int .i64 ((rd_T26 x4_18 x9_3).f1)]] rfl (by (try simp only [List.map_toArray, List.map_cons, List.map_nil]); first | done | rfl | (simp only [List.length_drop, List.length_take]; rfl)) ?_; (with_reducible refine (tattleref05_May.calls ((rd_T26 x4_18 x9_3).f0) ((rd_T26 x4_18 x9_3).f1) false _ A25.out).mono ?_); rintro e w53 ⟨rfl, hb⟩; refine ⟨_, rfl, ?_⟩; have n0_ := Aside0.mk (Kd.V_below (by (with_reducible repeat (first | apply Kd.V_alloc | apply Kd.V_drewN | apply Kd.V_drew)); exact HO_4.out) hb); have n1_ := Aside0.mk (Kd.V_below (by (with_reducible repeat (first | apply Kd.V_alloc | apply Kd.V_drewN | apply Kd.V_drew)); exact HO_361000.out) hb); have n2_ := Aside0.mk (Kd.V_below (by (with_reducible repeat (first | apply Kd.V_alloc | apply Kd.V_drewN | apply Kd.V_drew)); exact HO_361001.out) hb); have n3_ := Aside0.mk (blk_below (g := gb360) (o := .cells #[.slice A0_0 l0_0.length c0_0, .slice A0_1 l0_1.length c0_1, .slice A0_2 l0_2.length c0_2, .slice A0_3 l0_3.length c0_3] 47 (0, 0)) (by (with_reducible repeat (first | refine blk_drewN ?_ _ | refine blk_drew ?_ | refine blk_alloc ?_ _)); exact BK360.out) hb); have n4_ := Aside0.mk (below_step (by repeat (first | (with_reducible first | exact HB.out | apply below_alloc | apply pw_below_drewN | apply below_drew1 | refine below_set ?_ GE360.out) | exact HB.out)) hb); clear HO_4; clear HO_361000; clear HO_361001; clear BK360; clear HB; have HO_4 := n0_; have HO_361000 := n1_; have HO_361001 := n2_; have BK360 := n3_; have HB := n4_; clear n0_ n1_ n2_ n3_ n4_; (try clear hb); (try clear hb2); (try clear hk); (try clear hi)) | ((with_reducible refine gate_callee (f := 28) rfl ?_); refine goesL_ (some 65) rfl rfl Try.func28 (by kernel_rfl) rfl #[] rfl (by (try simp only [List.map_toArray, List.map_cons, List.map_nil]); first | done | rfl | (simp only [List.length_drop, List.length_take]; rfl)) ?_; (with_reducible refine (tattlelaw06_awakeT.calls  t373 _ A51.out).mono ?_); rintro e w54 ⟨rfl, hb⟩; refine ⟨_, rfl, ?_⟩; have n0_ := Aside0.mk (Kd.V_below (by (with_reducible repeat (first | apply Kd.V_alloc | apply Kd.V_drewN | apply Kd.V_drew)); exact HO_361000.out) hb); have n1_ := Aside0.mk (Kd.V_below (by (with_reducible repeat (first | apply Kd.V_alloc | apply Kd.V_drewN | apply Kd.V_drew)); exact HO_361001.out) hb); have n2_ := Aside0.mk (blk_below (g := gb360) (o := .cells #[.slice A0_0 l0_0.length c0_0, .slice A0_1 l0_1.length c0_1, .slice A0_2 l0_2.length c0_2, .slice A0_3 l0_3.length c0_3] 47 (0, 0)) (by (with_reducible repeat (first | refine blk_drewN ?_ _ | refine blk_drew ?_ | refine blk_alloc ?_ _)); exact BK360.out) hb); have n3_ := Aside0.mk (below_step (by repeat (first | (with_reducible first | exact HB.out | apply below_alloc | apply pw_below_drewN | apply below_drew1 | refine below_set ?_ GE360.out) | exact HB.out)) hb); clear HO_361000; clear HO_361001; clear BK360; clear HB; have HO_361000 := n0_; have HO_361001 := n1_; have BK360 := n2_; have HB := n3_; clear n0_ n1_ n2_ n3_; (try clear hb); (try clear hb2); (try clear hk); (try clear hi)))
                        go_ret
                        exact ⟨by first | rfl | (simp [errW_none, errW_some] <;> rfl) | (simp [*, errW_none, errW_some] <;> rfl), by repeat (first | (with_reducible first | exact HB.out | apply below_alloc | apply pw_below_drewN | apply below_drew1 | refine below_set ?_ GE360.out) | exact HB.out)⟩
                  · rw [if_neg c24] at H
                    exact absurd H (by simp)
                · rw [if_neg c23] at H
                  have c23b0 : decide (x9_3 < (x4_18.length : Int)) = false := decide_eq_false c23
                  clear c23
                  have H' := Aside0.mk H
                  clear H
                  obtain ⟨Ao55, co55, eo55⟩ := Kd.V_slice HO_4.out
                  subst eo55
                  go_wp2
                  go_loopg [8, 14] k3 (fun kq v8 v14 w' => ∃ (x8_4 : List (S26)) (x14_4 : Int), v14 = .int .i64 x14_4 ∧ Aside0 (tattlelaw06_TableOrders.l2 kq t361 x4_18 l0_2 l0_3 x7_3 x8_4 x14_4 = some r) ∧ Aside0 (kq ≤ k3) ∧ Aside0 (Kd.V k26 26 w' w.heap.size (fun k_ => ((P0_0_ k_ ∨ P0_1_ k_) ∨ w.heap.size ≤ k_) ∧ k_ ≠ gb360) v362 t361) ∧ Aside0 (Kd.V k26 26 w' w.heap.size (fun k_ => ((P0_0_ k_ ∨ P0_1_ k_) ∨ w.heap.size ≤ k_) ∧ k_ ≠ gb360) (.slice Ao55 x4_18.length co55) x4_18) ∧ Aside0 (Kd.V k26 26 w' w.heap.size (fun k_ => ((P0_0_ k_ ∨ P0_1_ k_) ∨ w.heap.size ≤ k_) ∧ k_ ≠ gb360) u7 x7_3) ∧ Aside0 (Kd.V k26 26 w' w.heap.size (fun k_ => ((P0_0_ k_ ∨ P0_1_ k_) ∨ w.heap.size ≤ k_) ∧ k_ ≠ gb360) v8 x8_4) ∧ Aside0 (Kd.V k26 26 w' w.heap.size (fun k_ => ((P0_0_ k_ ∨ P0_1_ k_) ∨ w.heap.size ≤ k_) ∧ k_ ≠ gb360) (.slice A0_0 l0_0.length c0_0) l0_0) ∧ Aside0 (Kd.V k26 26 w' w.heap.size (fun k_ => ((P0_0_ k_ ∨ P0_1_ k_) ∨ w.heap.size ≤ k_) ∧ k_ ≠ gb360) (.slice A0_1 l0_1.length c0_1) l0_1) ∧ Aside0 (w'.heap[gb360]? = some (.cells #[(.slice A0_0 l0_0.length c0_0), (.slice A0_1 l0_1.length c0_1), (.slice A0_2 l0_2.length c0_2), (.slice A0_3 l0_3.length c0_3)] 47 (0, 0))) ∧ Aside0 (Below w.heap.size w w'))
                  case atStart => exact ⟨(t361), (0), (by first | rfl | (simp; done) | (simp [*]; done)), H', ⟨Nat.le_refl _⟩, ⟨by (with_reducible repeat (first | apply Kd.V_alloc | apply Kd.V_drewN | apply Kd.V_drew)); exact HO_3.out⟩, ⟨by (with_reducible repeat (first | apply Kd.V_alloc | apply Kd.V_drewN | apply Kd.V_drew)); exact HO_4.out⟩, ⟨by (with_reducible repeat (first | apply Kd.V_alloc | apply Kd.V_drewN | apply Kd.V_drew)); exact HO_7.out⟩, ⟨by (with_reducible repeat (first | apply Kd.V_alloc | apply Kd.V_drewN | apply Kd.V_drew)); exact HO_8.out⟩, ⟨by (with_reducible repeat (first | apply Kd.V_alloc | apply Kd.V_drewN | apply Kd.V_drew)); exact HO_361000.out⟩, ⟨by (with_reducible repeat (first | apply Kd.V_alloc | apply Kd.V_drewN | apply Kd.V_drew)); exact HO_361001.out⟩, ⟨by (with_reducible repeat (first | refine blk_drewN ?_ _ | refine blk_drew ?_ | refine blk_alloc ?_ _)); exact BK360.out⟩, ⟨by repeat (first | (with_reducible first | exact HB.out | apply below_alloc | apply pw_below_drewN | apply below_drew1 | refine below_set ?_ GE360.out) | exact HB.out)⟩⟩
                  case round =>
                    clear H'
                    try clear c1
                    try clear c2
                    try clear p2
                    try clear q2
                    try clear c3
                    try clear p3
                    try clear q3
                    try clear hx3
                    try clear c4
                    try clear p6
                    try clear c8
                    try clear c8b0
                    try clear c8b1
                    try clear c9
                    try clear c9b0
                    try clear c9b1
                    try clear c9b2
                    try clear c16
                    try clear c17
                    try clear c20
                    try clear c20b0
                    try clear c20b1
                    try clear c21
                    try clear c21b0
                    try clear c21b1
                    try clear q22
                    try clear c23
                    try clear c23b0
                    try clear c24
                    try clear c24b0
                    try clear c26
                    try clear c27
                    try clear c27b0
                    try clear c27b1
                    try clear c27b2
                    try clear c28
                    try clear c29
                    try clear c29b0
                    try clear c30
                    try clear c30b0
                    try clear c31
                    try clear c31b0
                    try clear c31b1
                    try clear c31b2
                    try clear p37
                    try clear q37
                    try clear hx37
                    try clear p38
                    try clear q38
                    try clear hx38
                    try clear c40
                    try clear c40b0
                    try clear c40b1
                    try clear c42
                    try clear c43
                    try clear c43b0
                    try clear c44
                    try clear c44b0
                    try clear c45
                    try clear c45b0
                    try clear c47
                    try clear hx371_0
                    try clear hx371_1
                    try clear hx374_0
                    try clear hx375_0
                    try clear hx375_1
                    try clear hx381_0
                    try clear hx381_1
                    try clear hx382_0
                    try clear hx382_1
                    try clear p2
                    try clear p3
                    try clear p37
                    try clear p371
                    try clear p374
                    try clear p375
                    try clear p381
                    try clear p382
                    try clear p6
                    try clear q2
                    try clear q22
                    try clear q3
                    try clear q37
                    try clear q371
                    try clear q374
                    try clear q375
                    try clear q381
                    try clear q382
                    obtain ⟨x8_4, x14_4, rfl, HA, HK4, HO_3, HO_4, HO_7, HO_8, HO_361000, HO_361001, BK360, HB⟩ := hrel
                    cases gk with
                    | zero => exact absurd HA.out (by simp [tattlelaw06_TableOrders.l2])
                    | succ k4 =>
                      have H := HA.out
                      clear HA
                      simp only [tattlelaw06_TableOrders.l2] at H
                      have HC56 := Aside0.mk H
                      clear H
                      go_upto_region 22 with (fail)
                      go_cut [124] (fun v124 wc => ∃ (kq : Nat) (x124_55 : Bool), v124 = .bool x124_55 ∧ Aside0 (tattlelaw06_TableOrders.j6 kq t361 x4_18 l0_2 l0_3 x7_3 x8_4 x14_4 x124_55 = some r) ∧ Aside0 (kq ≤ k4) ∧ Aside0 (Kd.V k26 26 wc w.heap.size (fun k_ => ((P0_0_ k_ ∨ P0_1_ k_) ∨ w.heap.size ≤ k_) ∧ k_ ≠ gb360) v362 t361) ∧ Aside0 (Kd.V k26 26 wc w.heap.size (fun k_ => ((P0_0_ k_ ∨ P0_1_ k_) ∨ w.heap.size ≤ k_) ∧ k_ ≠ gb360) (.slice Ao55 x4_18.length co55) x4_18) ∧ Aside0 (Kd.V k26 26 wc w.heap.size (fun k_ => ((P0_0_ k_ ∨ P0_1_ k_) ∨ w.heap.size ≤ k_) ∧ k_ ≠ gb360) u7 x7_3) ∧ Aside0 (Kd.V k26 26 wc w.heap.size (fun k_ => ((P0_0_ k_ ∨ P0_1_ k_) ∨ w.heap.size ≤ k_) ∧ k_ ≠ gb360) u8 x8_4) ∧ Aside0 (Kd.V k26 26 wc w.heap.size (fun k_ => ((P0_0_ k_ ∨ P0_1_ k_) ∨ w.heap.size ≤ k_) ∧ k_ ≠ gb360) (.slice A0_0 l0_0.length c0_0) l0_0) ∧ Aside0 (Kd.V k26 26 wc w.heap.size (fun k_ => ((P0_0_ k_ ∨ P0_1_ k_) ∨ w.heap.size ≤ k_) ∧ k_ ≠ gb360) (.slice A0_1 l0_1.length c0_1) l0_1) ∧ Aside0 (wc.heap[gb360]? = some (.cells #[(.slice A0_0 l0_0.length c0_0), (.slice A0_1 l0_1.length c0_1), (.slice A0_2 l0_2.length c0_2), (.slice A0_3 l0_3.length c0_3)] 47 (0, 0))) ∧ Aside0 (Below w.heap.size w wc))
                      case first => as_aux_lemma =>
                        have H := HC56.out
                        clear HC56
                        by_cases c57 : x14_4 < (l0_3.length : Int)
                        · rw [if_pos c57] at H
                          have c57b0 : decide (x14_4 < (l0_3.length : Int)) = true := decide_eq_true c57
                          clear c57
                          (first | rw [c57b0] | (simp only [i64_w, i32_w]; rw [c57b0]) | skip)
                          by_cases c58 : x14_4 < 40
                          · rw [if_pos c58] at H
                            have c58b0 : decide (x14_4 < 40) = true := decide_eq_true c58
                            clear c58
                            as_aux_lemma =>
                              have H' := Aside0.mk H
                              clear H
                              go_wp2
                              go_meet
                              case rel => exact ⟨_, (decide ((x4_18.length : Int) > 0)), (by first | rfl | (simp; done) | (simp [*]; done)), H', ⟨by have := HJ2.out; have := HJ18.out; have := HK3.out; have := HK4.out; first | omega | exact Nat.le_refl _⟩, ⟨by (with_reducible repeat (first | apply Kd.V_alloc | apply Kd.V_drewN | apply Kd.V_drew)); exact HO_3.out⟩, ⟨by (with_reducible repeat (first | apply Kd.V_alloc | apply Kd.V_drewN | apply Kd.V_drew)); exact HO_4.out⟩, ⟨by (with_reducible repeat (first | apply Kd.V_alloc | apply Kd.V_drewN | apply Kd.V_drew)); exact HO_7.out⟩, ⟨by (with_reducible repeat (first | apply Kd.V_alloc | apply Kd.V_drewN | apply Kd.V_drew)); exact HO_8.out⟩, ⟨by (with_reducible repeat (first | apply Kd.V_alloc | apply Kd.V_drewN | apply Kd.V_drew)); exact HO_361000.out⟩, ⟨by (with_reducible repeat (first | apply Kd.V_alloc | apply Kd.V_drewN | apply Kd.V_drew)); exact HO_361001.out⟩, ⟨by (with_reducible repeat (first | refine blk_drewN ?_ _ | refine blk_drew ?_ | refine blk_alloc ?_ _)); exact BK360.out⟩, ⟨by repeat (first | (with_reducible first | exact HB.out | apply below_alloc | apply pw_below_drewN | apply below_drew1 | refine below_set ?_ GE360.out) | exact HB.out)⟩⟩
                          · rw [if_neg c58] at H
                            have c58b0 : decide (x14_4 < 40) = false := decide_eq_false c58
                            clear c58
                            as_aux_lemma =>
                              have H' := Aside0.mk H
                              clear H
                              go_wp2
                              go_meet
                              case rel => exact ⟨_, (false), (by first | rfl | (simp; done) | (simp [*]; done)), H', ⟨by have := HJ2.out; have := HJ18.out; have := HK3.out; have := HK4.out; first | omega | exact Nat.le_refl _⟩, ⟨by (with_reducible repeat (first | apply Kd.V_alloc | apply Kd.V_drewN | apply Kd.V_drew)); exact HO_3.out⟩, ⟨by (with_reducible repeat (first | apply Kd.V_alloc | apply Kd.V_drewN | apply Kd.V_drew)); exact HO_4.out⟩, ⟨by (with_reducible repeat (first | apply Kd.V_alloc | apply Kd.V_drewN | apply Kd.V_drew)); exact HO_7.out⟩, ⟨by (with_reducible repeat (first | apply Kd.V_alloc | apply Kd.V_drewN | apply Kd.V_drew)); exact HO_8.out⟩, ⟨by (with_reducible repeat (first | apply Kd.V_alloc | apply Kd.V_drewN | apply Kd.V_drew)); exact HO_361000.out⟩, ⟨by (with_reducible repeat (first | apply Kd.V_alloc | apply Kd.V_drewN | apply Kd.V_drew)); exact HO_361001.out⟩, ⟨by (with_reducible repeat (first | refine blk_drewN ?_ _ | refine blk_drew ?_ | refine blk_alloc ?_ _)); exact BK360.out⟩, ⟨by repeat (first | (with_reducible first | exact HB.out | apply below_alloc | apply pw_below_drewN | apply below_drew1 | refine below_set ?_ GE360.out) | exact HB.out)⟩⟩
                        · rw [if_neg c57] at H
                          have c57b0 : decide (x14_4 < (l0_3.length : Int)) = false := decide_eq_false c57
                          clear c57
                          (first | rw [c57b0] | (simp only [i64_w, i32_w]; rw [c57b0]) | skip)
                          as_aux_lemma =>
                            have H' := Aside0.mk H
                            clear H
                            go_wp2
                            go_meet
                            case rel => exact ⟨_, (false), (by first | rfl | (simp; done) | (simp [*]; done)), H', ⟨by have := HJ2.out; have := HJ18.out; have := HK3.out; have := HK4.out; first | omega | exact Nat.le_refl _⟩, ⟨by (with_reducible repeat (first | apply Kd.V_alloc | apply Kd.V_drewN | apply Kd.V_drew)); exact HO_3.out⟩, ⟨by (with_reducible repeat (first | apply Kd.V_alloc | apply Kd.V_drewN | apply Kd.V_drew)); exact HO_4.out⟩, ⟨by (with_reducible repeat (first | apply Kd.V_alloc | apply Kd.V_drewN | apply Kd.V_drew)); exact HO_7.out⟩, ⟨by (with_reducible repeat (first | apply Kd.V_alloc | apply Kd.V_drewN | apply Kd.V_drew)); exact HO_8.out⟩, ⟨by (with_reducible repeat (first | apply Kd.V_alloc | apply Kd.V_drewN | apply Kd.V_drew)); exact HO_361000.out⟩, ⟨by (with_reducible repeat (first | apply Kd.V_alloc | apply Kd.V_drewN | apply Kd.V_drew)); exact HO_361001.out⟩, ⟨by (with_reducible repeat (first | refine blk_drewN ?_ _ | refine blk_drew ?_ | refine blk_alloc ?_ _)); exact BK360.out⟩, ⟨by repeat (first | (with_reducible first | exact HB.out | apply below_alloc | apply pw_below_drewN | apply below_drew1 | refine below_set ?_ GE360.out) | exact HB.out)⟩⟩
                      case rest => as_aux_lemma =>
                        clear HC56
                        try clear c1
                        try clear c2
                        try clear p2
                        try clear q2
                        try clear c3
                        try clear p3
                        try clear q3
                        try clear hx3
                        try clear c4
                        try clear c5
                        try clear p6
                        try clear c8
                        try clear c8b0
                        try clear c8b1
                        try clear c9
                        try clear c9b0
                        try clear c9b1
                        try clear c9b2
                        try clear c16
                        try clear c17
                        try clear c20
                        try clear c20b0
                        try clear c20b1
                        try clear c21
                        try clear c21b0
                        try clear c21b1
                        try clear q22
                        try clear c23
                        try clear c23b0
                        try clear c24
                        try clear c24b0
                        try clear c26
                        try clear c27
                        try clear c27b0
                        try clear c27b1
                        try clear c27b2
                        try clear c28
                        try clear c29
                        try clear c29b0
                        try clear c30
                        try clear c30b0
                        try clear c31
                        try clear c31b0
                        try clear c31b1
                        try clear c31b2
                        try clear p37
                        try clear q37
                        try clear hx37
                        try clear p38
                        try clear q38
                        try clear hx38
                        try clear c40
                        try clear c40b0
                        try clear c40b1
                        try clear c42
                        try clear c43
                        try clear c43b0
                        try clear c44
                        try clear c44b0
                        try clear c45
                        try clear c45b0
                        try clear c47
                        try clear c57
                        try clear c57b0
                        try clear c58
                        try clear c58b0
                        try clear hx371_0
                        try clear hx371_1
                        try clear hx374_0
                        try clear hx375_0
                        try clear hx375_1
                        try clear hx381_0
                        try clear hx381_1
                        try clear hx382_0
                        try clear hx382_1
                        try clear p2
                        try clear p3
                        try clear p37
                        try clear p371
                        try clear p374
                        try clear p375
                        try clear p38
                        try clear p381
                        try clear p382
                        try clear p6
                        try clear q2
                        try clear q22
                        try clear q3
                        try clear q37
                        try clear q371
                        try clear q374
                        try clear q375
                        try clear q38
                        try clear q381
                        try clear q382
                        obtain ⟨kq, x124_55, rfl, HA, HJ55, HO_3, HO_4, HO_7, HO_8, HO_361000, HO_361001, BK360, HB⟩ := hcut
                        cases kq with
                        | zero => exact absurd HA.out (by simp [tattlelaw06_TableOrders.j6])
                        | succ kj55 =>
                          have H := HA.out
                          clear HA
                          simp only [tattlelaw06_TableOrders.j6] at H
                          by_cases c59 : x124_55 = true
                          · subst c59
                            have H1 : (if 0 ≤ x14_4 then (if x14_4 < (l0_3.length : Int) then (if (x4_18.length : Int) = 0 then (none) else (if (l0_2.length : Int) = 0 then (none) else (if 0 ≤ (Int.tmod (Int.tmod (wrap64 (rd l0_3 x14_4)) (x4_18.length : Int)) (l0_2.length : Int)) then (if (Int.tmod (Int.tmod (wrap64 (rd l0_3 x14_4)) (x4_18.length : Int)) (l0_2.length : Int)) < (l0_2.length : Int) then (if (t361.length : Int) = 0 then (none) else (if 0 ≤ (Int.tmod (wrap64 (rd l0_3 x14_4)) (x4_18.length : Int)) then (if (Int.tmod (wrap64 (rd l0_3 x14_4)) (x4_18.length : Int)) < (x4_18.length : Int) then ((table_Apply.f kj55 x8_4 (Int.tmod (wrap64 (rd l0_2 (Int.tmod (Int.tmod (wrap64 (rd l0_3 x14_4)) (x4_18.length : Int)) (l0_2.length : Int)))) (t361.length : Int)) ((rd_T26 x4_18 (Int.tmod (wrap64 (rd l0_3 x14_4)) (x4_18.length : Int))).f0) ((rd_T26 x4_18 (Int.tmod (wrap64 (rd l0_3 x14_4)) (x4_18.length : Int))).f1)).bind fun bt387 => (if bt387.2.2 = 0 then (tattlelaw06_TableOrders.l2 kj55 t361 x4_18 l0_2 l0_3 x7_3 bt387.1 (wrap64 (x14_4 + 1))) else (some false))) else (none)) else (none))) else (none)) else (none)))) else (none)) else (none)) = some r := by rw [if_pos rfl] at H; exact H
                            clear H
                            have H := H1
                            clear H1
                            by_cases c60 : 0 ≤ x14_4
                            · rw [if_pos c60] at H
                              have c60b0 : decide (0 ≤ x14_4) = true := decide_eq_true c60
                              clear c60
                              by_cases c61 : x14_4 < (l0_3.length : Int)
                              · rw [if_pos c61] at H
                                have c61b0 : decide (x14_4 < (l0_3.length : Int)) = true := decide_eq_true c61
                                clear c61
                                by_cases c62 : (x4_18.length : Int) = 0
                                · rw [if_pos c62] at H
                                  exact absurd H (by simp)
                                · rw [if_neg c62] at H
                                  have c62b0 : ((x4_18.length : Int) == 0) = false := beq_eq_false_iff_ne.mpr c62
                                  have c62b1 : ((x4_18.length : Int) != 0) = true := bne_iff_ne.mpr c62
                                  have c62b2 : ¬ (x4_18 = []) := fun h_ => c62 (by rw [h_]; rfl)
                                  by_cases c63 : (l0_2.length : Int) = 0
                                  · rw [if_pos c63] at H
                                    exact absurd H (by simp)
                                  · rw [if_neg c63] at H
                                    have c63b0 : ((l0_2.length : Int) == 0) = false := beq_eq_false_iff_ne.mpr c63
                                    have c63b1 : ((l0_2.length : Int) != 0) = true := bne_iff_ne.mpr c63
                                    have c63b2 : ¬ (l0_2 = []) := fun h_ => c63 (by rw [h_]; rfl)
                                    obtain ⟨ji64, hji64⟩ : ∃ j_ : Int, (Int.tmod (Int.tmod (wrap64 (rd l0_3 x14_4)) (x4_18.length : Int)) (l0_2.length : Int)) = j_ := ⟨_, rfl⟩
                                    replace H : (if 0 ≤ (ji64) then (if (ji64) < (l0_2.length : Int) then (if (t361.length : Int) = 0 then (none) else (if 0 ≤ (Int.tmod (wrap64 (rd l0_3 x14_4)) (x4_18.length : Int)) then (if (Int.tmod (wrap64 (rd l0_3 x14_4)) (x4_18.length : Int)) < (x4_18.length : Int) then ((table_Apply.f kj55 x8_4 (Int.tmod (wrap64 (rd l0_2 (ji64))) (t361.length : Int)) ((rd_T26 x4_18 (Int.tmod (wrap64 (rd l0_3 x14_4)) (x4_18.length : Int))).f0) ((rd_T26 x4_18 (Int.tmod (wrap64 (rd l0_3 x14_4)) (x4_18.length : Int))).f1)).bind fun bt387 => (if bt387.2.2 = 0 then (tattlelaw06_TableOrders.l2 kj55 t361 x4_18 l0_2 l0_3 x7_3 bt387.1 (wrap64 (x14_4 + 1))) else (some false))) else (none)) else (none))) else (none)) else (none)) = some r := by first | (rw [hji64] at H; exact H) | (simp only [hji64] at H ⊢; exact H)
                                    by_cases c65 : 0 ≤ (ji64)
                                    · rw [if_pos c65] at H
                                      have c65b0 : decide (0 ≤ (ji64)) = true := decide_eq_true c65
                                      clear c65
                                      by_cases c66 : (ji64) < (l0_2.length : Int)
                                      · rw [if_pos c66] at H
                                        have c66b0 : decide ((ji64) < (l0_2.length : Int)) = true := decide_eq_true c66
                                        clear c66
                                        by_cases c67 : (t361.length : Int) = 0
                                        · rw [if_pos c67] at H
                                          exact absurd H (by simp)
                                        · rw [if_neg c67] at H
                                          have c67b0 : ((t361.length : Int) == 0) = false := beq_eq_false_iff_ne.mpr c67
                                          have c67b1 : ((t361.length : Int) != 0) = true := bne_iff_ne.mpr c67
                                          have c67b2 : ¬ (t361 = []) := fun h_ => c67 (by rw [h_]; rfl)
                                          obtain ⟨ji68, hji68⟩ : ∃ j_ : Int, (Int.tmod (wrap64 (rd l0_3 x14_4)) (x4_18.length : Int)) = j_ := ⟨_, rfl⟩
                                          (try rw [hji68] at hji64)
                                          replace H : (if 0 ≤ (ji68) then (if (ji68) < (x4_18.length : Int) then ((table_Apply.f kj55 x8_4 (Int.tmod (wrap64 (rd l0_2 (ji64))) (t361.length : Int)) ((rd_T26 x4_18 (ji68)).f0) ((rd_T26 x4_18 (ji68)).f1)).bind fun bt387 => (if bt387.2.2 = 0 then (tattlelaw06_TableOrders.l2 kj55 t361 x4_18 l0_2 l0_3 x7_3 bt387.1 (wrap64 (x14_4 + 1))) else (some false))) else (none)) else (none)) = some r := by first | (rw [hji68] at H; exact H) | (simp only [hji68] at H ⊢; exact H)
                                          by_cases c69 : 0 ≤ (ji68)
                                          · rw [if_pos c69] at H
                                            have c69b0 : decide (0 ≤ (ji68)) = true := decide_eq_true c69
                                            clear c69
                                            by_cases c70 : (ji68) < (x4_18.length : Int)
                                            · rw [if_pos c70] at H
                                              have c70b0 : decide ((ji68) < (x4_18.length : Int)) = true := decide_eq_true c70
                                              clear c70
                                              replace H := Option.bind_eq_some_iff.mp H
                                              obtain ⟨⟨t387, t390, t391⟩, A710, H⟩ := H
                                              replace H : (if t391 = 0 then (tattlelaw06_TableOrders.l2 kj55 t361 x4_18 l0_2 l0_3 x7_3 t387 (wrap64 (x14_4 + 1))) else (some false)) = some r := H
                                              have A71 := Aside0.mk A710
                                              clear A710
                                              by_cases c72 : t391 = 0
                                              · rw [if_pos c72] at H
                                                have c72b0 : (t391 == 0) = true := beq_iff_eq.mpr c72
                                                have c72b1 : (t391 != 0) = false := bne_eq_false_iff_eq.mpr c72
                                                clear c72
                                                as_aux_lemma =>
                                                  have H' := Aside0.mk H
                                                  clear H
                                                  have p384 : 0 ≤ (x14_4 : Int) := of_decide_eq_true (by first | (with_reducible assumption) | assumption)
                                                  have q384 : x14_4 < (l0_3.length : Int) := of_decide_eq_true (by first | (with_reducible assumption) | assumption)
                                                  obtain ⟨ad384, e384, hx384_0⟩ := Kd.at_int HR0_3.out x14_4 p384 q384
                                                  cases e384
                                                  replace hx384_0 := (HB.out.cell (World.block_lt_of_cell? w _ hx384_0)).trans hx384_0
                                                  replace p384 := eq_true p384
                                                  replace q384 := eq_true q384
                                                  try go_wp2
                                                  have n0_ := Aside0.mk (Kd.V_drew HO_3.out)
                                                  have n1_ := Aside0.mk (Kd.V_drew HO_4.out)
                                                  have n2_ := Aside0.mk (Kd.V_drew HO_7.out)
                                                  have n3_ := Aside0.mk (Kd.V_drew HO_8.out)
                                                  have n4_ := Aside0.mk (Kd.V_drew HO_361000.out)
                                                  have n5_ := Aside0.mk (Kd.V_drew HO_361001.out)
                                                  have n6_ := Aside0.mk (blk_drew BK360.out)
                                                  have n7_ := Aside0.mk (below_drew1 HB.out)
                                                  clear HO_3
                                                  clear HO_4
                                                  clear HO_7
                                                  clear HO_8
                                                  clear HO_361000
                                                  clear HO_361001
                                                  clear BK360
                                                  clear HB
                                                  have HO_3 := n0_
                                                  have HO_4 := n1_
                                                  have HO_7 := n2_
                                                  have HO_8 := n3_
                                                  have HO_361000 := n4_
                                                  have HO_361001 := n5_
                                                  have BK360 := n6_
                                                  have HB := n7_
                                                  clear n0_ n1_ n2_ n3_ n4_ n5_ n6_ n7_
                                                  have p385 : 0 ≤ ((ji64) : Int) := of_decide_eq_true (by first | (with_reducible assumption) | assumption)
                                                  have q385 : (ji64) < (l0_2.length : Int) := of_decide_eq_true (by first | (with_reducible assumption) | assumption)
                                                  obtain ⟨ad385, e385, hx385_0⟩ := Kd.at_int HR0_2.out (ji64) p385 q385
                                                  have hw385_0 := hx385_0
                                                  cases e385
                                                  replace hx385_0 := (HB.out.cell (World.block_lt_of_cell? w _ hx385_0)).trans hx385_0
                                                  replace p385 := eq_true p385
                                                  replace q385 := eq_true q385
                                                  obtain ⟨Ao74, co74, eo74⟩ := Kd.V_slice HO_3.out
                                                  (try (have KEEPHO_4 := HO_4))
                                                  (try (have KEEPHO_7 := HO_7))
                                                  (try (have KEEPHO_8 := HO_8))
                                                  (try (have KEEPHO_10 := HO_10))
                                                  (first | subst eo74 | (injection eo74 with f1_ f2_ f3_; have f4_ := f1_.symm; have f5_ := f3_.symm; clear f1_ f2_ f3_; subst f4_; subst f5_))
                                                  (try (have HO_4 := KEEPHO_4)); (try clear KEEPHO_4)
                                                  (try (have HO_7 := KEEPHO_7)); (try clear KEEPHO_7)
                                                  (try (have HO_8 := KEEPHO_8)); (try clear KEEPHO_8)
                                                  (try (have HO_10 := KEEPHO_10)); (try clear KEEPHO_10)
                                                  have p386 : 0 ≤ ((ji68) : Int) := of_decide_eq_true (by first | (with_reducible assumption) | assumption)
                                                  have q386 : (ji68) < (x4_18.length : Int) := of_decide_eq_true (by first | (with_reducible assumption) | assumption)
                                                  obtain ⟨ad386, e386, hx386_0, hx386_1⟩ := at_T26 (Kd.V_reads' HO_4.out).2.2 (ji68) p386 q386
                                                  cases e386
                                                  replace p386 := eq_true p386
                                                  replace q386 := eq_true q386
                                                  obtain ⟨Ao75, co75, eo75⟩ := Kd.V_slice HO_8.out
                                                  (try (have KEEPHO_4 := HO_4))
                                                  (try (have KEEPHO_7 := HO_7))
                                                  (try (have KEEPHO_8 := HO_8))
                                                  (try (have KEEPHO_10 := HO_10))
                                                  (first | subst eo75 | (injection eo75 with f1_ f2_ f3_; have f4_ := f1_.symm; have f5_ := f3_.symm; clear f1_ f2_ f3_; subst f4_; subst f5_))
                                                  (try (have HO_4 := KEEPHO_4)); (try clear KEEPHO_4)
                                                  (try (have HO_7 := KEEPHO_7)); (try clear KEEPHO_7)
                                                  (try (have HO_8 := KEEPHO_8)); (try clear KEEPHO_8)
                                                  (try (have HO_10 := KEEPHO_10)); (try clear KEEPHO_10)
                                                  refine start_ (n := 24) (S := fun w' => w'.cell? (ad385.add ((ji64)).toNat) = some (.int .u8 (rd l0_2 (ji64))) ∧ w'.cell? (ad386.add (((ji68)).toNat * 2)) = some (.int .u64 ((rd_T26 x4_18 (ji68)).f0)) ∧ w'.cell? ⟨(ad386.add (((ji68)).toNat * 2)).block, (ad386.add (((ji68)).toNat * 2)).off + 1, none⟩ = some (.int .i64 ((rd_T26 x4_18 (ji68)).f1))) (ds := []) #[false, false, false, false, false, false, false, false, false, false, false, false, false, false, false, false, false, false, false, false, false, false, false, false] (by kernel_rfl) rfl rfl ⟨((HB.out.cell (World.block_lt_of_cell? w _ hw385_0)).trans hw385_0), hx386_0, hx386_1⟩ (fun hHeld => ?_); refine with_tabW tattlelaw06_TableOrders.tab25 tattlelaw06_TableOrders.bits25 (fun HT_ HW_ => ?_)
                                                  generalize wc.drew = w73 at HO_3 HO_4 HO_7 HO_8 HO_361000 HO_361001 BK360 HB hx385_0 hx386_0 hx386_1 hHeld ⊢
                                                  refine pure_ (i := 0) (N := some 136) (v := ?_) (a' := ?_) #[true, false, false, false, false, false, false, false, false, false, false, false, false, false, false, false, false, false, false, false, false, false, false, false] rfl rfl (any_of HT_.out (by kernel_rfl)) (fun _ _ _ h => h) (Or.inl ⟨by rfl, ?_⟩) ?_ ?_
                                                  rotate_left
                                                  · intro w'
                                                    go_simp
                                                    with_reducible rfl
                                                  rotate_left
                                                  · simp only [Act.put, List.setIfInBounds_toArray, List.set_cons_zero, List.set_cons_succ, i64_w, i32_w]
                                                    rfl
                                                  refine pure_ (i := 1) (N := some 137) (v := ?_) (a' := ?_) #[true, true, false, false, false, false, false, false, false, false, false, false, false, false, false, false, false, false, false, false, false, false, false, false] rfl rfl (any_of HT_.out (by kernel_rfl)) (fun _ _ _ h => h) (Or.inl ⟨by rfl, ?_⟩) ?_ ?_
                                                  rotate_left
                                                  · intro w'
                                                    go_simp
                                                    with_reducible rfl
                                                  rotate_left
                                                  · simp only [Act.put, List.setIfInBounds_toArray, List.set_cons_zero, List.set_cons_succ, i64_w, i32_w]
                                                    rfl
                                                  refine pure_ (i := 2) (N := some 138) (v := ?_) (a' := ?_) #[true, true, true, false, false, false, false, false, false, false, false, false, false, false, false, false, false, false, false, false, false, false, false, false] rfl rfl (any_of HT_.out (by kernel_rfl)) (fun _ _ _ h => h) (Or.inl ⟨by rfl, ?_⟩) ?_ ?_
                                                  rotate_left
                                                  · intro w'
                                                    go_simp
                                                    with_reducible rfl
                                                  rotate_left
                                                  · simp only [Act.put, List.setIfInBounds_toArray, List.set_cons_zero, List.set_cons_succ, i64_w, i32_w]
                                                    rfl
                                                  refine pure_ (i := 3) (N := some 139) (v := ?_) (a' := ?_) #[true, true, true, true, false, false, false, false, false, false, false, false, false, false, false, false, false, false, false, false, false, false, false, false] rfl rfl (any_of HT_.out (by kernel_rfl)) (fun _ _ _ h => h) (Or.inl ⟨by rfl, ?_⟩) ?_ ?_
                                                  rotate_left
                                                  · intro w'
                                                    go_simp
                                                    with_reducible rfl
                                                  rotate_left
                                                  · simp only [Act.put, List.setIfInBounds_toArray, List.set_cons_zero, List.set_cons_succ, i64_w, i32_w]
                                                    rfl
                                                  refine pure_ (i := 4) (N := some 140) (v := ?_) (a' := ?_) #[true, true, true, true, true, false, false, false, false, false, false, false, false, false, false, false, false, false, false, false, false, false, false, false] rfl rfl (any_of HT_.out (by kernel_rfl)) (fun _ _ _ h => h) (Or.inl ⟨by rfl, ?_⟩) ?_ ?_
                                                  rotate_left
                                                  · intro w'
                                                    go_simp
                                                    with_reducible rfl
                                                  rotate_left
                                                  · simp only [Act.put, List.setIfInBounds_toArray, List.set_cons_zero, List.set_cons_succ, i64_w, i32_w]
                                                    rfl
                                                  refine pure_ (i := 5) (N := some 141) (v := ?_) (a' := ?_) #[true, true, true, true, true, true, false, false, false, false, false, false, false, false, false, false, false, false, false, false, false, false, false, false] rfl rfl (any_of HT_.out (by kernel_rfl)) (fun _ _ _ h => h) (Or.inl ⟨by rfl, ?_⟩) ?_ ?_
                                                  rotate_left
                                                  · intro w'
                                                    go_simp
                                                    with_reducible rfl
                                                  rotate_left
                                                  · simp only [Act.put, List.setIfInBounds_toArray, List.set_cons_zero, List.set_cons_succ, i64_w, i32_w]
                                                    rfl
                                                  refine pure_ (i := 6) (N := some 142) (v := ?_) (a' := ?_) #[true, true, true, true, true, true, true, false, false, false, false, false, false, false, false, false, false, false, false, false, false, false, false, false] rfl rfl (any_of HT_.out (by kernel_rfl)) (fun _ _ _ h => h) (Or.inl ⟨by rfl, ?_⟩) ?_ ?_
                                                  rotate_left
                                                  · intro w'
                                                    go_simp
                                                    with_reducible rfl
                                                  rotate_left
                                                  · simp only [Act.put, List.setIfInBounds_toArray, List.set_cons_zero, List.set_cons_succ, i64_w, i32_w]
                                                    rfl
                                                  refine pure_ (i := 9) (N := some 145) (v := ?_) (a' := ?_) #[true, true, true, true, true, true, true, false, false, true, false, false, false, false, false, false, false, false, false, false, false, false, false, false] rfl rfl (any_of HT_.out (by kernel_rfl)) (fun _ _ _ h => h) (Or.inl ⟨by rfl, ?_⟩) ?_ ?_
                                                  rotate_left
                                                  · intro w'
                                                    go_simp
                                                    with_reducible rfl
                                                  rotate_left
                                                  · simp only [Act.put, List.setIfInBounds_toArray, List.set_cons_zero, List.set_cons_succ, i64_w, i32_w]
                                                    rfl
                                                  refine pure_ (i := 10) (N := some 146) (v := ?_) (a' := ?_) #[true, true, true, true, true, true, true, false, false, true, true, false, false, false, false, false, false, false, false, false, false, false, false, false] rfl rfl (any_of HT_.out (by kernel_rfl)) (fun _ _ _ h => h) (Or.inl ⟨by rfl, ?_⟩) ?_ ?_
                                                  rotate_left
                                                  · intro w'
                                                    go_simp
                                                    with_reducible rfl
                                                  rotate_left
                                                  · simp only [Act.put, List.setIfInBounds_toArray, List.set_cons_zero, List.set_cons_succ, i64_w, i32_w]
                                                    rfl
                                                  refine pure_ (i := 12) (N := some 148) (v := ?_) (a' := ?_) #[true, true, true, true, true, true, true, false, false, true, true, false, true, false, false, false, false, false, false, false, false, false, false, false] rfl rfl (any_of HT_.out (by kernel_rfl)) (fun _ _ _ h => h) (Or.inl ⟨by rfl, ?_⟩) ?_ ?_
                                                  rotate_left
                                                  · intro w'
                                                    go_simp
                                                    with_reducible rfl
                                                  rotate_left
                                                  · simp only [Act.put, List.setIfInBounds_toArray, List.set_cons_zero, List.set_cons_succ, i64_w, i32_w]
                                                    rfl
                                                  refine pure_ (i := 13) (N := some 149) (v := ?_) (a' := ?_) #[true, true, true, true, true, true, true, false, false, true, true, false, true, true, false, false, false, false, false, false, false, false, false, false] rfl rfl (any_of HT_.out (by kernel_rfl)) (fun _ _ _ h => h) (Or.inl ⟨by rfl, ?_⟩) ?_ ?_
                                                  rotate_left
                                                  · intro w'
                                                    go_simp
                                                    with_reducible rfl
                                                  rotate_left
                                                  · simp only [Act.put, List.setIfInBounds_toArray, List.set_cons_zero, List.set_cons_succ, i64_w, i32_w]
                                                    rfl
                                                  refine pure_ (i := 14) (N := some 150) (v := ?_) (a' := ?_) #[true, true, true, true, true, true, true, false, false, true, true, false, true, true, true, false, false, false, false, false, false, false, false, false] rfl rfl (any_of HT_.out (by kernel_rfl)) (fun _ _ _ h => h) (Or.inl ⟨by rfl, ?_⟩) ?_ ?_
                                                  rotate_left
                                                  · intro w'
                                                    go_simp
                                                    with_reducible rfl
                                                  rotate_left
                                                  · simp only [Act.put, List.setIfInBounds_toArray, List.set_cons_zero, List.set_cons_succ, i64_w, i32_w]
                                                    rfl
                                                  refine take_ (i := 7) (N := some 143) (v := ?_) (a' := ?_) #[true, true, true, true, true, true, true, true, false, true, true, false, true, true, true, false, false, false, false, false, false, false, false, false] rfl rfl (take_ofW HT_.out HW_.out (by kernel_rfl)) (fun _ _ _ h => h) (Or.inl ⟨by rfl, ?_⟩) hHeld ?_ ?_
                                                  rotate_left
                                                  · rintro w' ⟨s0, s1, s2⟩
                                                    go_simp
                                                    with_reducible rfl
                                                  rotate_left
                                                  · simp only [Act.put, List.setIfInBounds_toArray, List.set_cons_zero, List.set_cons_succ, i64_w, i32_w]
                                                    rfl
                                                  refine pure_ (i := 8) (N := some 144) (v := ?_) (a' := ?_) #[true, true, true, true, true, true, true, true, true, true, true, false, true, true, true, false, false, false, false, false, false, false, false, false] rfl rfl (any_of HT_.out (by kernel_rfl)) (fun _ _ _ h => h) (Or.inl ⟨by rfl, ?_⟩) ?_ ?_
                                                  rotate_left
                                                  · intro w'
                                                    go_simp
                                                    with_reducible rfl
                                                  rotate_left
                                                  · simp only [Act.put, List.setIfInBounds_toArray, List.set_cons_zero, List.set_cons_succ, i64_w, i32_w]
                                                    rfl
                                                  refine pure_ (i := 11) (N := some 147) (v := ?_) (a' := ?_) #[true, true, true, true, true, true, true, true, true, true, true, true, true, true, true, false, false, false, false, false, false, false, false, false] rfl rfl (any_of HT_.out (by kernel_rfl)) (fun _ _ _ h => h) (Or.inl ⟨by rfl, ?_⟩) ?_ ?_
                                                  rotate_left
                                                  · intro w'
                                                    go_simp
                                                    with_reducible rfl
                                                  rotate_left
                                                  · simp only [Act.put, List.setIfInBounds_toArray, List.set_cons_zero, List.set_cons_succ, i64_w, i32_w]
                                                    rfl
                                                  refine take_ (i := 15) (N := some 151) (v := ?_) (a' := ?_) #[true, true, true, true, true, true, true, true, true, true, true, true, true, true, true, true, false, false, false, false, false, false, false, false] rfl rfl (take_ofW HT_.out HW_.out (by kernel_rfl)) (fun _ _ _ h => h) (Or.inl ⟨by rfl, ?_⟩) hHeld ?_ ?_
                                                  rotate_left
                                                  · rintro w' ⟨s0, s1, s2⟩
                                                    go_simp
                                                    with_reducible rfl
                                                  rotate_left
                                                  · simp only [Act.put, List.setIfInBounds_toArray, List.set_cons_zero, List.set_cons_succ, i64_w, i32_w]
                                                    rfl
                                                  refine one_ (i := 16) (N := some 152) #[true, true, true, true, true, true, true, true, true, true, true, true, true, true, true, true, true, false, false, false, false, false, false, false] rfl rfl (one_of HT_.out (by kernel_rfl)) (by decide) (fun K hK => ?_)
                                                  refine goes_ Try.func29 (by kernel_rfl) rfl #[.slice Ao75 x8_4.length co75, .int .i64 (Int.tmod (wrap64 (rd l0_2 (ji64))) (t361.length : Int)), .agg #[.int .u64 ((rd_T26 x4_18 (ji68)).f0), .int .i64 ((rd_T26 x4_18 (ji68)).f1)]] (by rfl) rfl rfl (by (try simp only [List.map_toArray, List.map_cons, List.map_nil]); first | done | (simp only [hji64, hji68]; rfl) | rfl | (simp only [List.length_drop, List.length_take]; rfl)) ?_
                                                  with_reducible refine (table_Apply.calls kj55 (fun k_ => (((P0_0_ k_ ∨ P0_1_ k_) ∨ w.heap.size ≤ k_) ∧ k_ ≠ gb360)) _ _ x8_4 (Int.tmod (wrap64 (rd l0_2 (ji64))) (t361.length : Int)) ((rd_T26 x4_18 (ji68)).f0) ((rd_T26 x4_18 (ji68)).f1) t387 t390 t391 _ ?side1 A71.out).mono ?_
                                                  (case side1 => exact HO_8.out)
                                                  rintro e w76 ⟨v388, rfl, ho0, hb⟩
                                                  have HS1_ := (hb.cell (World.block_lt_of_cell? _ _ (hHeld.2.1))).trans (hHeld.2.1)
                                                  have HS2_ := (hb.cell (World.block_lt_of_cell? _ _ (hHeld.2.2))).trans (hHeld.2.2)
                                                  refine ⟨_, rfl, ?_⟩
                                                  have n0_ := Aside0.mk (Kd.V_below (by (with_reducible repeat (first | apply Kd.V_alloc | apply Kd.V_drewN | apply Kd.V_drew)); exact HO_3.out) hb)
                                                  have n1_ := Aside0.mk (Kd.V_below (by (with_reducible repeat (first | apply Kd.V_alloc | apply Kd.V_drewN | apply Kd.V_drew)); exact HO_4.out) hb)
                                                  have n2_ := Aside0.mk (Kd.V_below (by (with_reducible repeat (first | apply Kd.V_alloc | apply Kd.V_drewN | apply Kd.V_drew)); exact HO_7.out) hb)
                                                  have n3_ := Aside0.mk (Kd.V_below (by (with_reducible repeat (first | apply Kd.V_alloc | apply Kd.V_drewN | apply Kd.V_drew)); exact HO_8.out) hb)
                                                  have n4_ := Aside0.mk (Kd.V_below (by (with_reducible repeat (first | apply Kd.V_alloc | apply Kd.V_drewN | apply Kd.V_drew)); exact HO_361000.out) hb)
                                                  have n5_ := Aside0.mk (Kd.V_below (by (with_reducible repeat (first | apply Kd.V_alloc | apply Kd.V_drewN | apply Kd.V_drew)); exact HO_361001.out) hb)
                                                  have n6_ := Aside0.mk (Kd.V_lower (Kd.V_mono (ok' := fun k_ => ((P0_0_ k_ ∨ P0_1_ k_) ∨ w.heap.size ≤ k_) ∧ k_ ≠ gb360) ho0 (fun k_ hk_ => ⟨Or.elim hk_ (fun hs_ => hs_.1) (fun hn_ => (.inr (Nat.le_trans (below_size (by repeat (first | (with_reducible first | exact HB.out | apply below_alloc | apply pw_below_drewN | apply below_drew1 | refine below_set ?_ GE360.out) | exact HB.out))) hn_))), Or.elim hk_ (fun hs_ => hs_.2) (fun hn_ => (Kd.freshB (g := gb360) (o := .cells #[.slice A0_0 l0_0.length c0_0, .slice A0_1 l0_1.length c0_1, .slice (some ad385) l0_2.length c0_2, .slice (some ad384) l0_3.length c0_3] 47 (0, 0)) (by (with_reducible repeat (first | refine blk_drewN ?_ _ | refine blk_drew ?_ | refine blk_alloc ?_ _)); exact BK360.out) k_ hn_))⟩)) (below_size (by repeat (first | (with_reducible first | exact HB.out | apply below_alloc | apply pw_below_drewN | apply below_drew1 | refine below_set ?_ GE360.out) | exact HB.out))))
                                                  have n7_ := Aside0.mk (blk_below (g := gb360) (o := .cells #[.slice A0_0 l0_0.length c0_0, .slice A0_1 l0_1.length c0_1, .slice (some ad385) l0_2.length c0_2, .slice (some ad384) l0_3.length c0_3] 47 (0, 0)) (by (with_reducible repeat (first | refine blk_drewN ?_ _ | refine blk_drew ?_ | refine blk_alloc ?_ _)); exact BK360.out) hb)
                                                  have n8_ := Aside0.mk (below_step (by repeat (first | (with_reducible first | exact HB.out | apply below_alloc | apply pw_below_drewN | apply below_drew1 | refine below_set ?_ GE360.out) | exact HB.out)) hb)
                                                  clear HO_3
                                                  clear HO_4
                                                  clear HO_7
                                                  clear HO_8
                                                  clear HO_361000
                                                  clear HO_361001
                                                  clear BK360
                                                  clear HB
                                                  have HO_3 := n0_
                                                  have HO_4 := n1_
                                                  have HO_7 := n2_
                                                  have HO_8 := n3_
                                                  have HO_361000 := n4_
                                                  have HO_361001 := n5_
                                                  have HO389 := n6_
                                                  have BK360 := n7_
                                                  have HB := n8_
                                                  clear n0_ n1_ n2_ n3_ n4_ n5_ n6_ n7_ n8_
                                                  (try clear hb)
                                                  (try clear hb2)
                                                  (try clear hk)
                                                  (try clear hi)
                                                  (try clear ho0)
                                                  refine hK.out _ _ ⟨((HB.out.cell (World.block_lt_of_cell? w _ hw385_0)).trans hw385_0), HS1_, HS2_⟩ (fun hHeld => ?_)
                                                  clear hK K
                                                  refine norm_ (a' := ?_) ?_ ?_
                                                  rotate_left
                                                  · show Act.put _ (some 152) _ = _
                                                    simp only [Act.put, List.setIfInBounds_toArray, List.set_cons_zero, List.set_cons_succ, i64_w, i32_w]
                                                    rfl
                                                  refine pure_ (i := 17) (N := some 135) (v := ?_) (a' := ?_) #[true, true, true, true, true, true, true, true, true, true, true, true, true, true, true, true, true, true, false, false, false, false, false, false] rfl rfl (any_of HT_.out (by kernel_rfl)) (fun _ _ _ h => h) (Or.inl ⟨by rfl, ?_⟩) ?_ ?_
                                                  rotate_left
                                                  · intro w'
                                                    go_simp
                                                    with_reducible rfl
                                                  rotate_left
                                                  · simp only [Act.put, List.setIfInBounds_toArray, List.set_cons_zero, List.set_cons_succ, i64_w, i32_w]
                                                    rfl
                                                  refine pure_ (i := 18) (N := some 153) (v := ?_) (a' := ?_) #[true, true, true, true, true, true, true, true, true, true, true, true, true, true, true, true, true, true, true, false, false, false, false, false] rfl rfl (any_of HT_.out (by kernel_rfl)) (fun _ _ _ h => h) (Or.inl ⟨by rfl, ?_⟩) ?_ ?_
                                                  rotate_left
                                                  · intro w'
                                                    go_simp
                                                    with_reducible rfl
                                                  rotate_left
                                                  · simp only [Act.put, List.setIfInBounds_toArray, List.set_cons_zero, List.set_cons_succ, i64_w, i32_w]
                                                    rfl
                                                  refine pure_ (i := 19) (N := some 154) (v := ?_) (a' := ?_) #[true, true, true, true, true, true, true, true, true, true, true, true, true, true, true, true, true, true, true, true, false, false, false, false] rfl rfl (any_of HT_.out (by kernel_rfl)) (fun _ _ _ h => h) (Or.inl ⟨by rfl, ?_⟩) ?_ ?_
                                                  rotate_left
                                                  · intro w'
                                                    go_simp
                                                    with_reducible rfl
                                                  rotate_left
                                                  · simp only [Act.put, List.setIfInBounds_toArray, List.set_cons_zero, List.set_cons_succ, i64_w, i32_w]
                                                    rfl
                                                  refine pure_ (i := 20) (N := some 155) (v := ?_) (a' := ?_) #[true, true, true, true, true, true, true, true, true, true, true, true, true, true, true, true, true, true, true, true, true, false, false, false] rfl rfl (any_of HT_.out (by kernel_rfl)) (fun _ _ _ h => h) (Or.inl ⟨by rfl, ?_⟩) ?_ ?_
                                                  rotate_left
                                                  · intro w'
                                                    go_simp
                                                    with_reducible rfl
                                                  rotate_left
                                                  · simp only [Act.put, List.setIfInBounds_toArray, List.set_cons_zero, List.set_cons_succ, i64_w, i32_w]
                                                    rfl
                                                  refine pure_ (i := 21) (N := some 16) (v := ?_) (a' := ?_) #[true, true, true, true, true, true, true, true, true, true, true, true, true, true, true, true, true, true, true, true, true, true, false, false] rfl rfl (any_of HT_.out (by kernel_rfl)) (fun _ _ _ h => h) (Or.inl ⟨by rfl, ?_⟩) ?_ ?_
                                                  rotate_left
                                                  · intro w'
                                                    go_simp
                                                    with_reducible rfl
                                                  rotate_left
                                                  · simp only [Act.put, List.setIfInBounds_toArray, List.set_cons_zero, List.set_cons_succ, i64_w, i32_w]
                                                    rfl
                                                  refine pure_ (i := 22) (N := some 17) (v := ?_) (a' := ?_) #[true, true, true, true, true, true, true, true, true, true, true, true, true, true, true, true, true, true, true, true, true, true, true, false] rfl rfl (any_of HT_.out (by kernel_rfl)) (fun _ _ _ h => h) (Or.inl ⟨by rfl, ?_⟩) ?_ ?_
                                                  rotate_left
                                                  · intro w'
                                                    go_simp
                                                    with_reducible rfl
                                                  rotate_left
                                                  · simp only [Act.put, List.setIfInBounds_toArray, List.set_cons_zero, List.set_cons_succ, i64_w, i32_w]
                                                    rfl
                                                  refine pure_ (i := 23) (N := some 18) (v := ?_) (a' := ?_) #[true, true, true, true, true, true, true, true, true, true, true, true, true, true, true, true, true, true, true, true, true, true, true, true] rfl rfl (any_of HT_.out (by kernel_rfl)) (fun _ _ _ h => h) (Or.inl ⟨by rfl, ?_⟩) ?_ ?_
                                                  rotate_left
                                                  · intro w'
                                                    go_simp
                                                    with_reducible rfl
                                                  rotate_left
                                                  · simp only [Act.put, List.setIfInBounds_toArray, List.set_cons_zero, List.set_cons_succ, i64_w, i32_w]
                                                    rfl
                                                  refine done_ (done_of HT_.out (by kernel_rfl)) ?_
                                                  try go_wp2
                                                  go_roundg kj55
                                                  case measure => have := HJ2.out; have := HJ18.out; have := HK3.out; have := HK4.out; have := HJ55.out; omega
                                                  case rel => exact ⟨(t387), (wrap64 (x14_4 + 1)), (by first | rfl | (simp; done) | (simp [*]; done)), H', ⟨by have := HJ2.out; have := HJ18.out; have := HK3.out; have := HK4.out; have := HJ55.out; omega⟩, ⟨by (with_reducible repeat (first | apply Kd.V_alloc | apply Kd.V_drewN | apply Kd.V_drew)); exact HO_3.out⟩, ⟨by (with_reducible repeat (first | apply Kd.V_alloc | apply Kd.V_drewN | apply Kd.V_drew)); exact HO_4.out⟩, ⟨by (with_reducible repeat (first | apply Kd.V_alloc | apply Kd.V_drewN | apply Kd.V_drew)); exact HO_7.out⟩, ⟨by (with_reducible repeat (first | apply Kd.V_alloc | apply Kd.V_drewN | apply Kd.V_drew)); exact HO389.out⟩, ⟨by (with_reducible repeat (first | apply Kd.V_alloc | apply Kd.V_drewN | apply Kd.V_drew)); exact HO_361000.out⟩, ⟨by (with_reducible repeat (first | apply Kd.V_alloc | apply Kd.V_drewN | apply Kd.V_drew)); exact HO_361001.out⟩, ⟨by (with_reducible repeat (first | refine blk_drewN ?_ _ | refine blk_drew ?_ | refine blk_alloc ?_ _)); exact BK360.out⟩, ⟨by repeat (first | (with_reducible first | exact HB.out | apply below_alloc | apply pw_below_drewN | apply below_drew1 | refine below_set ?_ GE360.out) | exact HB.out)⟩⟩
                                              · rw [if_neg c72] at H
                                                have c72b0 : (t391 == 0) = false := beq_eq_false_iff_ne.mpr c72
                                                have c72b1 : (t391 != 0) = true := bne_iff_ne.mpr c72
                                                as_aux_lemma =>
                                                  exact absurd ((Option.some.inj H).trans hrt.out) (by decide)
                                            · rw [if_neg c70] at H
                                              exact absurd H (by simp)
                                          · rw [if_neg c69] at H
                                            exact absurd H (by simp)
                                      · rw [if_neg c66] at H
                                        exact absurd H (by simp)
                                    · rw [if_neg c65] at H
                                      exact absurd H (by simp)
                              · rw [if_neg c61] at H
                                exact absurd H (by simp)
                            · rw [if_neg c60] at H
                              exact absurd H (by simp)
                          · replace c59 := Bool.eq_false_iff.mpr c59
                            subst c59
                            have H1 : (tattlelaw06_TableOrders.l3 kj55 t361 x4_18 l0_2 x7_3 x8_4 (wrap64 ((x4_18.length : Int) - 1))) = some r := by rw [if_neg (show ¬ (false = true) by decide)] at H; exact H
                            clear H
                            have H := H1
                            clear H1
                            have H' := Aside0.mk H
                            clear H
                            go_wp2
                            go_loopg [8, 19] kj55 (fun kq v8 v19 w' => ∃ (x8_6 : List (S26)) (x19_6 : Int), v19 = .int .i64 x19_6 ∧ Aside0 (tattlelaw06_TableOrders.l3 kq t361 x4_18 l0_2 x7_3 x8_6 x19_6 = some r) ∧ Aside0 (kq ≤ kj55) ∧ Aside0 (Kd.V k26 26 w' w.heap.size (fun k_ => ((P0_0_ k_ ∨ P0_1_ k_) ∨ w.heap.size ≤ k_) ∧ k_ ≠ gb360) v362 t361) ∧ Aside0 (Kd.V k26 26 w' w.heap.size (fun k_ => ((P0_0_ k_ ∨ P0_1_ k_) ∨ w.heap.size ≤ k_) ∧ k_ ≠ gb360) (.slice Ao55 x4_18.length co55) x4_18) ∧ Aside0 (Kd.V k26 26 w' w.heap.size (fun k_ => ((P0_0_ k_ ∨ P0_1_ k_) ∨ w.heap.size ≤ k_) ∧ k_ ≠ gb360) u7 x7_3) ∧ Aside0 (Kd.V k26 26 w' w.heap.size (fun k_ => ((P0_0_ k_ ∨ P0_1_ k_) ∨ w.heap.size ≤ k_) ∧ k_ ≠ gb360) v8 x8_6) ∧ Aside0 (Kd.V k26 26 w' w.heap.size (fun k_ => ((P0_0_ k_ ∨ P0_1_ k_) ∨ w.heap.size ≤ k_) ∧ k_ ≠ gb360) (.slice A0_0 l0_0.length c0_0) l0_0) ∧ Aside0 (Kd.V k26 26 w' w.heap.size (fun k_ => ((P0_0_ k_ ∨ P0_1_ k_) ∨ w.heap.size ≤ k_) ∧ k_ ≠ gb360) (.slice A0_1 l0_1.length c0_1) l0_1) ∧ Aside0 (w'.heap[gb360]? = some (.cells #[(.slice A0_0 l0_0.length c0_0), (.slice A0_1 l0_1.length c0_1), (.slice A0_2 l0_2.length c0_2), (.slice A0_3 l0_3.length c0_3)] 47 (0, 0))) ∧ Aside0 (Below w.heap.size w w'))
                            case atStart => exact ⟨(x8_4), (wrap64 ((x4_18.length : Int) - 1)), (by first | rfl | (simp; done) | (simp [*]; done)), H', ⟨Nat.le_refl _⟩, ⟨by (with_reducible repeat (first | apply Kd.V_alloc | apply Kd.V_drewN | apply Kd.V_drew)); exact HO_3.out⟩, ⟨by (with_reducible repeat (first | apply Kd.V_alloc | apply Kd.V_drewN | apply Kd.V_drew)); exact HO_4.out⟩, ⟨by (with_reducible repeat (first | apply Kd.V_alloc | apply Kd.V_drewN | apply Kd.V_drew)); exact HO_7.out⟩, ⟨by (with_reducible repeat (first | apply Kd.V_alloc | apply Kd.V_drewN | apply Kd.V_drew)); exact HO_8.out⟩, ⟨by (with_reducible repeat (first | apply Kd.V_alloc | apply Kd.V_drewN | apply Kd.V_drew)); exact HO_361000.out⟩, ⟨by (with_reducible repeat (first | apply Kd.V_alloc | apply Kd.V_drewN | apply Kd.V_drew)); exact HO_361001.out⟩, ⟨by (with_reducible repeat (first | refine blk_drewN ?_ _ | refine blk_drew ?_ | refine blk_alloc ?_ _)); exact BK360.out⟩, ⟨by repeat (first | (with_reducible first | exact HB.out | apply below_alloc | apply pw_below_drewN | apply below_drew1 | refine below_set ?_ GE360.out) | exact HB.out)⟩⟩
                            case round =>
                              clear H'
                              try clear c1
                              try clear c2
                              try clear p2
                              try clear q2
                              try clear c3
                              try clear p3
                              try clear q3
                              try clear hx3
                              try clear c4
                              try clear c5
                              try clear c6
                              try clear p6
                              try clear c7
                              try clear c8
                              try clear c8b0
                              try clear c8b1
                              try clear c9
                              try clear c9b0
                              try clear c9b1
                              try clear c9b2
                              try clear c16
                              try clear c17
                              try clear c20
                              try clear c20b0
                              try clear c20b1
                              try clear c21
                              try clear c21b0
                              try clear c21b1
                              try clear q22
                              try clear c23
                              try clear c23b0
                              try clear c24
                              try clear c24b0
                              try clear c26
                              try clear c27
                              try clear c27b0
                              try clear c27b1
                              try clear c27b2
                              try clear c28
                              try clear c29
                              try clear c29b0
                              try clear c30
                              try clear c30b0
                              try clear c31
                              try clear c31b0
                              try clear c31b1
                              try clear c31b2
                              try clear p37
                              try clear q37
                              try clear hx37
                              try clear p38
                              try clear q38
                              try clear hx38
                              try clear c40
                              try clear c40b0
                              try clear c40b1
                              try clear c42
                              try clear c43
                              try clear c43b0
                              try clear c44
                              try clear c44b0
                              try clear c45
                              try clear c45b0
                              try clear c47
                              try clear c57
                              try clear c57b0
                              try clear c58
                              try clear c58b0
                              try clear c59
                              try clear c60
                              try clear c60b0
                              try clear c61
                              try clear c61b0
                              try clear c62
                              try clear c62b0
                              try clear c62b1
                              try clear c62b2
                              try clear c63
                              try clear c63b0
                              try clear c63b1
                              try clear c63b2
                              try clear p64
                              try clear c65
                              try clear c65b0
                              try clear c66
                              try clear c66b0
                              try clear c67
                              try clear c67b0
                              try clear c67b1
                              try clear c67b2
                              try clear c69
                              try clear c69b0
                              try clear c70
                              try clear c70b0
                              try clear c72
                              try clear c72b0
                              try clear c72b1
                              try clear hx371_0
                              try clear hx371_1
                              try clear hx374_0
                              try clear hx375_0
                              try clear hx375_1
                              try clear hx381_0
                              try clear hx381_1
                              try clear hx382_0
                              try clear hx382_1
                              try clear hx384_0
                              try clear hx385_0
                              try clear hx386_0
                              try clear hx386_1
                              try clear p2
                              try clear p3
                              try clear p37
                              try clear p371
                              try clear p374
                              try clear p375
                              try clear p38
                              try clear p381
                              try clear p382
                              try clear p384
                              try clear p385
                              try clear p386
                              try clear p6
                              try clear q2
                              try clear q22
                              try clear q3
                              try clear q37
                              try clear q371
                              try clear q374
                              try clear q375
                              try clear q38
                              try clear q381
                              try clear q382
                              try clear q384
                              try clear q385
                              try clear q386
                              obtain ⟨x8_6, x19_6, rfl, HA, HK6, HO_3, HO_4, HO_7, HO_8, HO_361000, HO_361001, BK360, HB⟩ := hrel
                              cases gk with
                              | zero => exact absurd HA.out (by simp [tattlelaw06_TableOrders.l3])
                              | succ k6 =>
                                have H := HA.out
                                clear HA
                                simp only [tattlelaw06_TableOrders.l3] at H
                                by_cases c77 : x19_6 ≥ 0
                                · rw [if_pos c77] at H
                                  have c77b0 : decide (0 ≤ x19_6) = true := decide_eq_true c77
                                  clear c77
                                  by_cases c78 : (l0_2.length : Int) = 0
                                  · rw [if_pos c78] at H
                                    exact absurd H (by simp)
                                  · rw [if_neg c78] at H
                                    have c78b0 : ((l0_2.length : Int) == 0) = false := beq_eq_false_iff_ne.mpr c78
                                    have c78b1 : ((l0_2.length : Int) != 0) = true := bne_iff_ne.mpr c78
                                    have c78b2 : ¬ (l0_2 = []) := fun h_ => c78 (by rw [h_]; rfl)
                                    obtain ⟨ji79, hji79⟩ : ∃ j_ : Int, (Int.tmod x19_6 (l0_2.length : Int)) = j_ := ⟨_, rfl⟩
                                    replace H : (if 0 ≤ (ji79) then (if (ji79) < (l0_2.length : Int) then (if (t361.length : Int) = 0 then (none) else (if 0 ≤ x19_6 then (if x19_6 < (x4_18.length : Int) then ((table_Apply.f k6 x8_6 (Int.tmod (wrap64 (rd l0_2 (ji79))) (t361.length : Int)) ((rd_T26 x4_18 x19_6).f0) ((rd_T26 x4_18 x19_6).f1)).bind fun bt394 => (if bt394.2.2 = 0 then (tattlelaw06_TableOrders.l3 k6 t361 x4_18 l0_2 x7_3 bt394.1 (wrap64 (x19_6 - 1))) else (some false))) else (none)) else (none))) else (none)) else (none)) = some r := by first | (rw [hji79] at H; exact H) | (simp only [hji79] at H ⊢; exact H)
                                    by_cases c80 : 0 ≤ (ji79)
                                    · rw [if_pos c80] at H
                                      have c80b0 : decide (0 ≤ (ji79)) = true := decide_eq_true c80
                                      clear c80
                                      by_cases c81 : (ji79) < (l0_2.length : Int)
                                      · rw [if_pos c81] at H
                                        have c81b0 : decide ((ji79) < (l0_2.length : Int)) = true := decide_eq_true c81
                                        clear c81
                                        by_cases c82 : (t361.length : Int) = 0
                                        · rw [if_pos c82] at H
                                          exact absurd H (by simp)
                                        · rw [if_neg c82] at H
                                          have c82b0 : ((t361.length : Int) == 0) = false := beq_eq_false_iff_ne.mpr c82
                                          have c82b1 : ((t361.length : Int) != 0) = true := bne_iff_ne.mpr c82
                                          have c82b2 : ¬ (t361 = []) := fun h_ => c82 (by rw [h_]; rfl)
                                          by_cases c83 : 0 ≤ x19_6
                                          · rw [if_pos c83] at H
                                            have c83b0 : decide (0 ≤ x19_6) = true := decide_eq_true c83
                                            clear c83
                                            by_cases c84 : x19_6 < (x4_18.length : Int)
                                            · rw [if_pos c84] at H
                                              have c84b0 : decide (x19_6 < (x4_18.length : Int)) = true := decide_eq_true c84
                                              clear c84
                                              replace H := Option.bind_eq_some_iff.mp H
                                              obtain ⟨⟨t394, t397, t398⟩, A850, H⟩ := H
                                              replace H : (if t398 = 0 then (tattlelaw06_TableOrders.l3 k6 t361 x4_18 l0_2 x7_3 t394 (wrap64 (x19_6 - 1))) else (some false)) = some r := H
                                              have A85 := Aside0.mk A850
                                              clear A850
                                              by_cases c86 : t398 = 0
                                              · rw [if_pos c86] at H
                                                have c86b0 : (t398 == 0) = true := beq_iff_eq.mpr c86
                                                have c86b1 : (t398 != 0) = false := bne_eq_false_iff_eq.mpr c86
                                                clear c86
                                                as_aux_lemma =>
                                                  have H' := Aside0.mk H
                                                  clear H
                                                  try go_wp2
                                                  have n0_ := Aside0.mk (Kd.V_drew HO_3.out)
                                                  have n1_ := Aside0.mk (Kd.V_drew HO_4.out)
                                                  have n2_ := Aside0.mk (Kd.V_drew HO_7.out)
                                                  have n3_ := Aside0.mk (Kd.V_drew HO_8.out)
                                                  have n4_ := Aside0.mk (Kd.V_drew HO_361000.out)
                                                  have n5_ := Aside0.mk (Kd.V_drew HO_361001.out)
                                                  have n6_ := Aside0.mk (blk_drew BK360.out)
                                                  have n7_ := Aside0.mk (below_drew1 HB.out)
                                                  clear HO_3
                                                  clear HO_4
                                                  clear HO_7
                                                  clear HO_8
                                                  clear HO_361000
                                                  clear HO_361001
                                                  clear BK360
                                                  clear HB
                                                  have HO_3 := n0_
                                                  have HO_4 := n1_
                                                  have HO_7 := n2_
                                                  have HO_8 := n3_
                                                  have HO_361000 := n4_
                                                  have HO_361001 := n5_
                                                  have BK360 := n6_
                                                  have HB := n7_
                                                  clear n0_ n1_ n2_ n3_ n4_ n5_ n6_ n7_
                                                  have p392 : 0 ≤ ((ji79) : Int) := of_decide_eq_true (by first | (with_reducible assumption) | assumption)
                                                  have q392 : (ji79) < (l0_2.length : Int) := of_decide_eq_true (by first | (with_reducible assumption) | assumption)
                                                  obtain ⟨ad392, e392, hx392_0⟩ := Kd.at_int HR0_2.out (ji79) p392 q392
                                                  have hw392_0 := hx392_0
                                                  cases e392
                                                  replace hx392_0 := (HB.out.cell (World.block_lt_of_cell? w _ hx392_0)).trans hx392_0
                                                  replace p392 := eq_true p392
                                                  replace q392 := eq_true q392
                                                  obtain ⟨Ao88, co88, eo88⟩ := Kd.V_slice HO_3.out
                                                  (try (have KEEPHO_4 := HO_4))
                                                  (try (have KEEPHO_7 := HO_7))
                                                  (try (have KEEPHO_8 := HO_8))
                                                  (try (have KEEPHO_10 := HO_10))
                                                  (first | subst eo88 | (injection eo88 with f1_ f2_ f3_; have f4_ := f1_.symm; have f5_ := f3_.symm; clear f1_ f2_ f3_; subst f4_; subst f5_))
                                                  (try (have HO_4 := KEEPHO_4)); (try clear KEEPHO_4)
                                                  (try (have HO_7 := KEEPHO_7)); (try clear KEEPHO_7)
                                                  (try (have HO_8 := KEEPHO_8)); (try clear KEEPHO_8)
                                                  (try (have HO_10 := KEEPHO_10)); (try clear KEEPHO_10)
                                                  have p393 : 0 ≤ (x19_6 : Int) := of_decide_eq_true (by first | (with_reducible assumption) | assumption)
                                                  have q393 : x19_6 < (x4_18.length : Int) := of_decide_eq_true (by first | (with_reducible assumption) | assumption)
                                                  obtain ⟨ad393, e393, hx393_0, hx393_1⟩ := at_T26 (Kd.V_reads' HO_4.out).2.2 x19_6 p393 q393
                                                  cases e393
                                                  replace p393 := eq_true p393
                                                  replace q393 := eq_true q393
                                                  obtain ⟨Ao89, co89, eo89⟩ := Kd.V_slice HO_8.out
                                                  (try (have KEEPHO_4 := HO_4))
                                                  (try (have KEEPHO_7 := HO_7))
                                                  (try (have KEEPHO_8 := HO_8))
                                                  (try (have KEEPHO_10 := HO_10))
                                                  (first | subst eo89 | (injection eo89 with f1_ f2_ f3_; have f4_ := f1_.symm; have f5_ := f3_.symm; clear f1_ f2_ f3_; subst f4_; subst f5_))
                                                  (try (have HO_4 := KEEPHO_4)); (try clear KEEPHO_4)
                                                  (try (have HO_7 := KEEPHO_7)); (try clear KEEPHO_7)
                                                  (try (have HO_8 := KEEPHO_8)); (try clear KEEPHO_8)
                                                  (try (have HO_10 := KEEPHO_10)); (try clear KEEPHO_10)
                                                  refine start_ (n := 24) (S := fun w' => w'.cell? (ad392.add ((ji79)).toNat) = some (.int .u8 (rd l0_2 (ji79))) ∧ w'.cell? (ad393.add ((x19_6).toNat * 2)) = some (.int .u64 ((rd_T26 x4_18 x19_6).f0)) ∧ w'.cell? ⟨(ad393.add ((x19_6).toNat * 2)).block, (ad393.add ((x19_6).toNat * 2)).off + 1, none⟩ = some (.int .i64 ((rd_T26 x4_18 x19_6).f1))) (ds := []) #[false, false, false, false, false, false, false, false, false, false, false, false, false, false, false, false, false, false, false, false, false, false, false, false] (by kernel_rfl) rfl rfl ⟨((HB.out.cell (World.block_lt_of_cell? w _ hw392_0)).trans hw392_0), hx393_0, hx393_1⟩ (fun hHeld => ?_); refine with_tabW tattlelaw06_TableOrders.tab32 tattlelaw06_TableOrders.bits32 (fun HT_ HW_ => ?_)
                                                  generalize wr.drew = w87 at HO_3 HO_4 HO_7 HO_8 HO_361000 HO_361001 BK360 HB hx392_0 hx393_0 hx393_1 hHeld ⊢
                                                  refine pure_ (i := 0) (N := some 167) (v := ?_) (a' := ?_) #[true, false, false, false, false, false, false, false, false, false, false, false, false, false, false, false, false, false, false, false, false, false, false, false] rfl rfl (any_of HT_.out (by kernel_rfl)) (fun _ _ _ h => h) (Or.inl ⟨by rfl, ?_⟩) ?_ ?_
                                                  rotate_left
                                                  · intro w'
                                                    go_simp
                                                    with_reducible rfl
                                                  rotate_left
                                                  · simp only [Act.put, List.setIfInBounds_toArray, List.set_cons_zero, List.set_cons_succ, i64_w, i32_w]
                                                    rfl
                                                  refine pure_ (i := 1) (N := some 168) (v := ?_) (a' := ?_) #[true, true, false, false, false, false, false, false, false, false, false, false, false, false, false, false, false, false, false, false, false, false, false, false] rfl rfl (any_of HT_.out (by kernel_rfl)) (fun _ _ _ h => h) (Or.inl ⟨by rfl, ?_⟩) ?_ ?_
                                                  rotate_left
                                                  · intro w'
                                                    go_simp
                                                    with_reducible rfl
                                                  rotate_left
                                                  · simp only [Act.put, List.setIfInBounds_toArray, List.set_cons_zero, List.set_cons_succ, i64_w, i32_w]
                                                    rfl
                                                  refine pure_ (i := 2) (N := some 169) (v := ?_) (a' := ?_) #[true, true, true, false, false, false, false, false, false, false, false, false, false, false, false, false, false, false, false, false, false, false, false, false] rfl rfl (any_of HT_.out (by kernel_rfl)) (fun _ _ _ h => h) (Or.inl ⟨by rfl, ?_⟩) ?_ ?_
                                                  rotate_left
                                                  · intro w'
                                                    go_simp
                                                    with_reducible rfl
                                                  rotate_left
                                                  · simp only [Act.put, List.setIfInBounds_toArray, List.set_cons_zero, List.set_cons_succ, i64_w, i32_w]
                                                    rfl
                                                  refine pure_ (i := 3) (N := some 170) (v := ?_) (a' := ?_) #[true, true, true, true, false, false, false, false, false, false, false, false, false, false, false, false, false, false, false, false, false, false, false, false] rfl rfl (any_of HT_.out (by kernel_rfl)) (fun _ _ _ h => h) (Or.inl ⟨by rfl, ?_⟩) ?_ ?_
                                                  rotate_left
                                                  · intro w'
                                                    go_simp
                                                    with_reducible rfl
                                                  rotate_left
                                                  · simp only [Act.put, List.setIfInBounds_toArray, List.set_cons_zero, List.set_cons_succ, i64_w, i32_w]
                                                    rfl
                                                  refine pure_ (i := 4) (N := some 171) (v := ?_) (a' := ?_) #[true, true, true, true, true, false, false, false, false, false, false, false, false, false, false, false, false, false, false, false, false, false, false, false] rfl rfl (any_of HT_.out (by kernel_rfl)) (fun _ _ _ h => h) (Or.inl ⟨by rfl, ?_⟩) ?_ ?_
                                                  rotate_left
                                                  · intro w'
                                                    go_simp
                                                    with_reducible rfl
                                                  rotate_left
                                                  · simp only [Act.put, List.setIfInBounds_toArray, List.set_cons_zero, List.set_cons_succ, i64_w, i32_w]
                                                    rfl
                                                  refine pure_ (i := 5) (N := some 172) (v := ?_) (a' := ?_) #[true, true, true, true, true, true, false, false, false, false, false, false, false, false, false, false, false, false, false, false, false, false, false, false] rfl rfl (any_of HT_.out (by kernel_rfl)) (fun _ _ _ h => h) (Or.inl ⟨by rfl, ?_⟩) ?_ ?_
                                                  rotate_left
                                                  · intro w'
                                                    go_simp
                                                    with_reducible rfl
                                                  rotate_left
                                                  · simp only [Act.put, List.setIfInBounds_toArray, List.set_cons_zero, List.set_cons_succ, i64_w, i32_w]
                                                    rfl
                                                  refine pure_ (i := 6) (N := some 173) (v := ?_) (a' := ?_) #[true, true, true, true, true, true, true, false, false, false, false, false, false, false, false, false, false, false, false, false, false, false, false, false] rfl rfl (any_of HT_.out (by kernel_rfl)) (fun _ _ _ h => h) (Or.inl ⟨by rfl, ?_⟩) ?_ ?_
                                                  rotate_left
                                                  · intro w'
                                                    go_simp
                                                    with_reducible rfl
                                                  rotate_left
                                                  · simp only [Act.put, List.setIfInBounds_toArray, List.set_cons_zero, List.set_cons_succ, i64_w, i32_w]
                                                    rfl
                                                  refine pure_ (i := 9) (N := some 176) (v := ?_) (a' := ?_) #[true, true, true, true, true, true, true, false, false, true, false, false, false, false, false, false, false, false, false, false, false, false, false, false] rfl rfl (any_of HT_.out (by kernel_rfl)) (fun _ _ _ h => h) (Or.inl ⟨by rfl, ?_⟩) ?_ ?_
                                                  rotate_left
                                                  · intro w'
                                                    go_simp
                                                    with_reducible rfl
                                                  rotate_left
                                                  · simp only [Act.put, List.setIfInBounds_toArray, List.set_cons_zero, List.set_cons_succ, i64_w, i32_w]
                                                    rfl
                                                  refine pure_ (i := 10) (N := some 177) (v := ?_) (a' := ?_) #[true, true, true, true, true, true, true, false, false, true, true, false, false, false, false, false, false, false, false, false, false, false, false, false] rfl rfl (any_of HT_.out (by kernel_rfl)) (fun _ _ _ h => h) (Or.inl ⟨by rfl, ?_⟩) ?_ ?_
                                                  rotate_left
                                                  · intro w'
                                                    go_simp
                                                    with_reducible rfl
                                                  rotate_left
                                                  · simp only [Act.put, List.setIfInBounds_toArray, List.set_cons_zero, List.set_cons_succ, i64_w, i32_w]
                                                    rfl
                                                  refine pure_ (i := 12) (N := some 179) (v := ?_) (a' := ?_) #[true, true, true, true, true, true, true, false, false, true, true, false, true, false, false, false, false, false, false, false, false, false, false, false] rfl rfl (any_of HT_.out (by kernel_rfl)) (fun _ _ _ h => h) (Or.inl ⟨by rfl, ?_⟩) ?_ ?_
                                                  rotate_left
                                                  · intro w'
                                                    go_simp
                                                    with_reducible rfl
                                                  rotate_left
                                                  · simp only [Act.put, List.setIfInBounds_toArray, List.set_cons_zero, List.set_cons_succ, i64_w, i32_w]
                                                    rfl
                                                  refine pure_ (i := 13) (N := some 180) (v := ?_) (a' := ?_) #[true, true, true, true, true, true, true, false, false, true, true, false, true, true, false, false, false, false, false, false, false, false, false, false] rfl rfl (any_of HT_.out (by kernel_rfl)) (fun _ _ _ h => h) (Or.inl ⟨by rfl, ?_⟩) ?_ ?_
                                                  rotate_left
                                                  · intro w'
                                                    go_simp
                                                    with_reducible rfl
                                                  rotate_left
                                                  · simp only [Act.put, List.setIfInBounds_toArray, List.set_cons_zero, List.set_cons_succ, i64_w, i32_w]
                                                    rfl
                                                  refine pure_ (i := 14) (N := some 181) (v := ?_) (a' := ?_) #[true, true, true, true, true, true, true, false, false, true, true, false, true, true, true, false, false, false, false, false, false, false, false, false] rfl rfl (any_of HT_.out (by kernel_rfl)) (fun _ _ _ h => h) (Or.inl ⟨by rfl, ?_⟩) ?_ ?_
                                                  rotate_left
                                                  · intro w'
                                                    go_simp
                                                    with_reducible rfl
                                                  rotate_left
                                                  · simp only [Act.put, List.setIfInBounds_toArray, List.set_cons_zero, List.set_cons_succ, i64_w, i32_w]
                                                    rfl
                                                  refine take_ (i := 7) (N := some 174) (v := ?_) (a' := ?_) #[true, true, true, true, true, true, true, true, false, true, true, false, true, true, true, false, false, false, false, false, false, false, false, false] rfl rfl (take_ofW HT_.out HW_.out (by kernel_rfl)) (fun _ _ _ h => h) (Or.inl ⟨by rfl, ?_⟩) hHeld ?_ ?_
                                                  rotate_left
                                                  · rintro w' ⟨s0, s1, s2⟩
                                                    go_simp
                                                    with_reducible rfl
                                                  rotate_left
                                                  · simp only [Act.put, List.setIfInBounds_toArray, List.set_cons_zero, List.set_cons_succ, i64_w, i32_w]
                                                    rfl
                                                  refine pure_ (i := 8) (N := some 175) (v := ?_) (a' := ?_) #[true, true, true, true, true, true, true, true, true, true, true, false, true, true, true, false, false, false, false, false, false, false, false, false] rfl rfl (any_of HT_.out (by kernel_rfl)) (fun _ _ _ h => h) (Or.inl ⟨by rfl, ?_⟩) ?_ ?_
                                                  rotate_left
                                                  · intro w'
                                                    go_simp
                                                    with_reducible rfl
                                                  rotate_left
                                                  · simp only [Act.put, List.setIfInBounds_toArray, List.set_cons_zero, List.set_cons_succ, i64_w, i32_w]
                                                    rfl
                                                  refine pure_ (i := 11) (N := some 178) (v := ?_) (a' := ?_) #[true, true, true, true, true, true, true, true, true, true, true, true, true, true, true, false, false, false, false, false, false, false, false, false] rfl rfl (any_of HT_.out (by kernel_rfl)) (fun _ _ _ h => h) (Or.inl ⟨by rfl, ?_⟩) ?_ ?_
                                                  rotate_left
                                                  · intro w'
                                                    go_simp
                                                    with_reducible rfl
                                                  rotate_left
                                                  · simp only [Act.put, List.setIfInBounds_toArray, List.set_cons_zero, List.set_cons_succ, i64_w, i32_w]
                                                    rfl
                                                  refine take_ (i := 15) (N := some 182) (v := ?_) (a' := ?_) #[true, true, true, true, true, true, true, true, true, true, true, true, true, true, true, true, false, false, false, false, false, false, false, false] rfl rfl (take_ofW HT_.out HW_.out (by kernel_rfl)) (fun _ _ _ h => h) (Or.inl ⟨by rfl, ?_⟩) hHeld ?_ ?_
                                                  rotate_left
                                                  · rintro w' ⟨s0, s1, s2⟩
                                                    go_simp
                                                    with_reducible rfl
                                                  rotate_left
                                                  · simp only [Act.put, List.setIfInBounds_toArray, List.set_cons_zero, List.set_cons_succ, i64_w, i32_w]
                                                    rfl
                                                  refine one_ (i := 16) (N := some 183) #[true, true, true, true, true, true, true, true, true, true, true, true, true, true, true, true, true, false, false, false, false, false, false, false] rfl rfl (one_of HT_.out (by kernel_rfl)) (by decide) (fun K hK => ?_)
                                                  refine goes_ Try.func29 (by kernel_rfl) rfl #[.slice Ao89 x8_6.length co89, .int .i64 (Int.tmod (wrap64 (rd l0_2 (ji79))) (t361.length : Int)), .agg #[.int .u64 ((rd_T26 x4_18 x19_6).f0), .int .i64 ((rd_T26 x4_18 x19_6).f1)]] (by rfl) rfl rfl (by (try simp only [List.map_toArray, List.map_cons, List.map_nil]); first | done | (simp only [hji79]; rfl) | rfl | (simp only [List.length_drop, List.length_take]; rfl)) ?_
                                                  with_reducible refine (table_Apply.calls k6 (fun k_ => (((P0_0_ k_ ∨ P0_1_ k_) ∨ w.heap.size ≤ k_) ∧ k_ ≠ gb360)) _ _ x8_6 (Int.tmod (wrap64 (rd l0_2 (ji79))) (t361.length : Int)) ((rd_T26 x4_18 x19_6).f0) ((rd_T26 x4_18 x19_6).f1) t394 t397 t398 _ ?side1 A85.out).mono ?_
                                                  (case side1 => exact HO_8.out)
                                                  rintro e w90 ⟨v395, rfl, ho0, hb⟩
                                                  have HS1_ := (hb.cell (World.block_lt_of_cell? _ _ (hHeld.2.1))).trans (hHeld.2.1)
                                                  have HS2_ := (hb.cell (World.block_lt_of_cell? _ _ (hHeld.2.2))).trans (hHeld.2.2)
                                                  refine ⟨_, rfl, ?_⟩
                                                  have n0_ := Aside0.mk (Kd.V_below (by (with_reducible repeat (first | apply Kd.V_alloc | apply Kd.V_drewN | apply Kd.V_drew)); exact HO_3.out) hb)
                                                  have n1_ := Aside0.mk (Kd.V_below (by (with_reducible repeat (first | apply Kd.V_alloc | apply Kd.V_drewN | apply Kd.V_drew)); exact HO_4.out) hb)
                                                  have n2_ := Aside0.mk (Kd.V_below (by (with_reducible repeat (first | apply Kd.V_alloc | apply Kd.V_drewN | apply Kd.V_drew)); exact HO_7.out) hb)
                                                  have n3_ := Aside0.mk (Kd.V_below (by (with_reducible repeat (first | apply Kd.V_alloc | apply Kd.V_drewN | apply Kd.V_drew)); exact HO_8.out) hb)
                                                  have n4_ := Aside0.mk (Kd.V_below (by (with_reducible repeat (first | apply Kd.V_alloc | apply Kd.V_drewN | apply Kd.V_drew)); exact HO_361000.out) hb)
                                                  have n5_ := Aside0.mk (Kd.V_below (by (with_reducible repeat (first | apply Kd.V_alloc | apply Kd.V_drewN | apply Kd.V_drew)); exact HO_361001.out) hb)
                                                  have n6_ := Aside0.mk (Kd.V_lower (Kd.V_mono (ok' := fun k_ => ((P0_0_ k_ ∨ P0_1_ k_) ∨ w.heap.size ≤ k_) ∧ k_ ≠ gb360) ho0 (fun k_ hk_ => ⟨Or.elim hk_ (fun hs_ => hs_.1) (fun hn_ => (.inr (Nat.le_trans (below_size (by repeat (first | (with_reducible first | exact HB.out | apply below_alloc | apply pw_below_drewN | apply below_drew1 | refine below_set ?_ GE360.out) | exact HB.out))) hn_))), Or.elim hk_ (fun hs_ => hs_.2) (fun hn_ => (Kd.freshB (g := gb360) (o := .cells #[.slice A0_0 l0_0.length c0_0, .slice A0_1 l0_1.length c0_1, .slice (some ad392) l0_2.length c0_2, .slice A0_3 l0_3.length c0_3] 47 (0, 0)) (by (with_reducible repeat (first | refine blk_drewN ?_ _ | refine blk_drew ?_ | refine blk_alloc ?_ _)); exact BK360.out) k_ hn_))⟩)) (below_size (by repeat (first | (with_reducible first | exact HB.out | apply below_alloc | apply pw_below_drewN | apply below_drew1 | refine below_set ?_ GE360.out) | exact HB.out))))
                                                  have n7_ := Aside0.mk (blk_below (g := gb360) (o := .cells #[.slice A0_0 l0_0.length c0_0, .slice A0_1 l0_1.length c0_1, .slice (some ad392) l0_2.length c0_2, .slice A0_3 l0_3.length c0_3] 47 (0, 0)) (by (with_reducible repeat (first | refine blk_drewN ?_ _ | refine blk_drew ?_ | refine blk_alloc ?_ _)); exact BK360.out) hb)
                                                  have n8_ := Aside0.mk (below_step (by repeat (first | (with_reducible first | exact HB.out | apply below_alloc | apply pw_below_drewN | apply below_drew1 | refine below_set ?_ GE360.out) | exact HB.out)) hb)
                                                  clear HO_3
                                                  clear HO_4
                                                  clear HO_7
                                                  clear HO_8
                                                  clear HO_361000
                                                  clear HO_361001
                                                  clear BK360
                                                  clear HB
                                                  have HO_3 := n0_
                                                  have HO_4 := n1_
                                                  have HO_7 := n2_
                                                  have HO_8 := n3_
                                                  have HO_361000 := n4_
                                                  have HO_361001 := n5_
                                                  have HO396 := n6_
                                                  have BK360 := n7_
                                                  have HB := n8_
                                                  clear n0_ n1_ n2_ n3_ n4_ n5_ n6_ n7_ n8_
                                                  (try clear hb)
                                                  (try clear hb2)
                                                  (try clear hk)
                                                  (try clear hi)
                                                  (try clear ho0)
                                                  refine hK.out _ _ ⟨((HB.out.cell (World.block_lt_of_cell? w _ hw392_0)).trans hw392_0), HS1_, HS2_⟩ (fun hHeld => ?_)
                                                  clear hK K
                                                  refine norm_ (a' := ?_) ?_ ?_
                                                  rotate_left
                                                  · show Act.put _ (some 183) _ = _
                                                    simp only [Act.put, List.setIfInBounds_toArray, List.set_cons_zero, List.set_cons_succ, i64_w, i32_w]
                                                    rfl
                                                  refine pure_ (i := 17) (N := some 166) (v := ?_) (a' := ?_) #[true, true, true, true, true, true, true, true, true, true, true, true, true, true, true, true, true, true, false, false, false, false, false, false] rfl rfl (any_of HT_.out (by kernel_rfl)) (fun _ _ _ h => h) (Or.inl ⟨by rfl, ?_⟩) ?_ ?_
                                                  rotate_left
                                                  · intro w'
                                                    go_simp
                                                    with_reducible rfl
                                                  rotate_left
                                                  · simp only [Act.put, List.setIfInBounds_toArray, List.set_cons_zero, List.set_cons_succ, i64_w, i32_w]
                                                    rfl
                                                  refine pure_ (i := 18) (N := some 184) (v := ?_) (a' := ?_) #[true, true, true, true, true, true, true, true, true, true, true, true, true, true, true, true, true, true, true, false, false, false, false, false] rfl rfl (any_of HT_.out (by kernel_rfl)) (fun _ _ _ h => h) (Or.inl ⟨by rfl, ?_⟩) ?_ ?_
                                                  rotate_left
                                                  · intro w'
                                                    go_simp
                                                    with_reducible rfl
                                                  rotate_left
                                                  · simp only [Act.put, List.setIfInBounds_toArray, List.set_cons_zero, List.set_cons_succ, i64_w, i32_w]
                                                    rfl
                                                  refine pure_ (i := 19) (N := some 185) (v := ?_) (a' := ?_) #[true, true, true, true, true, true, true, true, true, true, true, true, true, true, true, true, true, true, true, true, false, false, false, false] rfl rfl (any_of HT_.out (by kernel_rfl)) (fun _ _ _ h => h) (Or.inl ⟨by rfl, ?_⟩) ?_ ?_
                                                  rotate_left
                                                  · intro w'
                                                    go_simp
                                                    with_reducible rfl
                                                  rotate_left
                                                  · simp only [Act.put, List.setIfInBounds_toArray, List.set_cons_zero, List.set_cons_succ, i64_w, i32_w]
                                                    rfl
                                                  refine pure_ (i := 20) (N := some 186) (v := ?_) (a' := ?_) #[true, true, true, true, true, true, true, true, true, true, true, true, true, true, true, true, true, true, true, true, true, false, false, false] rfl rfl (any_of HT_.out (by kernel_rfl)) (fun _ _ _ h => h) (Or.inl ⟨by rfl, ?_⟩) ?_ ?_
                                                  rotate_left
                                                  · intro w'
                                                    go_simp
                                                    with_reducible rfl
                                                  rotate_left
                                                  · simp only [Act.put, List.setIfInBounds_toArray, List.set_cons_zero, List.set_cons_succ, i64_w, i32_w]
                                                    rfl
                                                  refine pure_ (i := 21) (N := some 20) (v := ?_) (a' := ?_) #[true, true, true, true, true, true, true, true, true, true, true, true, true, true, true, true, true, true, true, true, true, true, false, false] rfl rfl (any_of HT_.out (by kernel_rfl)) (fun _ _ _ h => h) (Or.inl ⟨by rfl, ?_⟩) ?_ ?_
                                                  rotate_left
                                                  · intro w'
                                                    go_simp
                                                    with_reducible rfl
                                                  rotate_left
                                                  · simp only [Act.put, List.setIfInBounds_toArray, List.set_cons_zero, List.set_cons_succ, i64_w, i32_w]
                                                    rfl
                                                  refine pure_ (i := 22) (N := some 21) (v := ?_) (a' := ?_) #[true, true, true, true, true, true, true, true, true, true, true, true, true, true, true, true, true, true, true, true, true, true, true, false] rfl rfl (any_of HT_.out (by kernel_rfl)) (fun _ _ _ h => h) (Or.inl ⟨by rfl, ?_⟩) ?_ ?_
                                                  rotate_left
                                                  · intro w'
                                                    go_simp
                                                    with_reducible rfl
                                                  rotate_left
                                                  · simp only [Act.put, List.setIfInBounds_toArray, List.set_cons_zero, List.set_cons_succ, i64_w, i32_w]
                                                    rfl
                                                  refine pure_ (i := 23) (N := some 22) (v := ?_) (a' := ?_) #[true, true, true, true, true, true, true, true, true, true, true, true, true, true, true, true, true, true, true, true, true, true, true, true] rfl rfl (any_of HT_.out (by kernel_rfl)) (fun _ _ _ h => h) (Or.inl ⟨by rfl, ?_⟩) ?_ ?_
                                                  rotate_left
                                                  · intro w'
                                                    go_simp
                                                    with_reducible rfl
                                                  rotate_left
                                                  · simp only [Act.put, List.setIfInBounds_toArray, List.set_cons_zero, List.set_cons_succ, i64_w, i32_w]
                                                    rfl
                                                  refine done_ (done_of HT_.out (by kernel_rfl)) ?_
                                                  try go_wp2
                                                  go_roundg k6
                                                  case measure => have := HJ2.out; have := HJ18.out; have := HK3.out; have := HK4.out; have := HJ55.out; have := HK6.out; omega
                                                  case rel => exact ⟨(t394), (wrap64 (x19_6 - 1)), (by first | rfl | (simp; done) | (simp [*]; done)), H', ⟨by have := HJ2.out; have := HJ18.out; have := HK3.out; have := HK4.out; have := HJ55.out; have := HK6.out; omega⟩, ⟨by (with_reducible repeat (first | apply Kd.V_alloc | apply Kd.V_drewN | apply Kd.V_drew)); exact HO_3.out⟩, ⟨by (with_reducible repeat (first | apply Kd.V_alloc | apply Kd.V_drewN | apply Kd.V_drew)); exact HO_4.out⟩, ⟨by (with_reducible repeat (first | apply Kd.V_alloc | apply Kd.V_drewN | apply Kd.V_drew)); exact HO_7.out⟩, ⟨by (with_reducible repeat (first | apply Kd.V_alloc | apply Kd.V_drewN | apply Kd.V_drew)); exact HO396.out⟩, ⟨by (with_reducible repeat (first | apply Kd.V_alloc | apply Kd.V_drewN | apply Kd.V_drew)); exact HO_361000.out⟩, ⟨by (with_reducible repeat (first | apply Kd.V_alloc | apply Kd.V_drewN | apply Kd.V_drew)); exact HO_361001.out⟩, ⟨by (with_reducible repeat (first | refine blk_drewN ?_ _ | refine blk_drew ?_ | refine blk_alloc ?_ _)); exact BK360.out⟩, ⟨by repeat (first | (with_reducible first | exact HB.out | apply below_alloc | apply pw_below_drewN | apply below_drew1 | refine below_set ?_ GE360.out) | exact HB.out)⟩⟩
                                              · rw [if_neg c86] at H
                                                have c86b0 : (t398 == 0) = false := beq_eq_false_iff_ne.mpr c86
                                                have c86b1 : (t398 != 0) = true := bne_iff_ne.mpr c86
                                                as_aux_lemma =>
                                                  exact absurd ((Option.some.inj H).trans hrt.out) (by decide)
                                            · rw [if_neg c84] at H
                                              exact absurd H (by simp)
                                          · rw [if_neg c83] at H
                                            exact absurd H (by simp)
                                      · rw [if_neg c81] at H
                                        exact absurd H (by simp)
                                    · rw [if_neg c80] at H
                                      exact absurd H (by simp)
                                · rw [if_neg c77] at H
                                  have c77b0 : decide (0 ≤ x19_6) = false := decide_eq_false c77
                                  clear c77
                                  replace H := Option.bind_eq_some_iff.mp H
                                  obtain ⟨t399, A910, H⟩ := H
                                  replace H : (if t399 = true then ((tattlelaw06_awakeT.f).bind fun t400 => (some t400)) else (some false)) = some r := H
                                  have A91 := Aside0.mk A910
                                  clear A910
                                  by_cases c92 : t399 = true
                                  · subst c92
                                    have H1 : ((tattlelaw06_awakeT.f).bind fun t400 => (some t400)) = some r := by rw [if_pos rfl] at H; exact H
                                    clear H
                                    have H := H1
                                    clear H1
                                    replace H := Option.bind_eq_some_iff.mp H
                                    obtain ⟨t400, A930, H⟩ := H
                                    replace H : (some t400) = some r := H
                                    have A93 := Aside0.mk A930
                                    clear A930
                                    as_aux_lemma =>
                                      obtain rfl := Option.some.inj H
                                      obtain ⟨Ao94, co94, eo94⟩ := Kd.V_slice HO_7.out
                                      subst eo94
                                      obtain ⟨Ao95, co95, eo95⟩ := Kd.V_slice HO_8.out
                                      subst eo95
                                      go_wp2_with (first | ((with_reducible refine gate_callee (f := 30) rfl ?_); refine goesL_ (some 192) rfl rfl Try.func30 (by kernel_rfl) rfl #[.slice Ao94 x7_3.length co94, .slice Ao95 x8_6.length co95] rfl (by (try simp only [List.map_toArray, List.map_cons, List.map_nil]); first | done | rfl | (simp only [List.length_drop, List.length_take]; rfl)) ?_; (with_reducible refine (tattleref06_Same.calls k6 _ _ x7_3 _ _ x8_6 true _ ?side1 ?side2 ?side3 ?side4 A91.out).mono ?_); (case side1 => repeat (first | exact (Kd.V_reads' HO_7.out).2.2 | (with_reducible refine Kd.C_alloc ?_ _) | (with_reducible refine Kd.C_drewN ?_ _) | (with_reducible refine Kd.C_drew ?_))); (case side2 => exact (Kd.V_reads' HO_7.out).2.1); (case side3 => repeat (first | exact (Kd.V_reads' HO_8.out).2.2 | (with_reducible refine Kd.C_alloc ?_ _) | (with_reducible refine Kd.C_drewN ?_ _) | (with_reducible refine Kd.C_drew ?_))); (case side4 => exact (Kd.V_reads' HO_8.out).2.1); rintro e w' ⟨rfl, ⟨nd, rfl⟩⟩; refine ⟨_, rfl, ?_⟩) | (go_at_call 28; (with_reducible refine (tattlelaw06_awakeT.calls  t400 _ A93.out).mono ?_); rintro e w96 ⟨rfl, hb⟩; have n0_ := Aside0.mk (Kd.V_below (by (with_reducible repeat (first | apply Kd.V_alloc | apply Kd.V_drewN | apply Kd.V_drew)); exact HO_361000.out) hb); have n1_ := Aside0.mk (Kd.V_below (by (with_reducible repeat (first | apply Kd.V_alloc | apply Kd.V_drewN | apply Kd.V_drew)); exact HO_361001.out) hb); have n2_ := Aside0.mk (blk_below (g := gb360) (o := .cells #[.slice A0_0 l0_0.length c0_0, .slice A0_1 l0_1.length c0_1, .slice A0_2 l0_2.length c0_2, .slice A0_3 l0_3.length c0_3] 47 (0, 0)) (by (with_reducible repeat (first | refine blk_drewN ?_ _ | refine blk_drew ?_ | refine blk_alloc ?_ _)); exact BK360.out) hb); have n3_ := Aside0.mk (below_step (by repeat (first | (with_reducible first | exact HB.out | apply below_alloc | apply pw_below_drewN | apply below_drew1 | refine below_set ?_ GE360.out) | exact HB.out)) hb); clear HO_361000; clear HO_361001; clear BK360; clear HB; have HO_361000 := n0_; have HO_361001 := n1_; have BK360 := n2_; have HB := n3_; clear n0_ n1_ n2_ n3_; (try clear hb); (try clear hb2); (try clear hk); (try clear hi)))
                                      go_ret
                                      exact ⟨by first | rfl | (simp [errW_none, errW_some] <;> rfl) | (simp [*, errW_none, errW_some] <;> rfl), by repeat (first | (with_reducible first | exact HB.out | apply below_alloc | apply pw_below_drewN | apply below_drew1 | refine below_set ?_ GE360.out) | exact HB.out)⟩
                                  · replace c92 := Bool.eq_false_iff.mpr c92
                                    subst c92
                                    have H1 : (some false) = some r := by rw [if_neg (show ¬ (false = true) by decide)] at H; exact H
                                    clear H
                                    have H := H1
                                    clear H1
                                    as_aux_lemma =>
                                      exact absurd ((Option.some.inj H).trans hrt.out) (by decide)

end Go.Proofs.Ytjamociekniepaa.Fn
