-- Written by program (a turned copy of the kit's print) for this seat: functions, contracts. Lean checks it.
import Derived.Test.YtahppppkepcbkaaFnx0
import Derived.Test.YtahppppkepcbkaaFnx2
import Derived.Test.YtahppppkepcbkaaFnx4
import Derived.Test.YtahppppkepcbkaaFnx5
import Derived.Test.YtahppppkepcbkaaFnx7
import Derived.Test.YtahppppkepcbkaaFnx10
import Derived.Test.YtahppppkepcbkaaFnx13
import Derived.Test.YtahppppkepcbkaaFnx15
import Derived.Test.YtahppppkepcbkaaFnx17
import Derived.Test.YtahppppkepcbkaaAw16
namespace Go.Proofs.Ytahppppkepcbkaa.Fn
open Go.RowKit Go.Proofs.YtahppppkepcbkaaW.PrintWords Go.Proofs.YtahppppkepcbkaaW.PrintLast Go.Proofs.YtahppppkepcbkaaW.PrintMore
attribute [local go_sem] max2_int min2_int max_two min_two max_three min_three max_four min_four   -- for this text's walks alone
set_option linter.unusedVariables false
set_option linter.unusedSimpArgs false

/-! ### tattlelaw04_ClockTells: function 8 -/
mutual
def tattlelaw04_ClockTells.j0 : Nat → List (S87) → Bool → Int → List (S87) → Int → Int → Int → Int → Int → Option (Bool)
  | 0, _, _, _, _, _, _, _, _, _ => none
  | k + 1, x3, x22, x268000, x268001, x268002, x268003, x268004, x268005, x268006 => if x22 = true then (tattlelaw04_ClockTells.j1 k x3 4 x268001 x268002 x268003 x268004 x268005 x268006) else (tattlelaw04_ClockTells.j1 k x3 x268000 x268001 x268002 x268003 x268004 x268005 x268006)
def tattlelaw04_ClockTells.j1 : Nat → List (S87) → Int → List (S87) → Int → Int → Int → Int → Int → Option (Bool)
  | 0, _, _, _, _, _, _, _, _ => none
  | k + 1, x3, x268000, x268001, x268002, x268003, x268004, x268005, x268006 => (clock_Ticks.f k x268000 x3 x268004 x268005 x268006).bind fun bt271 => ((clock_Near.f k x268000 x3 x268002 x268003).bind fun bt273 => ((clock_Far.f k x268000 x3 x268002 x268003).bind fun bt275 => ((clock_Check.f x268000 x3).bind fun t277 => ((tattleref04_May.f k x268000 x3).bind fun t278 => (if ((t277 == 0) != t278) = true then (some false) else ((tattleref04_May.f k x268000 x3).bind fun t279 => (if t279 = true then (if x268004 < 0 then (tattlelaw04_ClockTells.j2 k x3 bt271.1 bt271.2 bt273.1 bt273.2 bt275.1 bt275.2 true x268000 x268001 x268002 x268003 x268004 x268005 x268006) else (if x268004 ≥ x268000 then (tattlelaw04_ClockTells.j2 k x3 bt271.1 bt271.2 bt273.1 bt273.2 bt275.1 bt275.2 true x268000 x268001 x268002 x268003 x268004 x268005 x268006) else (if x268005 < 0 then (tattlelaw04_ClockTells.j2 k x3 bt271.1 bt271.2 bt273.1 bt273.2 bt275.1 bt275.2 true x268000 x268001 x268002 x268003 x268004 x268005 x268006) else (if x268005 > x268006 then (tattlelaw04_ClockTells.j2 k x3 bt271.1 bt271.2 bt273.1 bt273.2 bt275.1 bt275.2 true x268000 x268001 x268002 x268003 x268004 x268005 x268006) else (tattlelaw04_ClockTells.j2 k x3 bt271.1 bt271.2 bt273.1 bt273.2 bt275.1 bt275.2 (decide (x268006 > (x3.length : Int))) x268000 x268001 x268002 x268003 x268004 x268005 x268006))))) else (if bt271.1 = 0 then (if bt271.2 = 1 then (if bt273.1 = true then (some false) else (if bt273.2 = 1 then (if bt275.1 = 0 then (if bt275.2 = 1 then ((tattlelaw04_awakeT.f).bind fun t280 => (some t280)) else (some false)) else (some false)) else (some false))) else (some false)) else (some false)))))))))
def tattlelaw04_ClockTells.j2 : Nat → List (S87) → Int → Int → Bool → Int → Int → Int → Bool → Int → List (S87) → Int → Int → Int → Int → Int → Option (Bool)
  | 0, _, _, _, _, _, _, _, _, _, _, _, _, _, _, _ => none
  | k + 1, x3, x4, x5, x6, x7, x8, x9, x127, x268000, x268001, x268002, x268003, x268004, x268005, x268006 => if x127 = true then (if x4 = 0 then (if x5 = 1 then (tattlelaw04_ClockTells.j3 k x3 x6 x7 x8 x9 x268000 x268001 x268002 x268003 x268004 x268005 x268006) else (some false)) else (some false)) else ((tattleref04_Ticks.f k x3 x268004 x268005 x268006).bind fun bt281 => (if bt281.2 = true then (if x4 = bt281.1 then (if x5 = 0 then (tattlelaw04_ClockTells.j3 k x3 x6 x7 x8 x9 x268000 x268001 x268002 x268003 x268004 x268005 x268006) else (some false)) else (some false)) else (if x4 = 0 then (if x5 = 7 then (tattlelaw04_ClockTells.j3 k x3 x6 x7 x8 x9 x268000 x268001 x268002 x268003 x268004 x268005 x268006) else (some false)) else (some false))))
def tattlelaw04_ClockTells.j3 : Nat → List (S87) → Bool → Int → Int → Int → Int → List (S87) → Int → Int → Int → Int → Int → Option (Bool)
  | 0, _, _, _, _, _, _, _, _, _, _, _, _ => none
  | k + 1, x3, x6, x7, x8, x9, x268000, x268001, x268002, x268003, x268004, x268005, x268006 => (tattleref04_Bound.f x268002 x268003).bind fun t283 => (if t283 = true then ((tattleref04_Near.f k x268000 x3 x268002 x268003).bind fun t285 => (if (x6 != t285) = true then (tattlelaw04_ClockTells.j4 k x3 x8 true x268000 x268001 x268002 x268003 x268004 x268005 x268006) else (if x7 = 0 then (if x9 = 0 then (if x8 < 0 then (tattlelaw04_ClockTells.j4 k x3 x8 true x268000 x268001 x268002 x268003 x268004 x268005 x268006) else (tattlelaw04_ClockTells.j4 k x3 x8 (decide (x8 > (x3.length : Int))) x268000 x268001 x268002 x268003 x268004 x268005 x268006)) else (tattlelaw04_ClockTells.j4 k x3 x8 true x268000 x268001 x268002 x268003 x268004 x268005 x268006)) else (tattlelaw04_ClockTells.j4 k x3 x8 true x268000 x268001 x268002 x268003 x268004 x268005 x268006)))) else (if x6 = true then (some false) else (if x7 = 1 then (if x8 = 0 then (if x9 = 1 then ((tattlelaw04_awakeT.f).bind fun t284 => (some t284)) else (some false)) else (some false)) else (some false))))
def tattlelaw04_ClockTells.j4 : Nat → List (S87) → Int → Bool → Int → List (S87) → Int → Int → Int → Int → Int → Option (Bool)
  | 0, _, _, _, _, _, _, _, _, _, _ => none
  | k + 1, x3, x8, x217, x268000, x268001, x268002, x268003, x268004, x268005, x268006 => if x217 = true then (some false) else (if 0 ≤ x8 then (if x8 ≤ (x3.length : Int) then ((tattleref04_Near.f k x268000 (x3.take (x8 : Int).toNat) x268002 x268003).bind fun t291 => (if t291 = true then (if x8 = (x3.length : Int) then ((tattlelaw04_awakeT.f).bind fun t292 => (some t292)) else (if 0 ≤ (wrap64 (x8 + 1)) then (if (wrap64 (x8 + 1)) ≤ (x3.length : Int) then ((tattleref04_Near.f k x268000 (x3.take ((wrap64 (x8 + 1)) : Int).toNat) x268002 x268003).bind fun t298 => (if t298 = true then (some false) else ((tattlelaw04_awakeT.f).bind fun t299 => (some t299)))) else (none)) else (none))) else (some false))) else (none)) else (none))
end
def tattlelaw04_ClockTells.f (k : Nat) (a0_0 : Int) (l0_1 : List (S87)) (a0_2 : Int) (a0_3 : Int) (a0_4 : Int) (a0_5 : Int) (a0_6 : Int) : Option (Bool) := (tattlelaw04_Few.f k l0_1).bind fun t268 => (if a0_0 > 4 then (tattlelaw04_ClockTells.j0 k t268 (decide (a0_0 ≤ 64)) a0_0 l0_1 a0_2 a0_3 a0_4 a0_5 a0_6) else (tattlelaw04_ClockTells.j0 k t268 false a0_0 l0_1 a0_2 a0_3 a0_4 a0_5 a0_6))
theorem tattlelaw04_ClockTells.mono_l : ∀ k, (∀ y0 y1 y2 y3 y4 y5 y6 y7 y8, LeO (tattlelaw04_ClockTells.j0 k y0 y1 y2 y3 y4 y5 y6 y7 y8) (tattlelaw04_ClockTells.j0 (k + 1) y0 y1 y2 y3 y4 y5 y6 y7 y8)) ∧ (∀ y0 y1 y2 y3 y4 y5 y6 y7, LeO (tattlelaw04_ClockTells.j1 k y0 y1 y2 y3 y4 y5 y6 y7) (tattlelaw04_ClockTells.j1 (k + 1) y0 y1 y2 y3 y4 y5 y6 y7)) ∧ (∀ y0 y1 y2 y3 y4 y5 y6 y7 y8 y9 y10 y11 y12 y13 y14, LeO (tattlelaw04_ClockTells.j2 k y0 y1 y2 y3 y4 y5 y6 y7 y8 y9 y10 y11 y12 y13 y14) (tattlelaw04_ClockTells.j2 (k + 1) y0 y1 y2 y3 y4 y5 y6 y7 y8 y9 y10 y11 y12 y13 y14)) ∧ (∀ y0 y1 y2 y3 y4 y5 y6 y7 y8 y9 y10 y11, LeO (tattlelaw04_ClockTells.j3 k y0 y1 y2 y3 y4 y5 y6 y7 y8 y9 y10 y11) (tattlelaw04_ClockTells.j3 (k + 1) y0 y1 y2 y3 y4 y5 y6 y7 y8 y9 y10 y11)) ∧ (∀ y0 y1 y2 y3 y4 y5 y6 y7 y8 y9, LeO (tattlelaw04_ClockTells.j4 k y0 y1 y2 y3 y4 y5 y6 y7 y8 y9) (tattlelaw04_ClockTells.j4 (k + 1) y0 y1 y2 y3 y4 y5 y6 y7 y8 y9))
  | 0 => ⟨fun _ _ _ _ _ _ _ _ _ r h => by simp [tattlelaw04_ClockTells.j0] at h, fun _ _ _ _ _ _ _ _ r h => by simp [tattlelaw04_ClockTells.j1] at h, fun _ _ _ _ _ _ _ _ _ _ _ _ _ _ _ r h => by simp [tattlelaw04_ClockTells.j2] at h, fun _ _ _ _ _ _ _ _ _ _ _ _ r h => by simp [tattlelaw04_ClockTells.j3] at h, fun _ _ _ _ _ _ _ _ _ _ r h => by simp [tattlelaw04_ClockTells.j4] at h⟩
  | k + 1 => by
    obtain ⟨ih0, ih1, ih2, ih3, ih4⟩ := tattlelaw04_ClockTells.mono_l k
    refine ⟨?_, ?_, ?_, ?_, ?_⟩
    · intro y0 y1 y2 y3 y4 y5 y6 y7 y8
      unfold tattlelaw04_ClockTells.j0
      repeat' first
      | (with_reducible exact ih0 _ _ _ _ _ _ _ _ _)
      | (with_reducible exact ih1 _ _ _ _ _ _ _ _)
      | (with_reducible exact ih2 _ _ _ _ _ _ _ _ _ _ _ _ _ _ _)
      | (with_reducible exact ih3 _ _ _ _ _ _ _ _ _ _ _ _)
      | (with_reducible exact ih4 _ _ _ _ _ _ _ _ _ _)
      | (with_reducible exact clock_Far.mono _ _ _ _ _)
      | (with_reducible exact clock_Near.mono _ _ _ _ _)
      | (with_reducible exact clock_Ticks.mono _ _ _ _ _ _)
      | (with_reducible exact tattlelaw04_Few.mono _ _)
      | (with_reducible exact tattleref04_May.mono _ _ _)
      | (with_reducible exact tattleref04_Near.mono _ _ _ _ _)
      | (with_reducible exact tattleref04_Ticks.mono _ _ _ _ _)
      | (with_reducible exact LeO.refl _)
      | (with_reducible exact LeO.none _)
      | (with_reducible refine LeO.ite ?_ ?_)
      | (with_reducible refine LeO.bind ?_ (fun _ => ?_))
      | exact ih0 _ _ _ _ _ _ _ _ _
      | exact ih1 _ _ _ _ _ _ _ _
      | exact ih2 _ _ _ _ _ _ _ _ _ _ _ _ _ _ _
      | exact ih3 _ _ _ _ _ _ _ _ _ _ _ _
      | exact ih4 _ _ _ _ _ _ _ _ _ _
      | exact clock_Far.mono _ _ _ _ _
      | exact clock_Near.mono _ _ _ _ _
      | exact clock_Ticks.mono _ _ _ _ _ _
      | exact tattlelaw04_Few.mono _ _
      | exact tattleref04_May.mono _ _ _
      | exact tattleref04_Near.mono _ _ _ _ _
      | exact tattleref04_Ticks.mono _ _ _ _ _
      | exact LeO.none _
      | refine LeO.ite ?_ ?_
      | refine LeO.bind ?_ (fun _ => ?_)
    · intro y0 y1 y2 y3 y4 y5 y6 y7
      unfold tattlelaw04_ClockTells.j1
      repeat' first
      | (with_reducible exact ih0 _ _ _ _ _ _ _ _ _)
      | (with_reducible exact ih1 _ _ _ _ _ _ _ _)
      | (with_reducible exact ih2 _ _ _ _ _ _ _ _ _ _ _ _ _ _ _)
      | (with_reducible exact ih3 _ _ _ _ _ _ _ _ _ _ _ _)
      | (with_reducible exact ih4 _ _ _ _ _ _ _ _ _ _)
      | (with_reducible exact clock_Far.mono _ _ _ _ _)
      | (with_reducible exact clock_Near.mono _ _ _ _ _)
      | (with_reducible exact clock_Ticks.mono _ _ _ _ _ _)
      | (with_reducible exact tattlelaw04_Few.mono _ _)
      | (with_reducible exact tattleref04_May.mono _ _ _)
      | (with_reducible exact tattleref04_Near.mono _ _ _ _ _)
      | (with_reducible exact tattleref04_Ticks.mono _ _ _ _ _)
      | (with_reducible exact LeO.refl _)
      | (with_reducible exact LeO.none _)
      | (with_reducible refine LeO.ite ?_ ?_)
      | (with_reducible refine LeO.bind ?_ (fun _ => ?_))
      | exact ih0 _ _ _ _ _ _ _ _ _
      | exact ih1 _ _ _ _ _ _ _ _
      | exact ih2 _ _ _ _ _ _ _ _ _ _ _ _ _ _ _
      | exact ih3 _ _ _ _ _ _ _ _ _ _ _ _
      | exact ih4 _ _ _ _ _ _ _ _ _ _
      | exact clock_Far.mono _ _ _ _ _
      | exact clock_Near.mono _ _ _ _ _
      | exact clock_Ticks.mono _ _ _ _ _ _
      | exact tattlelaw04_Few.mono _ _
      | exact tattleref04_May.mono _ _ _
      | exact tattleref04_Near.mono _ _ _ _ _
      | exact tattleref04_Ticks.mono _ _ _ _ _
      | exact LeO.none _
      | refine LeO.ite ?_ ?_
      | refine LeO.bind ?_ (fun _ => ?_)
    · intro y0 y1 y2 y3 y4 y5 y6 y7 y8 y9 y10 y11 y12 y13 y14
      unfold tattlelaw04_ClockTells.j2
      repeat' first
      | (with_reducible exact ih0 _ _ _ _ _ _ _ _ _)
      | (with_reducible exact ih1 _ _ _ _ _ _ _ _)
      | (with_reducible exact ih2 _ _ _ _ _ _ _ _ _ _ _ _ _ _ _)
      | (with_reducible exact ih3 _ _ _ _ _ _ _ _ _ _ _ _)
      | (with_reducible exact ih4 _ _ _ _ _ _ _ _ _ _)
      | (with_reducible exact clock_Far.mono _ _ _ _ _)
      | (with_reducible exact clock_Near.mono _ _ _ _ _)
      | (with_reducible exact clock_Ticks.mono _ _ _ _ _ _)
      | (with_reducible exact tattlelaw04_Few.mono _ _)
      | (with_reducible exact tattleref04_May.mono _ _ _)
      | (with_reducible exact tattleref04_Near.mono _ _ _ _ _)
      | (with_reducible exact tattleref04_Ticks.mono _ _ _ _ _)
      | (with_reducible exact LeO.refl _)
      | (with_reducible exact LeO.none _)
      | (with_reducible refine LeO.ite ?_ ?_)
      | (with_reducible refine LeO.bind ?_ (fun _ => ?_))
      | exact ih0 _ _ _ _ _ _ _ _ _
      | exact ih1 _ _ _ _ _ _ _ _
      | exact ih2 _ _ _ _ _ _ _ _ _ _ _ _ _ _ _
      | exact ih3 _ _ _ _ _ _ _ _ _ _ _ _
      | exact ih4 _ _ _ _ _ _ _ _ _ _
      | exact clock_Far.mono _ _ _ _ _
      | exact clock_Near.mono _ _ _ _ _
      | exact clock_Ticks.mono _ _ _ _ _ _
      | exact tattlelaw04_Few.mono _ _
      | exact tattleref04_May.mono _ _ _
      | exact tattleref04_Near.mono _ _ _ _ _
      | exact tattleref04_Ticks.mono _ _ _ _ _
      | exact LeO.none _
      | refine LeO.ite ?_ ?_
      | refine LeO.bind ?_ (fun _ => ?_)
    · intro y0 y1 y2 y3 y4 y5 y6 y7 y8 y9 y10 y11
      unfold tattlelaw04_ClockTells.j3
      repeat' first
      | (with_reducible exact ih0 _ _ _ _ _ _ _ _ _)
      | (with_reducible exact ih1 _ _ _ _ _ _ _ _)
      | (with_reducible exact ih2 _ _ _ _ _ _ _ _ _ _ _ _ _ _ _)
      | (with_reducible exact ih3 _ _ _ _ _ _ _ _ _ _ _ _)
      | (with_reducible exact ih4 _ _ _ _ _ _ _ _ _ _)
      | (with_reducible exact clock_Far.mono _ _ _ _ _)
      | (with_reducible exact clock_Near.mono _ _ _ _ _)
      | (with_reducible exact clock_Ticks.mono _ _ _ _ _ _)
      | (with_reducible exact tattlelaw04_Few.mono _ _)
      | (with_reducible exact tattleref04_May.mono _ _ _)
      | (with_reducible exact tattleref04_Near.mono _ _ _ _ _)
      | (with_reducible exact tattleref04_Ticks.mono _ _ _ _ _)
      | (with_reducible exact LeO.refl _)
      | (with_reducible exact LeO.none _)
      | (with_reducible refine LeO.ite ?_ ?_)
      | (with_reducible refine LeO.bind ?_ (fun _ => ?_))
      | exact ih0 _ _ _ _ _ _ _ _ _
      | exact ih1 _ _ _ _ _ _ _ _
      | exact ih2 _ _ _ _ _ _ _ _ _ _ _ _ _ _ _
      | exact ih3 _ _ _ _ _ _ _ _ _ _ _ _
      | exact ih4 _ _ _ _ _ _ _ _ _ _
      | exact clock_Far.mono _ _ _ _ _
      | exact clock_Near.mono _ _ _ _ _
      | exact clock_Ticks.mono _ _ _ _ _ _
      | exact tattlelaw04_Few.mono _ _
      | exact tattleref04_May.mono _ _ _
      | exact tattleref04_Near.mono _ _ _ _ _
      | exact tattleref04_Ticks.mono _ _ _ _ _
      | exact LeO.none _
      | refine LeO.ite ?_ ?_
      | refine LeO.bind ?_ (fun _ => ?_)
    · intro y0 y1 y2 y3 y4 y5 y6 y7 y8 y9
      unfold tattlelaw04_ClockTells.j4
      repeat' first
      | (with_reducible exact ih0 _ _ _ _ _ _ _ _ _)
      | (with_reducible exact ih1 _ _ _ _ _ _ _ _)
      | (with_reducible exact ih2 _ _ _ _ _ _ _ _ _ _ _ _ _ _ _)
      | (with_reducible exact ih3 _ _ _ _ _ _ _ _ _ _ _ _)
      | (with_reducible exact ih4 _ _ _ _ _ _ _ _ _ _)
      | (with_reducible exact clock_Far.mono _ _ _ _ _)
      | (with_reducible exact clock_Near.mono _ _ _ _ _)
      | (with_reducible exact clock_Ticks.mono _ _ _ _ _ _)
      | (with_reducible exact tattlelaw04_Few.mono _ _)
      | (with_reducible exact tattleref04_May.mono _ _ _)
      | (with_reducible exact tattleref04_Near.mono _ _ _ _ _)
      | (with_reducible exact tattleref04_Ticks.mono _ _ _ _ _)
      | (with_reducible exact LeO.refl _)
      | (with_reducible exact LeO.none _)
      | (with_reducible refine LeO.ite ?_ ?_)
      | (with_reducible refine LeO.bind ?_ (fun _ => ?_))
      | exact ih0 _ _ _ _ _ _ _ _ _
      | exact ih1 _ _ _ _ _ _ _ _
      | exact ih2 _ _ _ _ _ _ _ _ _ _ _ _ _ _ _
      | exact ih3 _ _ _ _ _ _ _ _ _ _ _ _
      | exact ih4 _ _ _ _ _ _ _ _ _ _
      | exact clock_Far.mono _ _ _ _ _
      | exact clock_Near.mono _ _ _ _ _
      | exact clock_Ticks.mono _ _ _ _ _ _
      | exact tattlelaw04_Few.mono _ _
      | exact tattleref04_May.mono _ _ _
      | exact tattleref04_Near.mono _ _ _ _ _
      | exact tattleref04_Ticks.mono _ _ _ _ _
      | exact LeO.none _
      | refine LeO.ite ?_ ?_
      | refine LeO.bind ?_ (fun _ => ?_)
theorem tattlelaw04_ClockTells.mono : ∀ a0 a1 a2 a3 a4 a5 a6 k, LeO (tattlelaw04_ClockTells.f k a0 a1 a2 a3 a4 a5 a6) (tattlelaw04_ClockTells.f (k + 1) a0 a1 a2 a3 a4 a5 a6) := by
  intro a0 a1 a2 a3 a4 a5 a6 k
  obtain ⟨ih0, ih1, ih2, ih3, ih4⟩ := tattlelaw04_ClockTells.mono_l k
  unfold tattlelaw04_ClockTells.f
  repeat' first
      | (with_reducible exact ih0 _ _ _ _ _ _ _ _ _)
      | (with_reducible exact ih1 _ _ _ _ _ _ _ _)
      | (with_reducible exact ih2 _ _ _ _ _ _ _ _ _ _ _ _ _ _ _)
      | (with_reducible exact ih3 _ _ _ _ _ _ _ _ _ _ _ _)
      | (with_reducible exact ih4 _ _ _ _ _ _ _ _ _ _)
      | (with_reducible exact clock_Far.mono _ _ _ _ _)
      | (with_reducible exact clock_Near.mono _ _ _ _ _)
      | (with_reducible exact clock_Ticks.mono _ _ _ _ _ _)
      | (with_reducible exact tattlelaw04_Few.mono _ _)
      | (with_reducible exact tattleref04_May.mono _ _ _)
      | (with_reducible exact tattleref04_Near.mono _ _ _ _ _)
      | (with_reducible exact tattleref04_Ticks.mono _ _ _ _ _)
      | (with_reducible exact LeO.refl _)
      | (with_reducible exact LeO.none _)
      | (with_reducible refine LeO.ite ?_ ?_)
      | (with_reducible refine LeO.bind ?_ (fun _ => ?_))
      | exact ih0 _ _ _ _ _ _ _ _ _
      | exact ih1 _ _ _ _ _ _ _ _
      | exact ih2 _ _ _ _ _ _ _ _ _ _ _ _ _ _ _
      | exact ih3 _ _ _ _ _ _ _ _ _ _ _ _
      | exact ih4 _ _ _ _ _ _ _ _ _ _
      | exact clock_Far.mono _ _ _ _ _
      | exact clock_Near.mono _ _ _ _ _
      | exact clock_Ticks.mono _ _ _ _ _ _
      | exact tattlelaw04_Few.mono _ _
      | exact tattleref04_May.mono _ _ _
      | exact tattleref04_Near.mono _ _ _ _ _
      | exact tattleref04_Ticks.mono _ _ _ _ _
      | exact LeO.none _
      | refine LeO.ite ?_ ?_
      | refine LeO.bind ?_ (fun _ => ?_)
def tattlelaw04_ClockTells.T7 : Bool × List (List Nat × List Nat) := (true, [([], []), ([0], [0]), ([], []), ([1, 2], [1, 2]), ([3], [3]), ([], []), ([5], [5]), ([], []), ([6, 7, 3], [6, 7]), ([4, 8], [4, 8])])
def tattlelaw04_ClockTells.B7 : List Nat := [0, 1, 0, 7, 15, 0, 32, 0, 239, 511]
theorem tattlelaw04_ClockTells.tab7 : rtab .any (opsOf Try.f8 7) = tattlelaw04_ClockTells.T7 := by kernel_rfl
theorem tattlelaw04_ClockTells.bits7 : waitsOk tattlelaw04_ClockTells.T7.2 tattlelaw04_ClockTells.B7 = true := by kernel_rfl
def tattlelaw04_ClockTells.T21 : Bool × List (List Nat × List Nat) := (true, [([], []), ([0], [0]), ([], []), ([], []), ([2, 3], [2, 3]), ([], []), ([5], [5]), ([], []), ([7], [7]), ([1, 4, 6, 8], [1, 4, 6, 8]), ([9, 9], [9]), ([10], [10]), ([10], [10]), ([12, 10], [10, 12]), ([11, 13, 10], [10, 11, 13]), ([14, 10, 10], [10, 14]), ([15], [15]), ([16, 15], [15, 16]), ([15], [15]), ([15], [15]), ([19, 15], [15, 19]), ([18, 20, 15], [15, 18, 20]), ([15], [15]), ([22, 15], [15, 22]), ([15], [15]), ([24, 15], [15, 24]), ([17, 21, 23, 25, 15, 15], [15, 17, 21, 23, 25]), ([26, 15], [15, 26]), ([15, 27, 10], [10, 15, 27]), ([10, 28], [10, 28]), ([29, 26], [29]), ([30, 30], [30]), ([30, 31], [30, 31]), ([32, 31, 0, 1, 2, 3, 4, 5, 6, 7, 8, 9, 10, 11, 12, 13, 14, 15, 16, 17, 18, 19, 20, 21, 22, 23, 24, 25, 26, 27, 28, 29, 30, 31, 32], [32])])
def tattlelaw04_ClockTells.B21 : List Nat := [0, 1, 0, 0, 12, 0, 32, 0, 128, 511, 1023, 2047, 2047, 6143, 16383, 32767, 65535, 131071, 65535, 65535, 589823, 1900543, 65535, 4259839, 65535, 16842751, 67108863, 134217727, 268435455, 536870911, 1073741823, 2147483647, 4294967295, 8589934591]
theorem tattlelaw04_ClockTells.tab21 : rtab .any (opsOf Try.f8 21) = tattlelaw04_ClockTells.T21 := by kernel_rfl
theorem tattlelaw04_ClockTells.bits21 : waitsOk tattlelaw04_ClockTells.T21.2 tattlelaw04_ClockTells.B21 = true := by kernel_rfl
set_option maxHeartbeats 8000000 in
set_option maxRecDepth 100000 in
theorem tattlelaw04_ClockTells.calls (k : Nat) (a0_0 : Int) (A0_1 : Option Addr) (c0_1 : Nat) (l0_1 : List (S87)) (a0_2 : Int) (a0_3 : Int) (a0_4 : Int) (a0_5 : Int) (a0_6 : Int) (r : Bool) (w : World) (hr0_1 : Kd.C k87 w A0_1 l0_1.length l0_1) (hc0_1 : l0_1.length ≤ c0_1) (hrt : Aside0 (r = true)) (h : tattlelaw04_ClockTells.f k a0_0 l0_1 a0_2 a0_3 a0_4 a0_5 a0_6 = some r) :
    Calls Try.prog 8 #[.agg #[.int .i64 a0_0, .slice A0_1 l0_1.length c0_1, .int .i64 a0_2, .int .i64 a0_3, .int .i64 a0_4, .int .i64 a0_5, .int .i64 a0_6]] w fun e w' => e = .returned (.bool r) ∧ Below w.heap.size w w' := by
  have hu31 := Try.underlying31
  have HR0_1 := Aside0.mk hr0_1
  have HC0_1 := Aside0.mk hc0_1
  clear hr0_1 hc0_1
  have HB := Aside0.mk (Below.refl w.heap.size w)
  have H : ((tattlelaw04_Few.f k l0_1).bind fun t268 => (if a0_0 > 4 then (tattlelaw04_ClockTells.j0 k t268 (decide (a0_0 ≤ 64)) a0_0 l0_1 a0_2 a0_3 a0_4 a0_5 a0_6) else (tattlelaw04_ClockTells.j0 k t268 false a0_0 l0_1 a0_2 a0_3 a0_4 a0_5 a0_6))) = some r := h
  clear h
  replace H := Option.bind_eq_some_iff.mp H
  obtain ⟨t268, A20, H⟩ := H
  replace H : (if a0_0 > 4 then (tattlelaw04_ClockTells.j0 k t268 (decide (a0_0 ≤ 64)) a0_0 l0_1 a0_2 a0_3 a0_4 a0_5 a0_6) else (tattlelaw04_ClockTells.j0 k t268 false a0_0 l0_1 a0_2 a0_3 a0_4 a0_5 a0_6)) = some r := H
  have A2 := Aside0.mk A20
  clear A20
  have HC3 := Aside0.mk H
  clear H
  go_enter Try.func8, Try.ntmps8
  go_upto_region 2 with (first | ((with_reducible refine gate_dst (N := 1) rfl ?_); (try (refine gate_guard (by rfl) ?_; dsimp only)); refine box_event ?hg (N := 1) ?hd (cs := #[.int .i64 a0_0, .slice A0_1 l0_1.length c0_1, .int .i64 a0_2, .int .i64 a0_3, .int .i64 a0_4, .int .i64 a0_5, .int .i64 a0_6]) (t := 31) ?hr ?_; (case hd => rfl); (case hg => rfl); (case hr => first | (go_simp; done) | (go_simp; rfl)); intro gb267 hg w4 hbox hb; have n0_ := Aside0.mk (below_step (by repeat (first | (with_reducible first | exact HB.out | apply below_alloc | apply pw_below_drewN | apply below_drew1) | exact HB.out)) hb); have n1_ := Aside0.mk (hbox); have n2_ := Aside0.mk ((by rw [hg]; exact (below_size (by repeat (first | (with_reducible first | exact HB.out | apply below_alloc | apply pw_below_drewN | apply below_drew1) | exact HB.out))) : w.heap.size ≤ gb267)); have n3_ := Aside0.mk ((by rw [hg]; exact (below_size (by repeat (first | (with_reducible first | exact HB.out | apply below_alloc | apply pw_below_drewN | apply below_drew1) | exact HB.out))) : w.heap.size ≤ gb267)); clear HB; have HB := n0_; have BK267 := n1_; have GW267 := n2_; have GE267 := n3_; clear n0_ n1_ n2_ n3_; clear hb hbox hg; have hcz5_0 : w4.cell? ⟨gb267, 0, none⟩ = some (.int .i64 a0_0) := (blk_cell BK267.out 0).trans rfl; have hcz5_1 : w4.cell? ⟨gb267, 1, none⟩ = some (.slice A0_1 l0_1.length c0_1) := (blk_cell BK267.out 1).trans rfl; have hcz5_2 : w4.cell? ⟨gb267, 2, none⟩ = some (.int .i64 a0_2) := (blk_cell BK267.out 2).trans rfl; have hcz5_3 : w4.cell? ⟨gb267, 3, none⟩ = some (.int .i64 a0_3) := (blk_cell BK267.out 3).trans rfl; have hcz5_4 : w4.cell? ⟨gb267, 4, none⟩ = some (.int .i64 a0_4) := (blk_cell BK267.out 4).trans rfl; have hcz5_5 : w4.cell? ⟨gb267, 5, none⟩ = some (.int .i64 a0_5) := (blk_cell BK267.out 5).trans rfl; have hcz5_6 : w4.cell? ⟨gb267, 6, none⟩ = some (.int .i64 a0_6) := (blk_cell BK267.out 6).trans rfl; have hfz5_0 := blk_frozen BK267.out 0; have hfz5_1 := blk_frozen BK267.out 1; have hfz5_2 := blk_frozen BK267.out 2; have hfz5_3 := blk_frozen BK267.out 3; have hfz5_4 := blk_frozen BK267.out 4; have hfz5_5 := blk_frozen BK267.out 5; have hfz5_6 := blk_frozen BK267.out 6) | ((with_reducible refine gate_callee (f := 18) rfl ?_); refine goesL_ (some 14) rfl rfl Try.func18 (by kernel_rfl) rfl #[.slice A0_1 l0_1.length c0_1] rfl (by (try simp only [List.map_toArray, List.map_cons, List.map_nil]); first | done | rfl | (simp only [List.length_drop, List.length_take]; rfl)) ?_; (with_reducible refine (tattlelaw04_Few.calls k (fun k_ => k_ < w.heap.size) _ _ l0_1 t268 _ ?side1 A2.out).mono ?_); (case side1 => exact Kd.V_mk HC0_1.out (Kd.F_below (Kd.C_F k87_heap HR0_1.out) (by repeat (first | (with_reducible first | exact HB.out | apply below_alloc | apply pw_below_drewN | apply below_drew1 | refine below_set ?_ GE267.out) | exact HB.out)))); rintro e w6 ⟨v269, rfl, ho0, hb⟩; refine ⟨_, rfl, ?_⟩; have n0_ := Aside0.mk (Kd.V_lower (Kd.V_mono (ok' := fun k_ => k_ ≠ gb267) ho0 (fun k_ hk_ => Or.elim hk_ (fun hs_ => fun e_ => Nat.not_le.2 hs_ (by rw [e_]; exact GW267.out)) (fun hn_ => (Kd.freshB (g := gb267) (o := .cells #[.int .i64 a0_0, .slice A0_1 l0_1.length c0_1, .int .i64 a0_2, .int .i64 a0_3, .int .i64 a0_4, .int .i64 a0_5, .int .i64 a0_6] 31 (0, 0)) (by (with_reducible repeat (first | refine blk_drewN ?_ _ | refine blk_drew ?_ | refine blk_alloc ?_ _)); exact BK267.out) k_ hn_)))) (below_size (by repeat (first | (with_reducible first | exact HB.out | apply below_alloc | apply pw_below_drewN | apply below_drew1 | refine below_set ?_ GE267.out) | exact HB.out)))); have n1_ := Aside0.mk (blk_below (g := gb267) (o := .cells #[.int .i64 a0_0, .slice A0_1 l0_1.length c0_1, .int .i64 a0_2, .int .i64 a0_3, .int .i64 a0_4, .int .i64 a0_5, .int .i64 a0_6] 31 (0, 0)) (by (with_reducible repeat (first | refine blk_drewN ?_ _ | refine blk_drew ?_ | refine blk_alloc ?_ _)); exact BK267.out) hb); have n2_ := Aside0.mk (below_step (by repeat (first | (with_reducible first | exact HB.out | apply below_alloc | apply pw_below_drewN | apply below_drew1 | refine below_set ?_ GE267.out) | exact HB.out)) hb); clear BK267; clear HB; have HO270 := n0_; have BK267 := n1_; have HB := n2_; clear n0_ n1_ n2_; (try clear hb); (try clear hb2); (try clear hk); (try clear hi); (try clear ho0)))
  (try simp only [Act.put, List.setIfInBounds_toArray, List.set_cons_zero, List.set_cons_succ])
  go_cut [22] (fun v22 wc => ∃ (kq : Nat) (x22_2 : Bool), v22 = .bool x22_2 ∧ Aside0 (tattlelaw04_ClockTells.j0 kq t268 x22_2 a0_0 l0_1 a0_2 a0_3 a0_4 a0_5 a0_6 = some r) ∧ Aside0 (kq ≤ k) ∧ Aside0 (Kd.V k87 87 wc w.heap.size (fun k_ => k_ ≠ gb267) v269 t268) ∧ Aside0 (wc.heap[gb267]? = some (.cells #[.int .i64 a0_0, (.slice A0_1 l0_1.length c0_1), .int .i64 a0_2, .int .i64 a0_3, .int .i64 a0_4, .int .i64 a0_5, .int .i64 a0_6] 31 (0, 0))) ∧ Aside0 (Below w.heap.size w wc))
  case first =>
    have H := HC3.out
    clear HC3
    by_cases c7 : a0_0 > 4
    · rw [if_pos c7] at H
      have c7b0 : decide (4 < a0_0) = true := decide_eq_true c7
      clear c7
      (first | rw [c7b0] | (simp only [i64_w, i32_w]; rw [c7b0]) | skip)
      as_aux_lemma =>
        have H' := Aside0.mk H
        clear H
        have hcz8_0 : w6.cell? ⟨gb267, 0, none⟩ = some (.int .i64 a0_0) := (blk_cell BK267.out 0).trans rfl
        have hcz8_1 : w6.cell? ⟨gb267, 1, none⟩ = some (.slice A0_1 l0_1.length c0_1) := (blk_cell BK267.out 1).trans rfl
        have hcz8_2 : w6.cell? ⟨gb267, 2, none⟩ = some (.int .i64 a0_2) := (blk_cell BK267.out 2).trans rfl
        have hcz8_3 : w6.cell? ⟨gb267, 3, none⟩ = some (.int .i64 a0_3) := (blk_cell BK267.out 3).trans rfl
        have hcz8_4 : w6.cell? ⟨gb267, 4, none⟩ = some (.int .i64 a0_4) := (blk_cell BK267.out 4).trans rfl
        have hcz8_5 : w6.cell? ⟨gb267, 5, none⟩ = some (.int .i64 a0_5) := (blk_cell BK267.out 5).trans rfl
        have hcz8_6 : w6.cell? ⟨gb267, 6, none⟩ = some (.int .i64 a0_6) := (blk_cell BK267.out 6).trans rfl
        have hfz8_0 := blk_frozen BK267.out 0
        have hfz8_1 := blk_frozen BK267.out 1
        have hfz8_2 := blk_frozen BK267.out 2
        have hfz8_3 := blk_frozen BK267.out 3
        have hfz8_4 := blk_frozen BK267.out 4
        have hfz8_5 := blk_frozen BK267.out 5
        have hfz8_6 := blk_frozen BK267.out 6
        go_wp2
        go_meet
        case rel => exact ⟨_, (decide (a0_0 ≤ 64)), (by first | rfl | (simp; done) | (simp [*]; done)), H', ⟨by first | omega | exact Nat.le_refl _⟩, ⟨by (with_reducible repeat (first | apply Kd.V_alloc | apply Kd.V_drewN | apply Kd.V_drew)); exact HO270.out⟩, ⟨by (with_reducible repeat (first | refine blk_drewN ?_ _ | refine blk_drew ?_ | refine blk_alloc ?_ _)); exact BK267.out⟩, ⟨by repeat (first | (with_reducible first | exact HB.out | apply below_alloc | apply pw_below_drewN | apply below_drew1 | refine below_set ?_ GE267.out) | exact HB.out)⟩⟩
    · rw [if_neg c7] at H
      have c7b0 : decide (4 < a0_0) = false := decide_eq_false c7
      clear c7
      (first | rw [c7b0] | (simp only [i64_w, i32_w]; rw [c7b0]) | skip)
      as_aux_lemma =>
        have H' := Aside0.mk H
        clear H
        have hcz9_0 : w6.cell? ⟨gb267, 0, none⟩ = some (.int .i64 a0_0) := (blk_cell BK267.out 0).trans rfl
        have hcz9_1 : w6.cell? ⟨gb267, 1, none⟩ = some (.slice A0_1 l0_1.length c0_1) := (blk_cell BK267.out 1).trans rfl
        have hcz9_2 : w6.cell? ⟨gb267, 2, none⟩ = some (.int .i64 a0_2) := (blk_cell BK267.out 2).trans rfl
        have hcz9_3 : w6.cell? ⟨gb267, 3, none⟩ = some (.int .i64 a0_3) := (blk_cell BK267.out 3).trans rfl
        have hcz9_4 : w6.cell? ⟨gb267, 4, none⟩ = some (.int .i64 a0_4) := (blk_cell BK267.out 4).trans rfl
        have hcz9_5 : w6.cell? ⟨gb267, 5, none⟩ = some (.int .i64 a0_5) := (blk_cell BK267.out 5).trans rfl
        have hcz9_6 : w6.cell? ⟨gb267, 6, none⟩ = some (.int .i64 a0_6) := (blk_cell BK267.out 6).trans rfl
        have hfz9_0 := blk_frozen BK267.out 0
        have hfz9_1 := blk_frozen BK267.out 1
        have hfz9_2 := blk_frozen BK267.out 2
        have hfz9_3 := blk_frozen BK267.out 3
        have hfz9_4 := blk_frozen BK267.out 4
        have hfz9_5 := blk_frozen BK267.out 5
        have hfz9_6 := blk_frozen BK267.out 6
        go_wp2
        go_meet
        case rel => exact ⟨_, (false), (by first | rfl | (simp; done) | (simp [*]; done)), H', ⟨by first | omega | exact Nat.le_refl _⟩, ⟨by (with_reducible repeat (first | apply Kd.V_alloc | apply Kd.V_drewN | apply Kd.V_drew)); exact HO270.out⟩, ⟨by (with_reducible repeat (first | refine blk_drewN ?_ _ | refine blk_drew ?_ | refine blk_alloc ?_ _)); exact BK267.out⟩, ⟨by repeat (first | (with_reducible first | exact HB.out | apply below_alloc | apply pw_below_drewN | apply below_drew1 | refine below_set ?_ GE267.out) | exact HB.out)⟩⟩
  case rest =>
    clear HC3
    try clear c1
    try clear p2
    try clear c7
    try clear c7b0
    try clear c8
    try clear hcz5_0
    try clear hcz5_1
    try clear hcz5_2
    try clear hcz5_3
    try clear hcz5_4
    try clear hcz5_5
    try clear hcz5_6
    try clear hcz8_0
    try clear hcz8_1
    try clear hcz8_2
    try clear hcz8_3
    try clear hcz8_4
    try clear hcz8_5
    try clear hcz8_6
    try clear hcz9_0
    try clear hcz9_1
    try clear hcz9_2
    try clear hcz9_3
    try clear hcz9_4
    try clear hcz9_5
    try clear hcz9_6
    try clear hfz5_0
    try clear hfz5_1
    try clear hfz5_2
    try clear hfz5_3
    try clear hfz5_4
    try clear hfz5_5
    try clear hfz5_6
    try clear hfz8_0
    try clear hfz8_1
    try clear hfz8_2
    try clear hfz8_3
    try clear hfz8_4
    try clear hfz8_5
    try clear hfz8_6
    try clear hfz9_0
    try clear hfz9_1
    try clear hfz9_2
    try clear hfz9_3
    try clear hfz9_4
    try clear hfz9_5
    try clear hfz9_6
    obtain ⟨kq, x22_2, rfl, HA, HJ2, HO_3, BK267, HB⟩ := hcut
    cases kq with
    | zero => exact absurd HA.out (by simp [tattlelaw04_ClockTells.j0])
    | succ kj2 =>
      have H := HA.out
      clear HA
      simp only [tattlelaw04_ClockTells.j0] at H
      have HC10 := Aside0.mk H
      clear H
      go_upto_if 22 with (fail)
      go_cut [] (fun wc => ∃ (kq : Nat) (x268000_9 : Int), Aside0 (tattlelaw04_ClockTells.j1 kq t268 x268000_9 l0_1 a0_2 a0_3 a0_4 a0_5 a0_6 = some r) ∧ Aside0 (kq ≤ kj2) ∧ Aside0 (Kd.V k87 87 wc w.heap.size (fun k_ => k_ ≠ gb267) v269 t268) ∧ Aside0 (wc.heap[gb267]? = some (.cells #[.int .i64 x268000_9, (.slice A0_1 l0_1.length c0_1), .int .i64 a0_2, .int .i64 a0_3, .int .i64 a0_4, .int .i64 a0_5, .int .i64 a0_6] 31 (0, 0))) ∧ Aside0 (Below w.heap.size w wc))
      case first =>
        have H := HC10.out
        clear HC10
        by_cases c11 : x22_2 = true
        · subst c11
          have H1 : (tattlelaw04_ClockTells.j1 kj2 t268 4 l0_1 a0_2 a0_3 a0_4 a0_5 a0_6) = some r := by rw [if_pos rfl] at H; exact H
          clear H
          have H := H1
          clear H1
          as_aux_lemma =>
            have H' := Aside0.mk H
            clear H
            have hcz12_0 : wc.cell? ⟨gb267, 0, none⟩ = some (.int .i64 a0_0) := (blk_cell BK267.out 0).trans rfl
            have hcz12_1 : wc.cell? ⟨gb267, 1, none⟩ = some (.slice A0_1 l0_1.length c0_1) := (blk_cell BK267.out 1).trans rfl
            have hcz12_2 : wc.cell? ⟨gb267, 2, none⟩ = some (.int .i64 a0_2) := (blk_cell BK267.out 2).trans rfl
            have hcz12_3 : wc.cell? ⟨gb267, 3, none⟩ = some (.int .i64 a0_3) := (blk_cell BK267.out 3).trans rfl
            have hcz12_4 : wc.cell? ⟨gb267, 4, none⟩ = some (.int .i64 a0_4) := (blk_cell BK267.out 4).trans rfl
            have hcz12_5 : wc.cell? ⟨gb267, 5, none⟩ = some (.int .i64 a0_5) := (blk_cell BK267.out 5).trans rfl
            have hcz12_6 : wc.cell? ⟨gb267, 6, none⟩ = some (.int .i64 a0_6) := (blk_cell BK267.out 6).trans rfl
            have hfz12_0 := blk_frozen BK267.out 0
            have hfz12_1 := blk_frozen BK267.out 1
            have hfz12_2 := blk_frozen BK267.out 2
            have hfz12_3 := blk_frozen BK267.out 3
            have hfz12_4 := blk_frozen BK267.out 4
            have hfz12_5 := blk_frozen BK267.out 5
            have hfz12_6 := blk_frozen BK267.out 6
            go_wp2
            go_meet
            case rel => exact ⟨_, (4), H', ⟨by have := HJ2.out; first | omega | exact Nat.le_refl _⟩, ⟨by (with_reducible repeat (first | apply Kd.V_alloc | apply Kd.V_drewN | apply Kd.V_drew)); exact Kd.V_mono (Kd.V_far (p := ⟨gb267, 0, none⟩) (Kd.V_mono HO_3.out (fun k_ hk => (⟨hk, hk⟩ : _ ∧ k_ ≠ gb267))) (fun _ hk => hk.2) (.int .i64 4)) (fun _ hk => hk.1)⟩, ⟨by (with_reducible repeat (first | refine blk_drewN ?_ _ | refine blk_drew ?_ | refine blk_alloc ?_ _)); refine blk_put (cs := #[.int .i64 a0_0, .slice A0_1 l0_1.length c0_1, .int .i64 a0_2, .int .i64 a0_3, .int .i64 a0_4, .int .i64 a0_5, .int .i64 a0_6]) ?_ 0 _ rfl; (with_reducible repeat (first | refine blk_drewN ?_ _ | refine blk_drew ?_ | refine blk_alloc ?_ _)); exact BK267.out⟩, ⟨by repeat (first | (with_reducible first | exact HB.out | apply below_alloc | apply pw_below_drewN | apply below_drew1 | refine below_set ?_ GE267.out) | exact HB.out)⟩⟩
        · replace c11 := Bool.eq_false_iff.mpr c11
          subst c11
          have H1 : (tattlelaw04_ClockTells.j1 kj2 t268 a0_0 l0_1 a0_2 a0_3 a0_4 a0_5 a0_6) = some r := by rw [if_neg (show ¬ (false = true) by decide)] at H; exact H
          clear H
          have H := H1
          clear H1
          as_aux_lemma =>
            have H' := Aside0.mk H
            clear H
            go_wp2
            go_meet
            case rel => exact ⟨_, (a0_0), H', ⟨by have := HJ2.out; first | omega | exact Nat.le_refl _⟩, ⟨by (with_reducible repeat (first | apply Kd.V_alloc | apply Kd.V_drewN | apply Kd.V_drew)); exact HO_3.out⟩, ⟨by (with_reducible repeat (first | refine blk_drewN ?_ _ | refine blk_drew ?_ | refine blk_alloc ?_ _)); exact BK267.out⟩, ⟨by repeat (first | (with_reducible first | exact HB.out | apply below_alloc | apply pw_below_drewN | apply below_drew1 | refine below_set ?_ GE267.out) | exact HB.out)⟩⟩
      case rest =>
        clear HC10
        try clear c1
        try clear p2
        try clear c7
        try clear c7b0
        try clear c8
        try clear c11
        try clear hcz12_0
        try clear hcz12_1
        try clear hcz12_2
        try clear hcz12_3
        try clear hcz12_4
        try clear hcz12_5
        try clear hcz12_6
        try clear hcz5_0
        try clear hcz5_1
        try clear hcz5_2
        try clear hcz5_3
        try clear hcz5_4
        try clear hcz5_5
        try clear hcz5_6
        try clear hcz8_0
        try clear hcz8_1
        try clear hcz8_2
        try clear hcz8_3
        try clear hcz8_4
        try clear hcz8_5
        try clear hcz8_6
        try clear hcz9_0
        try clear hcz9_1
        try clear hcz9_2
        try clear hcz9_3
        try clear hcz9_4
        try clear hcz9_5
        try clear hcz9_6
        try clear hfz12_0
        try clear hfz12_1
        try clear hfz12_2
        try clear hfz12_3
        try clear hfz12_4
        try clear hfz12_5
        try clear hfz12_6
        try clear hfz5_0
        try clear hfz5_1
        try clear hfz5_2
        try clear hfz5_3
        try clear hfz5_4
        try clear hfz5_5
        try clear hfz5_6
        try clear hfz8_0
        try clear hfz8_1
        try clear hfz8_2
        try clear hfz8_3
        try clear hfz8_4
        try clear hfz8_5
        try clear hfz8_6
        try clear hfz9_0
        try clear hfz9_1
        try clear hfz9_2
        try clear hfz9_3
        try clear hfz9_4
        try clear hfz9_5
        try clear hfz9_6
        try clear p2
        obtain ⟨kq, x268000_9, HA, HJ9, HO_3, BK267, HB⟩ := hcut
        cases kq with
        | zero => exact absurd HA.out (by simp [tattlelaw04_ClockTells.j1])
        | succ kj9 =>
          have H := HA.out
          clear HA
          simp only [tattlelaw04_ClockTells.j1] at H
          replace H := Option.bind_eq_some_iff.mp H
          obtain ⟨⟨t271, t272⟩, A130, H⟩ := H
          replace H : ((clock_Near.f kj9 x268000_9 t268 a0_2 a0_3).bind fun bt273 => ((clock_Far.f kj9 x268000_9 t268 a0_2 a0_3).bind fun bt275 => ((clock_Check.f x268000_9 t268).bind fun t277 => ((tattleref04_May.f kj9 x268000_9 t268).bind fun t278 => (if ((t277 == 0) != t278) = true then (some false) else ((tattleref04_May.f kj9 x268000_9 t268).bind fun t279 => (if t279 = true then (if a0_4 < 0 then (tattlelaw04_ClockTells.j2 kj9 t268 t271 t272 bt273.1 bt273.2 bt275.1 bt275.2 true x268000_9 l0_1 a0_2 a0_3 a0_4 a0_5 a0_6) else (if a0_4 ≥ x268000_9 then (tattlelaw04_ClockTells.j2 kj9 t268 t271 t272 bt273.1 bt273.2 bt275.1 bt275.2 true x268000_9 l0_1 a0_2 a0_3 a0_4 a0_5 a0_6) else (if a0_5 < 0 then (tattlelaw04_ClockTells.j2 kj9 t268 t271 t272 bt273.1 bt273.2 bt275.1 bt275.2 true x268000_9 l0_1 a0_2 a0_3 a0_4 a0_5 a0_6) else (if a0_5 > a0_6 then (tattlelaw04_ClockTells.j2 kj9 t268 t271 t272 bt273.1 bt273.2 bt275.1 bt275.2 true x268000_9 l0_1 a0_2 a0_3 a0_4 a0_5 a0_6) else (tattlelaw04_ClockTells.j2 kj9 t268 t271 t272 bt273.1 bt273.2 bt275.1 bt275.2 (decide (a0_6 > (t268.length : Int))) x268000_9 l0_1 a0_2 a0_3 a0_4 a0_5 a0_6))))) else (if t271 = 0 then (if t272 = 1 then (if bt273.1 = true then (some false) else (if bt273.2 = 1 then (if bt275.1 = 0 then (if bt275.2 = 1 then ((tattlelaw04_awakeT.f).bind fun t280 => (some t280)) else (some false)) else (some false)) else (some false))) else (some false)) else (some false))))))))) = some r := H
          have A13 := Aside0.mk A130
          clear A130
          replace H := Option.bind_eq_some_iff.mp H
          obtain ⟨⟨t273, t274⟩, A140, H⟩ := H
          replace H : ((clock_Far.f kj9 x268000_9 t268 a0_2 a0_3).bind fun bt275 => ((clock_Check.f x268000_9 t268).bind fun t277 => ((tattleref04_May.f kj9 x268000_9 t268).bind fun t278 => (if ((t277 == 0) != t278) = true then (some false) else ((tattleref04_May.f kj9 x268000_9 t268).bind fun t279 => (if t279 = true then (if a0_4 < 0 then (tattlelaw04_ClockTells.j2 kj9 t268 t271 t272 t273 t274 bt275.1 bt275.2 true x268000_9 l0_1 a0_2 a0_3 a0_4 a0_5 a0_6) else (if a0_4 ≥ x268000_9 then (tattlelaw04_ClockTells.j2 kj9 t268 t271 t272 t273 t274 bt275.1 bt275.2 true x268000_9 l0_1 a0_2 a0_3 a0_4 a0_5 a0_6) else (if a0_5 < 0 then (tattlelaw04_ClockTells.j2 kj9 t268 t271 t272 t273 t274 bt275.1 bt275.2 true x268000_9 l0_1 a0_2 a0_3 a0_4 a0_5 a0_6) else (if a0_5 > a0_6 then (tattlelaw04_ClockTells.j2 kj9 t268 t271 t272 t273 t274 bt275.1 bt275.2 true x268000_9 l0_1 a0_2 a0_3 a0_4 a0_5 a0_6) else (tattlelaw04_ClockTells.j2 kj9 t268 t271 t272 t273 t274 bt275.1 bt275.2 (decide (a0_6 > (t268.length : Int))) x268000_9 l0_1 a0_2 a0_3 a0_4 a0_5 a0_6))))) else (if t271 = 0 then (if t272 = 1 then (if t273 = true then (some false) else (if t274 = 1 then (if bt275.1 = 0 then (if bt275.2 = 1 then ((tattlelaw04_awakeT.f).bind fun t280 => (some t280)) else (some false)) else (some false)) else (some false))) else (some false)) else (some false)))))))) = some r := H
          have A14 := Aside0.mk A140
          clear A140
          replace H := Option.bind_eq_some_iff.mp H
          obtain ⟨⟨t275, t276⟩, A150, H⟩ := H
          replace H : ((clock_Check.f x268000_9 t268).bind fun t277 => ((tattleref04_May.f kj9 x268000_9 t268).bind fun t278 => (if ((t277 == 0) != t278) = true then (some false) else ((tattleref04_May.f kj9 x268000_9 t268).bind fun t279 => (if t279 = true then (if a0_4 < 0 then (tattlelaw04_ClockTells.j2 kj9 t268 t271 t272 t273 t274 t275 t276 true x268000_9 l0_1 a0_2 a0_3 a0_4 a0_5 a0_6) else (if a0_4 ≥ x268000_9 then (tattlelaw04_ClockTells.j2 kj9 t268 t271 t272 t273 t274 t275 t276 true x268000_9 l0_1 a0_2 a0_3 a0_4 a0_5 a0_6) else (if a0_5 < 0 then (tattlelaw04_ClockTells.j2 kj9 t268 t271 t272 t273 t274 t275 t276 true x268000_9 l0_1 a0_2 a0_3 a0_4 a0_5 a0_6) else (if a0_5 > a0_6 then (tattlelaw04_ClockTells.j2 kj9 t268 t271 t272 t273 t274 t275 t276 true x268000_9 l0_1 a0_2 a0_3 a0_4 a0_5 a0_6) else (tattlelaw04_ClockTells.j2 kj9 t268 t271 t272 t273 t274 t275 t276 (decide (a0_6 > (t268.length : Int))) x268000_9 l0_1 a0_2 a0_3 a0_4 a0_5 a0_6))))) else (if t271 = 0 then (if t272 = 1 then (if t273 = true then (some false) else (if t274 = 1 then (if t275 = 0 then (if t276 = 1 then ((tattlelaw04_awakeT.f).bind fun t280 => (some t280)) else (some false)) else (some false)) else (some false))) else (some false)) else (some false))))))) = some r := H
          have A15 := Aside0.mk A150
          clear A150
          replace H := Option.bind_eq_some_iff.mp H
          obtain ⟨t277, A160, H⟩ := H
          replace H : ((tattleref04_May.f kj9 x268000_9 t268).bind fun t278 => (if ((t277 == 0) != t278) = true then (some false) else ((tattleref04_May.f kj9 x268000_9 t268).bind fun t279 => (if t279 = true then (if a0_4 < 0 then (tattlelaw04_ClockTells.j2 kj9 t268 t271 t272 t273 t274 t275 t276 true x268000_9 l0_1 a0_2 a0_3 a0_4 a0_5 a0_6) else (if a0_4 ≥ x268000_9 then (tattlelaw04_ClockTells.j2 kj9 t268 t271 t272 t273 t274 t275 t276 true x268000_9 l0_1 a0_2 a0_3 a0_4 a0_5 a0_6) else (if a0_5 < 0 then (tattlelaw04_ClockTells.j2 kj9 t268 t271 t272 t273 t274 t275 t276 true x268000_9 l0_1 a0_2 a0_3 a0_4 a0_5 a0_6) else (if a0_5 > a0_6 then (tattlelaw04_ClockTells.j2 kj9 t268 t271 t272 t273 t274 t275 t276 true x268000_9 l0_1 a0_2 a0_3 a0_4 a0_5 a0_6) else (tattlelaw04_ClockTells.j2 kj9 t268 t271 t272 t273 t274 t275 t276 (decide (a0_6 > (t268.length : Int))) x268000_9 l0_1 a0_2 a0_3 a0_4 a0_5 a0_6))))) else (if t271 = 0 then (if t272 = 1 then (if t273 = true then (some false) else (if t274 = 1 then (if t275 = 0 then (if t276 = 1 then ((tattlelaw04_awakeT.f).bind fun t280 => (some t280)) else (some false)) else (some false)) else (some false))) else (some false)) else (some false)))))) = some r := H
          have A16 := Aside0.mk A160
          clear A160
          replace H := Option.bind_eq_some_iff.mp H
          obtain ⟨t278, A170, H⟩ := H
          replace H : (if ((t277 == 0) != t278) = true then (some false) else ((tattleref04_May.f kj9 x268000_9 t268).bind fun t279 => (if t279 = true then (if a0_4 < 0 then (tattlelaw04_ClockTells.j2 kj9 t268 t271 t272 t273 t274 t275 t276 true x268000_9 l0_1 a0_2 a0_3 a0_4 a0_5 a0_6) else (if a0_4 ≥ x268000_9 then (tattlelaw04_ClockTells.j2 kj9 t268 t271 t272 t273 t274 t275 t276 true x268000_9 l0_1 a0_2 a0_3 a0_4 a0_5 a0_6) else (if a0_5 < 0 then (tattlelaw04_ClockTells.j2 kj9 t268 t271 t272 t273 t274 t275 t276 true x268000_9 l0_1 a0_2 a0_3 a0_4 a0_5 a0_6) else (if a0_5 > a0_6 then (tattlelaw04_ClockTells.j2 kj9 t268 t271 t272 t273 t274 t275 t276 true x268000_9 l0_1 a0_2 a0_3 a0_4 a0_5 a0_6) else (tattlelaw04_ClockTells.j2 kj9 t268 t271 t272 t273 t274 t275 t276 (decide (a0_6 > (t268.length : Int))) x268000_9 l0_1 a0_2 a0_3 a0_4 a0_5 a0_6))))) else (if t271 = 0 then (if t272 = 1 then (if t273 = true then (some false) else (if t274 = 1 then (if t275 = 0 then (if t276 = 1 then ((tattlelaw04_awakeT.f).bind fun t280 => (some t280)) else (some false)) else (some false)) else (some false))) else (some false)) else (some false))))) = some r := H
          have A17 := Aside0.mk A170
          clear A170
          by_cases c18 : ((t277 == 0) != t278) = true
          · rw [if_pos c18] at H
            have c18b0 : ((t277 == 0) != t278) = true := c18
            (try (have c18b1 : decide ((t277 == 0) = t278) = false := by simpa using c18))
            (try (have c18b2 : ((t277 == 0) == t278) = false := by simpa using c18))
            (try (have c18b3 : ¬ ((t277 == 0) = t278) := by simpa using c18))
            clear c18
            as_aux_lemma =>
              exact absurd ((Option.some.inj H).trans hrt.out) (by decide)
          · rw [if_neg c18] at H
            have c18b0 : ((t277 == 0) != t278) = false := by simpa using c18
            (try (have c18b1 : decide ((t277 == 0) = t278) = true := by simpa using c18))
            (try (have c18b2 : ((t277 == 0) == t278) = true := by simpa using c18))
            clear c18
            replace H := Option.bind_eq_some_iff.mp H
            obtain ⟨t279, A190, H⟩ := H
            replace H : (if t279 = true then (if a0_4 < 0 then (tattlelaw04_ClockTells.j2 kj9 t268 t271 t272 t273 t274 t275 t276 true x268000_9 l0_1 a0_2 a0_3 a0_4 a0_5 a0_6) else (if a0_4 ≥ x268000_9 then (tattlelaw04_ClockTells.j2 kj9 t268 t271 t272 t273 t274 t275 t276 true x268000_9 l0_1 a0_2 a0_3 a0_4 a0_5 a0_6) else (if a0_5 < 0 then (tattlelaw04_ClockTells.j2 kj9 t268 t271 t272 t273 t274 t275 t276 true x268000_9 l0_1 a0_2 a0_3 a0_4 a0_5 a0_6) else (if a0_5 > a0_6 then (tattlelaw04_ClockTells.j2 kj9 t268 t271 t272 t273 t274 t275 t276 true x268000_9 l0_1 a0_2 a0_3 a0_4 a0_5 a0_6) else (tattlelaw04_ClockTells.j2 kj9 t268 t271 t272 t273 t274 t275 t276 (decide (a0_6 > (t268.length : Int))) x268000_9 l0_1 a0_2 a0_3 a0_4 a0_5 a0_6))))) else (if t271 = 0 then (if t272 = 1 then (if t273 = true then (some false) else (if t274 = 1 then (if t275 = 0 then (if t276 = 1 then ((tattlelaw04_awakeT.f).bind fun t280 => (some t280)) else (some false)) else (some false)) else (some false))) else (some false)) else (some false))) = some r := H
            have A19 := Aside0.mk A190
            clear A190
            by_cases c20 : t279 = true
            · subst c20
              have H1 : (if a0_4 < 0 then (tattlelaw04_ClockTells.j2 kj9 t268 t271 t272 t273 t274 t275 t276 true x268000_9 l0_1 a0_2 a0_3 a0_4 a0_5 a0_6) else (if a0_4 ≥ x268000_9 then (tattlelaw04_ClockTells.j2 kj9 t268 t271 t272 t273 t274 t275 t276 true x268000_9 l0_1 a0_2 a0_3 a0_4 a0_5 a0_6) else (if a0_5 < 0 then (tattlelaw04_ClockTells.j2 kj9 t268 t271 t272 t273 t274 t275 t276 true x268000_9 l0_1 a0_2 a0_3 a0_4 a0_5 a0_6) else (if a0_5 > a0_6 then (tattlelaw04_ClockTells.j2 kj9 t268 t271 t272 t273 t274 t275 t276 true x268000_9 l0_1 a0_2 a0_3 a0_4 a0_5 a0_6) else (tattlelaw04_ClockTells.j2 kj9 t268 t271 t272 t273 t274 t275 t276 (decide (a0_6 > (t268.length : Int))) x268000_9 l0_1 a0_2 a0_3 a0_4 a0_5 a0_6))))) = some r := by rw [if_pos rfl] at H; exact H
              clear H
              have H := H1
              clear H1
              have HC21 := Aside0.mk H
              clear H
              have hcz22_0 : wc.cell? ⟨gb267, 0, none⟩ = some (.int .i64 x268000_9) := (blk_cell BK267.out 0).trans rfl
              have hcz22_1 : wc.cell? ⟨gb267, 1, none⟩ = some (.slice A0_1 l0_1.length c0_1) := (blk_cell BK267.out 1).trans rfl
              have hcz22_2 : wc.cell? ⟨gb267, 2, none⟩ = some (.int .i64 a0_2) := (blk_cell BK267.out 2).trans rfl
              have hcz22_3 : wc.cell? ⟨gb267, 3, none⟩ = some (.int .i64 a0_3) := (blk_cell BK267.out 3).trans rfl
              have hcz22_4 : wc.cell? ⟨gb267, 4, none⟩ = some (.int .i64 a0_4) := (blk_cell BK267.out 4).trans rfl
              have hcz22_5 : wc.cell? ⟨gb267, 5, none⟩ = some (.int .i64 a0_5) := (blk_cell BK267.out 5).trans rfl
              have hcz22_6 : wc.cell? ⟨gb267, 6, none⟩ = some (.int .i64 a0_6) := (blk_cell BK267.out 6).trans rfl
              have hfz22_0 := blk_frozen BK267.out 0
              have hfz22_1 := blk_frozen BK267.out 1
              have hfz22_2 := blk_frozen BK267.out 2
              have hfz22_3 := blk_frozen BK267.out 3
              have hfz22_4 := blk_frozen BK267.out 4
              have hfz22_5 := blk_frozen BK267.out 5
              have hfz22_6 := blk_frozen BK267.out 6
              obtain ⟨Ao23, co23, eo23⟩ := Kd.V_slice HO_3.out
              subst eo23
              try go_wp2_with (first | ((with_reducible refine gate_callee (f := 20) rfl ?_); refine goesL_ (some 34) rfl rfl Try.func20 (by kernel_rfl) rfl #[.int .i64 x268000_9, .slice Ao23 t268.length co23, .int .i64 a0_4, .int .i64 a0_5, .int .i64 a0_6] rfl (by (try simp only [List.map_toArray, List.map_cons, List.map_nil]); first | done | rfl | (simp only [List.length_drop, List.length_take]; rfl)) ?_; (with_reducible refine (clock_Ticks.calls kj9 x268000_9 _ _ t268 a0_4 a0_5 a0_6 t271 t272 _ ?side1 ?side2 A13.out).mono ?_); (case side1 => repeat (first | exact (Kd.V_reads' HO_3.out).2.2 | (with_reducible refine Kd.C_alloc ?_ _) | (with_reducible refine Kd.C_drewN ?_ _) | (with_reducible refine Kd.C_drew ?_))); (case side2 => exact (Kd.V_reads' HO_3.out).2.1); rintro e w24 ⟨rfl, hb⟩; refine ⟨_, rfl, ?_⟩; have n0_ := Aside0.mk (Kd.V_below (by (with_reducible repeat (first | apply Kd.V_alloc | apply Kd.V_drewN | apply Kd.V_drew)); exact HO_3.out) hb); have n1_ := Aside0.mk (blk_below (g := gb267) (o := .cells #[.int .i64 x268000_9, .slice A0_1 l0_1.length c0_1, .int .i64 a0_2, .int .i64 a0_3, .int .i64 a0_4, .int .i64 a0_5, .int .i64 a0_6] 31 (0, 0)) (by (with_reducible repeat (first | refine blk_drewN ?_ _ | refine blk_drew ?_ | refine blk_alloc ?_ _)); exact BK267.out) hb); have n2_ := Aside0.mk (below_step (by repeat (first | (with_reducible first | exact HB.out | apply below_alloc | apply pw_below_drewN | apply below_drew1 | refine below_set ?_ GE267.out) | exact HB.out)) hb); clear HO_3; clear BK267; clear HB; have HO_3 := n0_; have BK267 := n1_; have HB := n2_; clear n0_ n1_ n2_; (try clear hb); (try clear hb2); (try clear hk); (try clear hi); have hcz25_0 : w24.cell? ⟨gb267, 0, none⟩ = some (.int .i64 x268000_9) := (blk_cell BK267.out 0).trans rfl; have hcz25_1 : w24.cell? ⟨gb267, 1, none⟩ = some (.slice A0_1 l0_1.length c0_1) := (blk_cell BK267.out 1).trans rfl; have hcz25_2 : w24.cell? ⟨gb267, 2, none⟩ = some (.int .i64 a0_2) := (blk_cell BK267.out 2).trans rfl; have hcz25_3 : w24.cell? ⟨gb267, 3, none⟩ = some (.int .i64 a0_3) := (blk_cell BK267.out 3).trans rfl; have hcz25_4 : w24.cell? ⟨gb267, 4, none⟩ = some (.int .i64 a0_4) := (blk_cell BK267.out 4).trans rfl; have hcz25_5 : w24.cell? ⟨gb267, 5, none⟩ = some (.int .i64 a0_5) := (blk_cell BK267.out 5).trans rfl; have hcz25_6 : w24.cell? ⟨gb267, 6, none⟩ = some (.int .i64 a0_6) := (blk_cell BK267.out 6).trans rfl; have hfz25_0 := blk_frozen BK267.out 0; have hfz25_1 := blk_frozen BK267.out 1; have hfz25_2 := blk_frozen BK267.out 2; have hfz25_3 := blk_frozen BK267.out 3; have hfz25_4 := blk_frozen BK267.out 4; have hfz25_5 := blk_frozen BK267.out 5; have hfz25_6 := blk_frozen BK267.out 6) | ((with_reducible refine gate_callee (f := 19) rfl ?_); refine goesL_ (some 45) rfl rfl Try.func19 (by kernel_rfl) rfl #[.int .i64 x268000_9, .slice Ao23 t268.length co23, .int .i64 a0_2, .int .i64 a0_3] rfl (by (try simp only [List.map_toArray, List.map_cons, List.map_nil]); first | done | rfl | (simp only [List.length_drop, List.length_take]; rfl)) ?_; (with_reducible refine (clock_Near.calls kj9 x268000_9 _ _ t268 a0_2 a0_3 t273 t274 _ ?side1 ?side2 A14.out).mono ?_); (case side1 => repeat (first | exact (Kd.V_reads' HO_3.out).2.2 | (with_reducible refine Kd.C_alloc ?_ _) | (with_reducible refine Kd.C_drewN ?_ _) | (with_reducible refine Kd.C_drew ?_))); (case side2 => exact (Kd.V_reads' HO_3.out).2.1); rintro e w26 ⟨rfl, hb⟩; refine ⟨_, rfl, ?_⟩; have n0_ := Aside0.mk (Kd.V_below (by (with_reducible repeat (first | apply Kd.V_alloc | apply Kd.V_drewN | apply Kd.V_drew)); exact HO_3.out) hb); have n1_ := Aside0.mk (blk_below (g := gb267) (o := .cells #[.int .i64 x268000_9, .slice A0_1 l0_1.length c0_1, .int .i64 a0_2, .int .i64 a0_3, .int .i64 a0_4, .int .i64 a0_5, .int .i64 a0_6] 31 (0, 0)) (by (with_reducible repeat (first | refine blk_drewN ?_ _ | refine blk_drew ?_ | refine blk_alloc ?_ _)); exact BK267.out) hb); have n2_ := Aside0.mk (below_step (by repeat (first | (with_reducible first | exact HB.out | apply below_alloc | apply pw_below_drewN | apply below_drew1 | refine below_set ?_ GE267.out) | exact HB.out)) hb); clear HO_3; clear BK267; clear HB; have HO_3 := n0_; have BK267 := n1_; have HB := n2_; clear n0_ n1_ n2_; (try clear hb); (try clear hb2); (try clear hk); (try clear hi); have hcz27_0 : w26.cell? ⟨gb267, 0, none⟩ = some (.int .i64 x268000_9) := (blk_cell BK267.out 0).trans rfl; have hcz27_1 : w26.cell? ⟨gb267, 1, none⟩ = some (.slice A0_1 l0_1.length c0_1) := (blk_cell BK267.out 1).trans rfl; have hcz27_2 : w26.cell? ⟨gb267, 2, none⟩ = some (.int .i64 a0_2) := (blk_cell BK267.out 2).trans rfl; have hcz27_3 : w26.cell? ⟨gb267, 3, none⟩ = some (.int .i64 a0_3) := (blk_cell BK267.out 3).trans rfl; have hcz27_4 : w26.cell? ⟨gb267, 4, none⟩ = some (.int .i64 a0_4) := (blk_cell BK267.out 4).trans rfl; have hcz27_5 : w26.cell? ⟨gb267, 5, none⟩ = some (.int .i64 a0_5) := (blk_cell BK267.out 5).trans rfl; have hcz27_6 : w26.cell? ⟨gb267, 6, none⟩ = some (.int .i64 a0_6) := (blk_cell BK267.out 6).trans rfl; have hfz27_0 := blk_frozen BK267.out 0; have hfz27_1 := blk_frozen BK267.out 1; have hfz27_2 := blk_frozen BK267.out 2; have hfz27_3 := blk_frozen BK267.out 3; have hfz27_4 := blk_frozen BK267.out 4; have hfz27_5 := blk_frozen BK267.out 5; have hfz27_6 := blk_frozen BK267.out 6) | ((with_reducible refine gate_callee (f := 22) rfl ?_); refine goesL_ (some 56) rfl rfl Try.func22 (by kernel_rfl) rfl #[.int .i64 x268000_9, .slice Ao23 t268.length co23, .int .i64 a0_2, .int .i64 a0_3] rfl (by (try simp only [List.map_toArray, List.map_cons, List.map_nil]); first | done | rfl | (simp only [List.length_drop, List.length_take]; rfl)) ?_; (with_reducible refine (clock_Far.calls kj9 x268000_9 _ _ t268 a0_2 a0_3 t275 t276 _ ?side1 ?side2 A15.out).mono ?_); (case side1 => repeat (first | exact (Kd.V_reads' HO_3.out).2.2 | (with_reducible refine Kd.C_alloc ?_ _) | (with_reducible refine Kd.C_drewN ?_ _) | (with_reducible refine Kd.C_drew ?_))); (case side2 => exact (Kd.V_reads' HO_3.out).2.1); rintro e w28 ⟨rfl, hb⟩; refine ⟨_, rfl, ?_⟩; have n0_ := Aside0.mk (Kd.V_below (by (with_reducible repeat (first | apply Kd.V_alloc | apply Kd.V_drewN | apply Kd.V_drew)); exact HO_3.out) hb); have n1_ := Aside0.mk (blk_below (g := gb267) (o := .cells #[.int .i64 x268000_9, .slice A0_1 l0_1.length c0_1, .int .i64 a0_2, .int .i64 a0_3, .int .i64 a0_4, .int .i64 a0_5, .int .i64 a0_6] 31 (0, 0)) (by (with_reducible repeat (first | refine blk_drewN ?_ _ | refine blk_drew ?_ | refine blk_alloc ?_ _)); exact BK267.out) hb); have n2_ := Aside0.mk (below_step (by repeat (first | (with_reducible first | exact HB.out | apply below_alloc | apply pw_below_drewN | apply below_drew1 | refine below_set ?_ GE267.out) | exact HB.out)) hb); clear HO_3; clear BK267; clear HB; have HO_3 := n0_; have BK267 := n1_; have HB := n2_; clear n0_ n1_ n2_; (try clear hb); (try clear hb2); (try clear hk); (try clear hi)))
              have n0_ := Aside0.mk (Kd.V_drew HO_3.out)
              have n1_ := Aside0.mk (blk_drew BK267.out)
              have n2_ := Aside0.mk (below_drew1 HB.out)
              clear HO_3
              clear BK267
              clear HB
              have HO_3 := n0_
              have BK267 := n1_
              have HB := n2_
              clear n0_ n1_ n2_
              refine start_ (n := 10) (S := fun w' => w'.cell? ⟨gb267, 0, none⟩ = some (.int .i64 x268000_9) ∧ w'.cell? ⟨gb267, 1, none⟩ = some (.slice A0_1 l0_1.length c0_1) ∧ w'.cell? ⟨gb267, 2, none⟩ = some (.int .i64 a0_2) ∧ w'.cell? ⟨gb267, 3, none⟩ = some (.int .i64 a0_3) ∧ w'.cell? ⟨gb267, 4, none⟩ = some (.int .i64 a0_4) ∧ w'.cell? ⟨gb267, 5, none⟩ = some (.int .i64 a0_5) ∧ w'.cell? ⟨gb267, 6, none⟩ = some (.int .i64 a0_6)) (ds := []) #[false, false, false, false, false, false, false, false, false, false] (by kernel_rfl) rfl rfl ⟨(blk_cell BK267.out 0).trans rfl, (blk_cell BK267.out 1).trans rfl, (blk_cell BK267.out 2).trans rfl, (blk_cell BK267.out 3).trans rfl, (blk_cell BK267.out 4).trans rfl, (blk_cell BK267.out 5).trans rfl, (blk_cell BK267.out 6).trans rfl⟩ (fun hHeld => ?_); refine with_tabW tattlelaw04_ClockTells.tab7 tattlelaw04_ClockTells.bits7 (fun HT_ HW_ => ?_)
              generalize w28.drew = w29 at HO_3 BK267 HB hHeld ⊢
              refine pure_ (i := 0) (N := some 59) (v := ?_) (a' := ?_) #[true, false, false, false, false, false, false, false, false, false] rfl rfl (any_of HT_.out (by kernel_rfl)) (fun _ _ _ h => h) (Or.inl ⟨by rfl, ?_⟩) ?_ ?_
              rotate_left
              · intro w'
                go_simp
                with_reducible rfl
              rotate_left
              · simp only [Act.put, List.setIfInBounds_toArray, List.set_cons_zero, List.set_cons_succ, i64_w, i32_w]
                rfl
              refine pure_ (i := 2) (N := some 61) (v := ?_) (a' := ?_) #[true, false, true, false, false, false, false, false, false, false] rfl rfl (any_of HT_.out (by kernel_rfl)) (fun _ _ _ h => h) (Or.inl ⟨by rfl, ?_⟩) ?_ ?_
              rotate_left
              · intro w'
                go_simp
                with_reducible rfl
              rotate_left
              · simp only [Act.put, List.setIfInBounds_toArray, List.set_cons_zero, List.set_cons_succ, i64_w, i32_w]
                rfl
              refine pure_ (i := 5) (N := some 64) (v := ?_) (a' := ?_) #[true, false, true, false, false, true, false, false, false, false] rfl rfl (any_of HT_.out (by kernel_rfl)) (fun _ _ _ h => h) (Or.inl ⟨by rfl, ?_⟩) ?_ ?_
              rotate_left
              · intro w'
                go_simp
                with_reducible rfl
              rotate_left
              · simp only [Act.put, List.setIfInBounds_toArray, List.set_cons_zero, List.set_cons_succ, i64_w, i32_w]
                rfl
              refine pure_ (i := 7) (N := some 66) (v := ?_) (a' := ?_) #[true, false, true, false, false, true, false, true, false, false] rfl rfl (any_of HT_.out (by kernel_rfl)) (fun _ _ _ h => h) (Or.inl ⟨by rfl, ?_⟩) ?_ ?_
              rotate_left
              · intro w'
                go_simp
                with_reducible rfl
              rotate_left
              · simp only [Act.put, List.setIfInBounds_toArray, List.set_cons_zero, List.set_cons_succ, i64_w, i32_w]
                rfl
              refine take_ (i := 1) (N := some 60) (v := ?_) (a' := ?_) #[true, true, true, false, false, true, false, true, false, false] rfl rfl (take_ofW HT_.out HW_.out (by kernel_rfl)) (fun _ _ _ h => h) (Or.inl ⟨by rfl, ?_⟩) hHeld ?_ ?_
              rotate_left
              · rintro w' ⟨s0, s1, s2, s3, s4, s5, s6⟩
                go_simp
                with_reducible rfl
              rotate_left
              · simp only [Act.put, List.setIfInBounds_toArray, List.set_cons_zero, List.set_cons_succ, i64_w, i32_w]
                rfl
              refine take_ (i := 6) (N := some 65) (v := ?_) (a' := ?_) #[true, true, true, false, false, true, true, true, false, false] rfl rfl (take_ofW HT_.out HW_.out (by kernel_rfl)) (fun _ _ _ h => h) (Or.inl ⟨by rfl, ?_⟩) hHeld ?_ ?_
              rotate_left
              · rintro w' ⟨s0, s1, s2, s3, s4, s5, s6⟩
                go_simp
                with_reducible rfl
              rotate_left
              · simp only [Act.put, List.setIfInBounds_toArray, List.set_cons_zero, List.set_cons_succ, i64_w, i32_w]
                rfl
              refine one_ (i := 3) (N := some 62) #[true, true, true, true, false, true, true, true, false, false] rfl rfl (one_of HT_.out (by kernel_rfl)) (by decide) (fun K hK => ?_)
              refine goes_ Try.func23 (by kernel_rfl) rfl #[.int .i64 x268000_9, .slice Ao23 t268.length co23] (by rfl) rfl rfl (by (try simp only [List.map_toArray, List.map_cons, List.map_nil]); first | done | rfl | (simp only [List.length_drop, List.length_take]; rfl)) ?_
              with_reducible refine (clock_Check.calls x268000_9 _ _ t268 t277 _ ?side1 ?side2 A16.out).mono ?_
              (case side1 => repeat (first | exact (Kd.V_reads' HO_3.out).2.2 | (with_reducible refine Kd.C_alloc ?_ _) | (with_reducible refine Kd.C_drewN ?_ _) | (with_reducible refine Kd.C_drew ?_)))
              (case side2 => exact (Kd.V_reads' HO_3.out).2.1)
              rintro e w30 ⟨rfl, hb⟩
              refine ⟨_, rfl, ?_⟩
              have n0_ := Aside0.mk (Kd.V_below (by (with_reducible repeat (first | apply Kd.V_alloc | apply Kd.V_drewN | apply Kd.V_drew)); exact HO_3.out) hb)
              have n1_ := Aside0.mk (blk_below (g := gb267) (o := .cells #[.int .i64 x268000_9, .slice A0_1 l0_1.length c0_1, .int .i64 a0_2, .int .i64 a0_3, .int .i64 a0_4, .int .i64 a0_5, .int .i64 a0_6] 31 (0, 0)) (by (with_reducible repeat (first | refine blk_drewN ?_ _ | refine blk_drew ?_ | refine blk_alloc ?_ _)); exact BK267.out) hb)
              have n2_ := Aside0.mk (below_step (by repeat (first | (with_reducible first | exact HB.out | apply below_alloc | apply pw_below_drewN | apply below_drew1 | refine below_set ?_ GE267.out) | exact HB.out)) hb)
              clear HO_3
              clear BK267
              clear HB
              have HO_3 := n0_
              have BK267 := n1_
              have HB := n2_
              clear n0_ n1_ n2_
              (try clear hb)
              (try clear hb2)
              (try clear hk)
              (try clear hi)
              refine hK.out _ _ ⟨(blk_cell BK267.out 0).trans rfl, (blk_cell BK267.out 1).trans rfl, (blk_cell BK267.out 2).trans rfl, (blk_cell BK267.out 3).trans rfl, (blk_cell BK267.out 4).trans rfl, (blk_cell BK267.out 5).trans rfl, (blk_cell BK267.out 6).trans rfl⟩ (fun hHeld => ?_)
              clear hK K
              refine norm_ (a' := ?_) ?_ ?_
              rotate_left
              · show Act.put _ (some 62) _ = _
                simp only [Act.put, List.setIfInBounds_toArray, List.set_cons_zero, List.set_cons_succ, i64_w, i32_w]
                rfl
              refine pure_ (i := 4) (N := some 63) (v := ?_) (a' := ?_) #[true, true, true, true, true, true, true, true, false, false] rfl rfl (any_of HT_.out (by kernel_rfl)) (fun _ _ _ h => h) (Or.inl ⟨by rfl, ?_⟩) ?_ ?_
              rotate_left
              · intro w'
                go_simp
                with_reducible rfl
              rotate_left
              · simp only [Act.put, List.setIfInBounds_toArray, List.set_cons_zero, List.set_cons_succ, i64_w, i32_w]
                rfl
              refine one_ (i := 8) (N := some 67) #[true, true, true, true, true, true, true, true, true, false] rfl rfl (one_of HT_.out (by kernel_rfl)) (by decide) (fun K hK => ?_)
              refine goes_ Try.func21 (by kernel_rfl) rfl #[.int .i64 x268000_9, .slice Ao23 t268.length co23] (by rfl) rfl rfl (by (try simp only [List.map_toArray, List.map_cons, List.map_nil]); first | done | rfl | (simp only [List.length_drop, List.length_take]; rfl)) ?_
              with_reducible refine (tattleref04_May.calls kj9 x268000_9 _ _ t268 t278 _ ?side1 ?side2 A17.out).mono ?_
              (case side1 => repeat (first | exact (Kd.V_reads' HO_3.out).2.2 | (with_reducible refine Kd.C_alloc ?_ _) | (with_reducible refine Kd.C_drewN ?_ _) | (with_reducible refine Kd.C_drew ?_)))
              (case side2 => exact (Kd.V_reads' HO_3.out).2.1)
              rintro e w31 ⟨rfl, hb⟩
              refine ⟨_, rfl, ?_⟩
              have n0_ := Aside0.mk (Kd.V_below (by (with_reducible repeat (first | apply Kd.V_alloc | apply Kd.V_drewN | apply Kd.V_drew)); exact HO_3.out) hb)
              have n1_ := Aside0.mk (blk_below (g := gb267) (o := .cells #[.int .i64 x268000_9, .slice A0_1 l0_1.length c0_1, .int .i64 a0_2, .int .i64 a0_3, .int .i64 a0_4, .int .i64 a0_5, .int .i64 a0_6] 31 (0, 0)) (by (with_reducible repeat (first | refine blk_drewN ?_ _ | refine blk_drew ?_ | refine blk_alloc ?_ _)); exact BK267.out) hb)
              have n2_ := Aside0.mk (below_step (by repeat (first | (with_reducible first | exact HB.out | apply below_alloc | apply pw_below_drewN | apply below_drew1 | refine below_set ?_ GE267.out) | exact HB.out)) hb)
              clear HO_3
              clear BK267
              clear HB
              have HO_3 := n0_
              have BK267 := n1_
              have HB := n2_
              clear n0_ n1_ n2_
              (try clear hb)
              (try clear hb2)
              (try clear hk)
              (try clear hi)
              refine hK.out _ _ ⟨(blk_cell BK267.out 0).trans rfl, (blk_cell BK267.out 1).trans rfl, (blk_cell BK267.out 2).trans rfl, (blk_cell BK267.out 3).trans rfl, (blk_cell BK267.out 4).trans rfl, (blk_cell BK267.out 5).trans rfl, (blk_cell BK267.out 6).trans rfl⟩ (fun hHeld => ?_)
              clear hK K
              refine norm_ (a' := ?_) ?_ ?_
              rotate_left
              · show Act.put _ (some 67) _ = _
                simp only [Act.put, List.setIfInBounds_toArray, List.set_cons_zero, List.set_cons_succ, i64_w, i32_w]
                rfl
              refine pure_ (i := 9) (N := some 68) (v := ?_) (a' := ?_) #[true, true, true, true, true, true, true, true, true, true] rfl rfl (any_of HT_.out (by kernel_rfl)) (fun _ _ _ h => h) (Or.inl ⟨by rfl, ?_⟩) ?_ ?_
              rotate_left
              · intro w'
                go_simp
                with_reducible rfl
              rotate_left
              · simp only [Act.put, List.setIfInBounds_toArray, List.set_cons_zero, List.set_cons_succ, i64_w, i32_w]
                rfl
              refine done_ (done_of HT_.out (by kernel_rfl)) ?_
              have hcz32_0 : w31.cell? ⟨gb267, 0, none⟩ = some (.int .i64 x268000_9) := (blk_cell BK267.out 0).trans rfl
              have hcz32_1 : w31.cell? ⟨gb267, 1, none⟩ = some (.slice A0_1 l0_1.length c0_1) := (blk_cell BK267.out 1).trans rfl
              have hcz32_2 : w31.cell? ⟨gb267, 2, none⟩ = some (.int .i64 a0_2) := (blk_cell BK267.out 2).trans rfl
              have hcz32_3 : w31.cell? ⟨gb267, 3, none⟩ = some (.int .i64 a0_3) := (blk_cell BK267.out 3).trans rfl
              have hcz32_4 : w31.cell? ⟨gb267, 4, none⟩ = some (.int .i64 a0_4) := (blk_cell BK267.out 4).trans rfl
              have hcz32_5 : w31.cell? ⟨gb267, 5, none⟩ = some (.int .i64 a0_5) := (blk_cell BK267.out 5).trans rfl
              have hcz32_6 : w31.cell? ⟨gb267, 6, none⟩ = some (.int .i64 a0_6) := (blk_cell BK267.out 6).trans rfl
              have hfz32_0 := blk_frozen BK267.out 0
              have hfz32_1 := blk_frozen BK267.out 1
              have hfz32_2 := blk_frozen BK267.out 2
              have hfz32_3 := blk_frozen BK267.out 3
              have hfz32_4 := blk_frozen BK267.out 4
              have hfz32_5 := blk_frozen BK267.out 5
              have hfz32_6 := blk_frozen BK267.out 6
              go_upto_region 11 with (first | ((with_reducible refine gate_callee (f := 21) rfl ?_); refine goesL_ (some 72) rfl rfl Try.func21 (by kernel_rfl) rfl #[.int .i64 x268000_9, .slice Ao23 t268.length co23] rfl (by (try simp only [List.map_toArray, List.map_cons, List.map_nil]); first | done | rfl | (simp only [List.length_drop, List.length_take]; rfl)) ?_; (with_reducible refine (tattleref04_May.calls kj9 x268000_9 _ _ t268 true _ ?side1 ?side2 A19.out).mono ?_); (case side1 => repeat (first | exact (Kd.V_reads' HO_3.out).2.2 | (with_reducible refine Kd.C_alloc ?_ _) | (with_reducible refine Kd.C_drewN ?_ _) | (with_reducible refine Kd.C_drew ?_))); (case side2 => exact (Kd.V_reads' HO_3.out).2.1); rintro e w33 ⟨rfl, hb⟩; refine ⟨_, rfl, ?_⟩; have n0_ := Aside0.mk (Kd.V_below (by (with_reducible repeat (first | apply Kd.V_alloc | apply Kd.V_drewN | apply Kd.V_drew)); exact HO_3.out) hb); have n1_ := Aside0.mk (blk_below (g := gb267) (o := .cells #[.int .i64 x268000_9, .slice A0_1 l0_1.length c0_1, .int .i64 a0_2, .int .i64 a0_3, .int .i64 a0_4, .int .i64 a0_5, .int .i64 a0_6] 31 (0, 0)) (by (with_reducible repeat (first | refine blk_drewN ?_ _ | refine blk_drew ?_ | refine blk_alloc ?_ _)); exact BK267.out) hb); have n2_ := Aside0.mk (below_step (by repeat (first | (with_reducible first | exact HB.out | apply below_alloc | apply pw_below_drewN | apply below_drew1 | refine below_set ?_ GE267.out) | exact HB.out)) hb); clear HO_3; clear BK267; clear HB; have HO_3 := n0_; have BK267 := n1_; have HB := n2_; clear n0_ n1_ n2_; (try clear hb); (try clear hb2); (try clear hk); (try clear hi)))
              (try simp only [Act.put, List.setIfInBounds_toArray, List.set_cons_zero, List.set_cons_succ])
              go_cut [127] (fun v127 wc => ∃ (kq : Nat) (x127_20 : Bool), v127 = .bool x127_20 ∧ Aside0 (tattlelaw04_ClockTells.j2 kq t268 t271 t272 t273 t274 t275 t276 x127_20 x268000_9 l0_1 a0_2 a0_3 a0_4 a0_5 a0_6 = some r) ∧ Aside0 (kq ≤ kj9) ∧ Aside0 (Kd.V k87 87 wc w.heap.size (fun k_ => k_ ≠ gb267) (.slice Ao23 t268.length co23) t268) ∧ Aside0 (wc.heap[gb267]? = some (.cells #[.int .i64 x268000_9, (.slice A0_1 l0_1.length c0_1), .int .i64 a0_2, .int .i64 a0_3, .int .i64 a0_4, .int .i64 a0_5, .int .i64 a0_6] 31 (0, 0))) ∧ Aside0 (Below w.heap.size w wc))
              case first =>
                have H := HC21.out
                clear HC21
                by_cases c34 : a0_4 < 0
                · rw [if_pos c34] at H
                  have c34b0 : decide (a0_4 < 0) = true := decide_eq_true c34
                  clear c34
                  (first | rw [c34b0] | (simp only [i64_w, i32_w]; rw [c34b0]) | skip)
                  as_aux_lemma =>
                    have H' := Aside0.mk H
                    clear H
                    have hcz35_0 : w33.cell? ⟨gb267, 0, none⟩ = some (.int .i64 x268000_9) := (blk_cell BK267.out 0).trans rfl
                    have hcz35_1 : w33.cell? ⟨gb267, 1, none⟩ = some (.slice A0_1 l0_1.length c0_1) := (blk_cell BK267.out 1).trans rfl
                    have hcz35_2 : w33.cell? ⟨gb267, 2, none⟩ = some (.int .i64 a0_2) := (blk_cell BK267.out 2).trans rfl
                    have hcz35_3 : w33.cell? ⟨gb267, 3, none⟩ = some (.int .i64 a0_3) := (blk_cell BK267.out 3).trans rfl
                    have hcz35_4 : w33.cell? ⟨gb267, 4, none⟩ = some (.int .i64 a0_4) := (blk_cell BK267.out 4).trans rfl
                    have hcz35_5 : w33.cell? ⟨gb267, 5, none⟩ = some (.int .i64 a0_5) := (blk_cell BK267.out 5).trans rfl
                    have hcz35_6 : w33.cell? ⟨gb267, 6, none⟩ = some (.int .i64 a0_6) := (blk_cell BK267.out 6).trans rfl
                    have hfz35_0 := blk_frozen BK267.out 0
                    have hfz35_1 := blk_frozen BK267.out 1
                    have hfz35_2 := blk_frozen BK267.out 2
                    have hfz35_3 := blk_frozen BK267.out 3
                    have hfz35_4 := blk_frozen BK267.out 4
                    have hfz35_5 := blk_frozen BK267.out 5
                    have hfz35_6 := blk_frozen BK267.out 6
                    go_wp2
                    go_meet
                    case rel => exact ⟨_, (true), (by first | rfl | (simp; done) | (simp [*]; done)), H', ⟨by have := HJ2.out; have := HJ9.out; first | omega | exact Nat.le_refl _⟩, ⟨by (with_reducible repeat (first | apply Kd.V_alloc | apply Kd.V_drewN | apply Kd.V_drew)); exact HO_3.out⟩, ⟨by (with_reducible repeat (first | refine blk_drewN ?_ _ | refine blk_drew ?_ | refine blk_alloc ?_ _)); exact BK267.out⟩, ⟨by repeat (first | (with_reducible first | exact HB.out | apply below_alloc | apply pw_below_drewN | apply below_drew1 | refine below_set ?_ GE267.out) | exact HB.out)⟩⟩
                · rw [if_neg c34] at H
                  have c34b0 : decide (a0_4 < 0) = false := decide_eq_false c34
                  clear c34
                  (first | rw [c34b0] | (simp only [i64_w, i32_w]; rw [c34b0]) | skip)
                  by_cases c36 : a0_4 ≥ x268000_9
                  · rw [if_pos c36] at H
                    have c36b0 : decide (x268000_9 ≤ a0_4) = true := decide_eq_true c36
                    clear c36
                    as_aux_lemma =>
                      have H' := Aside0.mk H
                      clear H
                      have hcz37_0 : w33.cell? ⟨gb267, 0, none⟩ = some (.int .i64 x268000_9) := (blk_cell BK267.out 0).trans rfl
                      have hcz37_1 : w33.cell? ⟨gb267, 1, none⟩ = some (.slice A0_1 l0_1.length c0_1) := (blk_cell BK267.out 1).trans rfl
                      have hcz37_2 : w33.cell? ⟨gb267, 2, none⟩ = some (.int .i64 a0_2) := (blk_cell BK267.out 2).trans rfl
                      have hcz37_3 : w33.cell? ⟨gb267, 3, none⟩ = some (.int .i64 a0_3) := (blk_cell BK267.out 3).trans rfl
                      have hcz37_4 : w33.cell? ⟨gb267, 4, none⟩ = some (.int .i64 a0_4) := (blk_cell BK267.out 4).trans rfl
                      have hcz37_5 : w33.cell? ⟨gb267, 5, none⟩ = some (.int .i64 a0_5) := (blk_cell BK267.out 5).trans rfl
                      have hcz37_6 : w33.cell? ⟨gb267, 6, none⟩ = some (.int .i64 a0_6) := (blk_cell BK267.out 6).trans rfl
                      have hfz37_0 := blk_frozen BK267.out 0
                      have hfz37_1 := blk_frozen BK267.out 1
                      have hfz37_2 := blk_frozen BK267.out 2
                      have hfz37_3 := blk_frozen BK267.out 3
                      have hfz37_4 := blk_frozen BK267.out 4
                      have hfz37_5 := blk_frozen BK267.out 5
                      have hfz37_6 := blk_frozen BK267.out 6
                      go_wp2
                      go_meet
                      case rel => exact ⟨_, (true), (by first | rfl | (simp; done) | (simp [*]; done)), H', ⟨by have := HJ2.out; have := HJ9.out; first | omega | exact Nat.le_refl _⟩, ⟨by (with_reducible repeat (first | apply Kd.V_alloc | apply Kd.V_drewN | apply Kd.V_drew)); exact HO_3.out⟩, ⟨by (with_reducible repeat (first | refine blk_drewN ?_ _ | refine blk_drew ?_ | refine blk_alloc ?_ _)); exact BK267.out⟩, ⟨by repeat (first | (with_reducible first | exact HB.out | apply below_alloc | apply pw_below_drewN | apply below_drew1 | refine below_set ?_ GE267.out) | exact HB.out)⟩⟩
                  · rw [if_neg c36] at H
                    have c36b0 : decide (x268000_9 ≤ a0_4) = false := decide_eq_false c36
                    clear c36
                    by_cases c38 : a0_5 < 0
                    · rw [if_pos c38] at H
                      have c38b0 : decide (a0_5 < 0) = true := decide_eq_true c38
                      clear c38
                      as_aux_lemma =>
                        have H' := Aside0.mk H
                        clear H
                        have hcz39_0 : w33.cell? ⟨gb267, 0, none⟩ = some (.int .i64 x268000_9) := (blk_cell BK267.out 0).trans rfl
                        have hcz39_1 : w33.cell? ⟨gb267, 1, none⟩ = some (.slice A0_1 l0_1.length c0_1) := (blk_cell BK267.out 1).trans rfl
                        have hcz39_2 : w33.cell? ⟨gb267, 2, none⟩ = some (.int .i64 a0_2) := (blk_cell BK267.out 2).trans rfl
                        have hcz39_3 : w33.cell? ⟨gb267, 3, none⟩ = some (.int .i64 a0_3) := (blk_cell BK267.out 3).trans rfl
                        have hcz39_4 : w33.cell? ⟨gb267, 4, none⟩ = some (.int .i64 a0_4) := (blk_cell BK267.out 4).trans rfl
                        have hcz39_5 : w33.cell? ⟨gb267, 5, none⟩ = some (.int .i64 a0_5) := (blk_cell BK267.out 5).trans rfl
                        have hcz39_6 : w33.cell? ⟨gb267, 6, none⟩ = some (.int .i64 a0_6) := (blk_cell BK267.out 6).trans rfl
                        have hfz39_0 := blk_frozen BK267.out 0
                        have hfz39_1 := blk_frozen BK267.out 1
                        have hfz39_2 := blk_frozen BK267.out 2
                        have hfz39_3 := blk_frozen BK267.out 3
                        have hfz39_4 := blk_frozen BK267.out 4
                        have hfz39_5 := blk_frozen BK267.out 5
                        have hfz39_6 := blk_frozen BK267.out 6
                        go_wp2
                        go_meet
                        case rel => exact ⟨_, (true), (by first | rfl | (simp; done) | (simp [*]; done)), H', ⟨by have := HJ2.out; have := HJ9.out; first | omega | exact Nat.le_refl _⟩, ⟨by (with_reducible repeat (first | apply Kd.V_alloc | apply Kd.V_drewN | apply Kd.V_drew)); exact HO_3.out⟩, ⟨by (with_reducible repeat (first | refine blk_drewN ?_ _ | refine blk_drew ?_ | refine blk_alloc ?_ _)); exact BK267.out⟩, ⟨by repeat (first | (with_reducible first | exact HB.out | apply below_alloc | apply pw_below_drewN | apply below_drew1 | refine below_set ?_ GE267.out) | exact HB.out)⟩⟩
                    · rw [if_neg c38] at H
                      have c38b0 : decide (a0_5 < 0) = false := decide_eq_false c38
                      clear c38
                      by_cases c40 : a0_5 > a0_6
                      · rw [if_pos c40] at H
                        have c40b0 : decide (a0_6 < a0_5) = true := decide_eq_true c40
                        clear c40
                        as_aux_lemma =>
                          have H' := Aside0.mk H
                          clear H
                          have hcz41_0 : w33.cell? ⟨gb267, 0, none⟩ = some (.int .i64 x268000_9) := (blk_cell BK267.out 0).trans rfl
                          have hcz41_1 : w33.cell? ⟨gb267, 1, none⟩ = some (.slice A0_1 l0_1.length c0_1) := (blk_cell BK267.out 1).trans rfl
                          have hcz41_2 : w33.cell? ⟨gb267, 2, none⟩ = some (.int .i64 a0_2) := (blk_cell BK267.out 2).trans rfl
                          have hcz41_3 : w33.cell? ⟨gb267, 3, none⟩ = some (.int .i64 a0_3) := (blk_cell BK267.out 3).trans rfl
                          have hcz41_4 : w33.cell? ⟨gb267, 4, none⟩ = some (.int .i64 a0_4) := (blk_cell BK267.out 4).trans rfl
                          have hcz41_5 : w33.cell? ⟨gb267, 5, none⟩ = some (.int .i64 a0_5) := (blk_cell BK267.out 5).trans rfl
                          have hcz41_6 : w33.cell? ⟨gb267, 6, none⟩ = some (.int .i64 a0_6) := (blk_cell BK267.out 6).trans rfl
                          have hfz41_0 := blk_frozen BK267.out 0
                          have hfz41_1 := blk_frozen BK267.out 1
                          have hfz41_2 := blk_frozen BK267.out 2
                          have hfz41_3 := blk_frozen BK267.out 3
                          have hfz41_4 := blk_frozen BK267.out 4
                          have hfz41_5 := blk_frozen BK267.out 5
                          have hfz41_6 := blk_frozen BK267.out 6
                          go_wp2
                          go_meet
                          case rel => exact ⟨_, (true), (by first | rfl | (simp; done) | (simp [*]; done)), H', ⟨by have := HJ2.out; have := HJ9.out; first | omega | exact Nat.le_refl _⟩, ⟨by (with_reducible repeat (first | apply Kd.V_alloc | apply Kd.V_drewN | apply Kd.V_drew)); exact HO_3.out⟩, ⟨by (with_reducible repeat (first | refine blk_drewN ?_ _ | refine blk_drew ?_ | refine blk_alloc ?_ _)); exact BK267.out⟩, ⟨by repeat (first | (with_reducible first | exact HB.out | apply below_alloc | apply pw_below_drewN | apply below_drew1 | refine below_set ?_ GE267.out) | exact HB.out)⟩⟩
                      · rw [if_neg c40] at H
                        have c40b0 : decide (a0_6 < a0_5) = false := decide_eq_false c40
                        clear c40
                        as_aux_lemma =>
                          have H' := Aside0.mk H
                          clear H
                          have hcz42_0 : w33.cell? ⟨gb267, 0, none⟩ = some (.int .i64 x268000_9) := (blk_cell BK267.out 0).trans rfl
                          have hcz42_1 : w33.cell? ⟨gb267, 1, none⟩ = some (.slice A0_1 l0_1.length c0_1) := (blk_cell BK267.out 1).trans rfl
                          have hcz42_2 : w33.cell? ⟨gb267, 2, none⟩ = some (.int .i64 a0_2) := (blk_cell BK267.out 2).trans rfl
                          have hcz42_3 : w33.cell? ⟨gb267, 3, none⟩ = some (.int .i64 a0_3) := (blk_cell BK267.out 3).trans rfl
                          have hcz42_4 : w33.cell? ⟨gb267, 4, none⟩ = some (.int .i64 a0_4) := (blk_cell BK267.out 4).trans rfl
                          have hcz42_5 : w33.cell? ⟨gb267, 5, none⟩ = some (.int .i64 a0_5) := (blk_cell BK267.out 5).trans rfl
                          have hcz42_6 : w33.cell? ⟨gb267, 6, none⟩ = some (.int .i64 a0_6) := (blk_cell BK267.out 6).trans rfl
                          have hfz42_0 := blk_frozen BK267.out 0
                          have hfz42_1 := blk_frozen BK267.out 1
                          have hfz42_2 := blk_frozen BK267.out 2
                          have hfz42_3 := blk_frozen BK267.out 3
                          have hfz42_4 := blk_frozen BK267.out 4
                          have hfz42_5 := blk_frozen BK267.out 5
                          have hfz42_6 := blk_frozen BK267.out 6
                          go_wp2
                          go_meet
                          case rel => exact ⟨_, (decide (a0_6 > (t268.length : Int))), (by first | rfl | (simp; done) | (simp [*]; done)), H', ⟨by have := HJ2.out; have := HJ9.out; first | omega | exact Nat.le_refl _⟩, ⟨by (with_reducible repeat (first | apply Kd.V_alloc | apply Kd.V_drewN | apply Kd.V_drew)); exact HO_3.out⟩, ⟨by (with_reducible repeat (first | refine blk_drewN ?_ _ | refine blk_drew ?_ | refine blk_alloc ?_ _)); exact BK267.out⟩, ⟨by repeat (first | (with_reducible first | exact HB.out | apply below_alloc | apply pw_below_drewN | apply below_drew1 | refine below_set ?_ GE267.out) | exact HB.out)⟩⟩
              case rest =>
                clear HC21
                try clear c1
                try clear c2
                try clear p2
                try clear c3
                try clear c4
                try clear c7
                try clear c7b0
                try clear c8
                try clear c11
                try clear c18
                try clear c18b0
                try clear c18b1
                try clear c18b2
                try clear c19
                try clear c20
                try clear c21
                try clear c22
                try clear c23
                try clear c34
                try clear c34b0
                try clear c36
                try clear c36b0
                try clear c38
                try clear c38b0
                try clear c40
                try clear c40b0
                try clear hcz12_0
                try clear hcz12_1
                try clear hcz12_2
                try clear hcz12_3
                try clear hcz12_4
                try clear hcz12_5
                try clear hcz12_6
                try clear hcz22_0
                try clear hcz22_1
                try clear hcz22_2
                try clear hcz22_3
                try clear hcz22_4
                try clear hcz22_5
                try clear hcz22_6
                try clear hcz25_0
                try clear hcz25_1
                try clear hcz25_2
                try clear hcz25_3
                try clear hcz25_4
                try clear hcz25_5
                try clear hcz25_6
                try clear hcz27_0
                try clear hcz27_1
                try clear hcz27_2
                try clear hcz27_3
                try clear hcz27_4
                try clear hcz27_5
                try clear hcz27_6
                try clear hcz32_0
                try clear hcz32_1
                try clear hcz32_2
                try clear hcz32_3
                try clear hcz32_4
                try clear hcz32_5
                try clear hcz32_6
                try clear hcz35_0
                try clear hcz35_1
                try clear hcz35_2
                try clear hcz35_3
                try clear hcz35_4
                try clear hcz35_5
                try clear hcz35_6
                try clear hcz37_0
                try clear hcz37_1
                try clear hcz37_2
                try clear hcz37_3
                try clear hcz37_4
                try clear hcz37_5
                try clear hcz37_6
                try clear hcz39_0
                try clear hcz39_1
                try clear hcz39_2
                try clear hcz39_3
                try clear hcz39_4
                try clear hcz39_5
                try clear hcz39_6
                try clear hcz41_0
                try clear hcz41_1
                try clear hcz41_2
                try clear hcz41_3
                try clear hcz41_4
                try clear hcz41_5
                try clear hcz41_6
                try clear hcz42_0
                try clear hcz42_1
                try clear hcz42_2
                try clear hcz42_3
                try clear hcz42_4
                try clear hcz42_5
                try clear hcz42_6
                try clear hcz5_0
                try clear hcz5_1
                try clear hcz5_2
                try clear hcz5_3
                try clear hcz5_4
                try clear hcz5_5
                try clear hcz5_6
                try clear hcz8_0
                try clear hcz8_1
                try clear hcz8_2
                try clear hcz8_3
                try clear hcz8_4
                try clear hcz8_5
                try clear hcz8_6
                try clear hcz9_0
                try clear hcz9_1
                try clear hcz9_2
                try clear hcz9_3
                try clear hcz9_4
                try clear hcz9_5
                try clear hcz9_6
                try clear hfz12_0
                try clear hfz12_1
                try clear hfz12_2
                try clear hfz12_3
                try clear hfz12_4
                try clear hfz12_5
                try clear hfz12_6
                try clear hfz22_0
                try clear hfz22_1
                try clear hfz22_2
                try clear hfz22_3
                try clear hfz22_4
                try clear hfz22_5
                try clear hfz22_6
                try clear hfz25_0
                try clear hfz25_1
                try clear hfz25_2
                try clear hfz25_3
                try clear hfz25_4
                try clear hfz25_5
                try clear hfz25_6
                try clear hfz27_0
                try clear hfz27_1
                try clear hfz27_2
                try clear hfz27_3
                try clear hfz27_4
                try clear hfz27_5
                try clear hfz27_6
                try clear hfz32_0
                try clear hfz32_1
                try clear hfz32_2
                try clear hfz32_3
                try clear hfz32_4
                try clear hfz32_5
                try clear hfz32_6
                try clear hfz35_0
                try clear hfz35_1
                try clear hfz35_2
                try clear hfz35_3
                try clear hfz35_4
                try clear hfz35_5
                try clear hfz35_6
                try clear hfz37_0
                try clear hfz37_1
                try clear hfz37_2
                try clear hfz37_3
                try clear hfz37_4
                try clear hfz37_5
                try clear hfz37_6
                try clear hfz39_0
                try clear hfz39_1
                try clear hfz39_2
                try clear hfz39_3
                try clear hfz39_4
                try clear hfz39_5
                try clear hfz39_6
                try clear hfz41_0
                try clear hfz41_1
                try clear hfz41_2
                try clear hfz41_3
                try clear hfz41_4
                try clear hfz41_5
                try clear hfz41_6
                try clear hfz42_0
                try clear hfz42_1
                try clear hfz42_2
                try clear hfz42_3
                try clear hfz42_4
                try clear hfz42_5
                try clear hfz42_6
                try clear hfz5_0
                try clear hfz5_1
                try clear hfz5_2
                try clear hfz5_3
                try clear hfz5_4
                try clear hfz5_5
                try clear hfz5_6
                try clear hfz8_0
                try clear hfz8_1
                try clear hfz8_2
                try clear hfz8_3
                try clear hfz8_4
                try clear hfz8_5
                try clear hfz8_6
                try clear hfz9_0
                try clear hfz9_1
                try clear hfz9_2
                try clear hfz9_3
                try clear hfz9_4
                try clear hfz9_5
                try clear hfz9_6
                try clear p2
                obtain ⟨kq, x127_20, rfl, HA, HJ20, HO_3, BK267, HB⟩ := hcut
                cases kq with
                | zero => exact absurd HA.out (by simp [tattlelaw04_ClockTells.j2])
                | succ kj20 =>
                  have H := HA.out
                  clear HA
                  simp only [tattlelaw04_ClockTells.j2] at H
                  have HC43 := Aside0.mk H
                  clear H
                  go_upto_if 127 with (fail)
                  go_cut [] (fun wc => ∃ (kq : Nat), Aside0 (tattlelaw04_ClockTells.j3 kq t268 t273 t274 t275 t276 x268000_9 l0_1 a0_2 a0_3 a0_4 a0_5 a0_6 = some r) ∧ Aside0 (kq ≤ kj20) ∧ Aside0 (Kd.V k87 87 wc w.heap.size (fun k_ => k_ ≠ gb267) (.slice Ao23 t268.length co23) t268) ∧ Aside0 (wc.heap[gb267]? = some (.cells #[.int .i64 x268000_9, (.slice A0_1 l0_1.length c0_1), .int .i64 a0_2, .int .i64 a0_3, .int .i64 a0_4, .int .i64 a0_5, .int .i64 a0_6] 31 (0, 0))) ∧ Aside0 (Below w.heap.size w wc))
                  case first =>
                    have H := HC43.out
                    clear HC43
                    by_cases c44 : x127_20 = true
                    · subst c44
                      have H1 : (if t271 = 0 then (if t272 = 1 then (tattlelaw04_ClockTells.j3 kj20 t268 t273 t274 t275 t276 x268000_9 l0_1 a0_2 a0_3 a0_4 a0_5 a0_6) else (some false)) else (some false)) = some r := by rw [if_pos rfl] at H; exact H
                      clear H
                      have H := H1
                      clear H1
                      by_cases c45 : t271 = 0
                      · rw [if_pos c45] at H
                        have c45b0 : (t271 == 0) = true := beq_iff_eq.mpr c45
                        have c45b1 : (t271 != 0) = false := bne_eq_false_iff_eq.mpr c45
                        clear c45
                        (first | rw [c45b0] | (simp only [i64_w, i32_w]; rw [c45b0]) | skip)
                        by_cases c46 : t272 = 1
                        · rw [if_pos c46] at H
                          have c46b0 : (t272 == 1) = true := beq_iff_eq.mpr c46
                          have c46b1 : (t272 != 1) = false := bne_eq_false_iff_eq.mpr c46
                          clear c46
                          as_aux_lemma =>
                            have H' := Aside0.mk H
                            clear H
                            go_wp2
                            go_meet
                            case rel => exact ⟨_, H', ⟨by have := HJ2.out; have := HJ9.out; have := HJ20.out; first | omega | exact Nat.le_refl _⟩, ⟨by (with_reducible repeat (first | apply Kd.V_alloc | apply Kd.V_drewN | apply Kd.V_drew)); exact HO_3.out⟩, ⟨by (with_reducible repeat (first | refine blk_drewN ?_ _ | refine blk_drew ?_ | refine blk_alloc ?_ _)); exact BK267.out⟩, ⟨by repeat (first | (with_reducible first | exact HB.out | apply below_alloc | apply pw_below_drewN | apply below_drew1 | refine below_set ?_ GE267.out) | exact HB.out)⟩⟩
                        · rw [if_neg c46] at H
                          have c46b0 : (t272 == 1) = false := beq_eq_false_iff_ne.mpr c46
                          have c46b1 : (t272 != 1) = true := bne_iff_ne.mpr c46
                          as_aux_lemma =>
                            exact absurd ((Option.some.inj H).trans hrt.out) (by decide)
                      · rw [if_neg c45] at H
                        have c45b0 : (t271 == 0) = false := beq_eq_false_iff_ne.mpr c45
                        have c45b1 : (t271 != 0) = true := bne_iff_ne.mpr c45
                        (first | rw [c45b0] | (simp only [i64_w, i32_w]; rw [c45b0]) | skip)
                        as_aux_lemma =>
                          exact absurd ((Option.some.inj H).trans hrt.out) (by decide)
                    · replace c44 := Bool.eq_false_iff.mpr c44
                      subst c44
                      have H1 : ((tattleref04_Ticks.f kj20 t268 a0_4 a0_5 a0_6).bind fun bt281 => (if bt281.2 = true then (if t271 = bt281.1 then (if t272 = 0 then (tattlelaw04_ClockTells.j3 kj20 t268 t273 t274 t275 t276 x268000_9 l0_1 a0_2 a0_3 a0_4 a0_5 a0_6) else (some false)) else (some false)) else (if t271 = 0 then (if t272 = 7 then (tattlelaw04_ClockTells.j3 kj20 t268 t273 t274 t275 t276 x268000_9 l0_1 a0_2 a0_3 a0_4 a0_5 a0_6) else (some false)) else (some false)))) = some r := by rw [if_neg (show ¬ (false = true) by decide)] at H; exact H
                      clear H
                      have H := H1
                      clear H1
                      replace H := Option.bind_eq_some_iff.mp H
                      obtain ⟨⟨t281, t282⟩, A470, H⟩ := H
                      replace H : (if t282 = true then (if t271 = t281 then (if t272 = 0 then (tattlelaw04_ClockTells.j3 kj20 t268 t273 t274 t275 t276 x268000_9 l0_1 a0_2 a0_3 a0_4 a0_5 a0_6) else (some false)) else (some false)) else (if t271 = 0 then (if t272 = 7 then (tattlelaw04_ClockTells.j3 kj20 t268 t273 t274 t275 t276 x268000_9 l0_1 a0_2 a0_3 a0_4 a0_5 a0_6) else (some false)) else (some false))) = some r := H
                      have A47 := Aside0.mk A470
                      clear A470
                      by_cases c48 : t282 = true
                      · subst c48
                        have H1 : (if t271 = t281 then (if t272 = 0 then (tattlelaw04_ClockTells.j3 kj20 t268 t273 t274 t275 t276 x268000_9 l0_1 a0_2 a0_3 a0_4 a0_5 a0_6) else (some false)) else (some false)) = some r := by rw [if_pos rfl] at H; exact H
                        clear H
                        have H := H1
                        clear H1
                        by_cases c49 : t271 = t281
                        · rw [if_pos c49] at H
                          have c49b0 : (t271 == t281) = true := beq_iff_eq.mpr c49
                          have c49b1 : (t271 != t281) = false := bne_eq_false_iff_eq.mpr c49
                          clear c49
                          by_cases c50 : t272 = 0
                          · rw [if_pos c50] at H
                            have c50b0 : (t272 == 0) = true := beq_iff_eq.mpr c50
                            have c50b1 : (t272 != 0) = false := bne_eq_false_iff_eq.mpr c50
                            clear c50
                            as_aux_lemma =>
                              have H' := Aside0.mk H
                              clear H
                              have hcz51_0 : wc.cell? ⟨gb267, 0, none⟩ = some (.int .i64 x268000_9) := (blk_cell BK267.out 0).trans rfl
                              have hcz51_1 : wc.cell? ⟨gb267, 1, none⟩ = some (.slice A0_1 l0_1.length c0_1) := (blk_cell BK267.out 1).trans rfl
                              have hcz51_2 : wc.cell? ⟨gb267, 2, none⟩ = some (.int .i64 a0_2) := (blk_cell BK267.out 2).trans rfl
                              have hcz51_3 : wc.cell? ⟨gb267, 3, none⟩ = some (.int .i64 a0_3) := (blk_cell BK267.out 3).trans rfl
                              have hcz51_4 : wc.cell? ⟨gb267, 4, none⟩ = some (.int .i64 a0_4) := (blk_cell BK267.out 4).trans rfl
                              have hcz51_5 : wc.cell? ⟨gb267, 5, none⟩ = some (.int .i64 a0_5) := (blk_cell BK267.out 5).trans rfl
                              have hcz51_6 : wc.cell? ⟨gb267, 6, none⟩ = some (.int .i64 a0_6) := (blk_cell BK267.out 6).trans rfl
                              have hfz51_0 := blk_frozen BK267.out 0
                              have hfz51_1 := blk_frozen BK267.out 1
                              have hfz51_2 := blk_frozen BK267.out 2
                              have hfz51_3 := blk_frozen BK267.out 3
                              have hfz51_4 := blk_frozen BK267.out 4
                              have hfz51_5 := blk_frozen BK267.out 5
                              have hfz51_6 := blk_frozen BK267.out 6
                              go_wp2_with (first | ((with_reducible refine gate_callee (f := 24) rfl ?_); refine goesL_ (some 142) rfl rfl Try.func24 (by kernel_rfl) rfl #[.slice Ao23 t268.length co23, .int .i64 a0_4, .int .i64 a0_5, .int .i64 a0_6] rfl (by (try simp only [List.map_toArray, List.map_cons, List.map_nil]); first | done | rfl | (simp only [List.length_drop, List.length_take]; rfl)) ?_; (with_reducible refine (tattleref04_Ticks.calls kj20 _ _ t268 a0_4 a0_5 a0_6 t281 true _ ?side1 ?side2 A47.out).mono ?_); (case side1 => repeat (first | exact (Kd.V_reads' HO_3.out).2.2 | (with_reducible refine Kd.C_alloc ?_ _) | (with_reducible refine Kd.C_drewN ?_ _) | (with_reducible refine Kd.C_drew ?_))); (case side2 => exact (Kd.V_reads' HO_3.out).2.1); rintro e w' ⟨rfl, ⟨nd, rfl⟩⟩; refine ⟨_, rfl, ?_⟩))
                              go_meet
                              case rel => exact ⟨_, H', ⟨by have := HJ2.out; have := HJ9.out; have := HJ20.out; first | omega | exact Nat.le_refl _⟩, ⟨by (with_reducible repeat (first | apply Kd.V_alloc | apply Kd.V_drewN | apply Kd.V_drew)); exact HO_3.out⟩, ⟨by (with_reducible repeat (first | refine blk_drewN ?_ _ | refine blk_drew ?_ | refine blk_alloc ?_ _)); exact BK267.out⟩, ⟨by repeat (first | (with_reducible first | exact HB.out | apply below_alloc | apply pw_below_drewN | apply below_drew1 | refine below_set ?_ GE267.out) | exact HB.out)⟩⟩
                          · rw [if_neg c50] at H
                            have c50b0 : (t272 == 0) = false := beq_eq_false_iff_ne.mpr c50
                            have c50b1 : (t272 != 0) = true := bne_iff_ne.mpr c50
                            as_aux_lemma =>
                              exact absurd ((Option.some.inj H).trans hrt.out) (by decide)
                        · rw [if_neg c49] at H
                          have c49b0 : (t271 == t281) = false := beq_eq_false_iff_ne.mpr c49
                          have c49b1 : (t271 != t281) = true := bne_iff_ne.mpr c49
                          as_aux_lemma =>
                            exact absurd ((Option.some.inj H).trans hrt.out) (by decide)
                      · replace c48 := Bool.eq_false_iff.mpr c48
                        subst c48
                        have H1 : (if t271 = 0 then (if t272 = 7 then (tattlelaw04_ClockTells.j3 kj20 t268 t273 t274 t275 t276 x268000_9 l0_1 a0_2 a0_3 a0_4 a0_5 a0_6) else (some false)) else (some false)) = some r := by rw [if_neg (show ¬ (false = true) by decide)] at H; exact H
                        clear H
                        have H := H1
                        clear H1
                        by_cases c52 : t271 = 0
                        · rw [if_pos c52] at H
                          have c52b0 : (t271 == 0) = true := beq_iff_eq.mpr c52
                          have c52b1 : (t271 != 0) = false := bne_eq_false_iff_eq.mpr c52
                          clear c52
                          by_cases c53 : t272 = 7
                          · rw [if_pos c53] at H
                            have c53b0 : (t272 == 7) = true := beq_iff_eq.mpr c53
                            have c53b1 : (t272 != 7) = false := bne_eq_false_iff_eq.mpr c53
                            clear c53
                            as_aux_lemma =>
                              have H' := Aside0.mk H
                              clear H
                              have hcz54_0 : wc.cell? ⟨gb267, 0, none⟩ = some (.int .i64 x268000_9) := (blk_cell BK267.out 0).trans rfl
                              have hcz54_1 : wc.cell? ⟨gb267, 1, none⟩ = some (.slice A0_1 l0_1.length c0_1) := (blk_cell BK267.out 1).trans rfl
                              have hcz54_2 : wc.cell? ⟨gb267, 2, none⟩ = some (.int .i64 a0_2) := (blk_cell BK267.out 2).trans rfl
                              have hcz54_3 : wc.cell? ⟨gb267, 3, none⟩ = some (.int .i64 a0_3) := (blk_cell BK267.out 3).trans rfl
                              have hcz54_4 : wc.cell? ⟨gb267, 4, none⟩ = some (.int .i64 a0_4) := (blk_cell BK267.out 4).trans rfl
                              have hcz54_5 : wc.cell? ⟨gb267, 5, none⟩ = some (.int .i64 a0_5) := (blk_cell BK267.out 5).trans rfl
                              have hcz54_6 : wc.cell? ⟨gb267, 6, none⟩ = some (.int .i64 a0_6) := (blk_cell BK267.out 6).trans rfl
                              have hfz54_0 := blk_frozen BK267.out 0
                              have hfz54_1 := blk_frozen BK267.out 1
                              have hfz54_2 := blk_frozen BK267.out 2
                              have hfz54_3 := blk_frozen BK267.out 3
                              have hfz54_4 := blk_frozen BK267.out 4
                              have hfz54_5 := blk_frozen BK267.out 5
                              have hfz54_6 := blk_frozen BK267.out 6
                              go_wp2_with (first | ((with_reducible refine gate_callee (f := 24) rfl ?_); refine goesL_ (some 142) rfl rfl Try.func24 (by kernel_rfl) rfl #[.slice Ao23 t268.length co23, .int .i64 a0_4, .int .i64 a0_5, .int .i64 a0_6] rfl (by (try simp only [List.map_toArray, List.map_cons, List.map_nil]); first | done | rfl | (simp only [List.length_drop, List.length_take]; rfl)) ?_; (with_reducible refine (tattleref04_Ticks.calls kj20 _ _ t268 a0_4 a0_5 a0_6 t281 false _ ?side1 ?side2 A47.out).mono ?_); (case side1 => repeat (first | exact (Kd.V_reads' HO_3.out).2.2 | (with_reducible refine Kd.C_alloc ?_ _) | (with_reducible refine Kd.C_drewN ?_ _) | (with_reducible refine Kd.C_drew ?_))); (case side2 => exact (Kd.V_reads' HO_3.out).2.1); rintro e w' ⟨rfl, ⟨nd, rfl⟩⟩; refine ⟨_, rfl, ?_⟩))
                              go_meet
                              case rel => exact ⟨_, H', ⟨by have := HJ2.out; have := HJ9.out; have := HJ20.out; first | omega | exact Nat.le_refl _⟩, ⟨by (with_reducible repeat (first | apply Kd.V_alloc | apply Kd.V_drewN | apply Kd.V_drew)); exact HO_3.out⟩, ⟨by (with_reducible repeat (first | refine blk_drewN ?_ _ | refine blk_drew ?_ | refine blk_alloc ?_ _)); exact BK267.out⟩, ⟨by repeat (first | (with_reducible first | exact HB.out | apply below_alloc | apply pw_below_drewN | apply below_drew1 | refine below_set ?_ GE267.out) | exact HB.out)⟩⟩
                          · rw [if_neg c53] at H
                            have c53b0 : (t272 == 7) = false := beq_eq_false_iff_ne.mpr c53
                            have c53b1 : (t272 != 7) = true := bne_iff_ne.mpr c53
                            as_aux_lemma =>
                              exact absurd ((Option.some.inj H).trans hrt.out) (by decide)
                        · rw [if_neg c52] at H
                          have c52b0 : (t271 == 0) = false := beq_eq_false_iff_ne.mpr c52
                          have c52b1 : (t271 != 0) = true := bne_iff_ne.mpr c52
                          as_aux_lemma =>
                            exact absurd ((Option.some.inj H).trans hrt.out) (by decide)
                  case rest =>
                    clear HC43
                    try clear c1
                    try clear c2
                    try clear p2
                    try clear c3
                    try clear c4
                    try clear c5
                    try clear c7
                    try clear c7b0
                    try clear c8
                    try clear c11
                    try clear c18
                    try clear c18b0
                    try clear c18b1
                    try clear c18b2
                    try clear c19
                    try clear c20
                    try clear c21
                    try clear c22
                    try clear c23
                    try clear c24
                    try clear c34
                    try clear c34b0
                    try clear c36
                    try clear c36b0
                    try clear c38
                    try clear c38b0
                    try clear c40
                    try clear c40b0
                    try clear c44
                    try clear c45
                    try clear c45b0
                    try clear c45b1
                    try clear c46
                    try clear c46b0
                    try clear c46b1
                    try clear c48
                    try clear c49
                    try clear c49b0
                    try clear c49b1
                    try clear c50
                    try clear c50b0
                    try clear c50b1
                    try clear c52
                    try clear c52b0
                    try clear c52b1
                    try clear c53
                    try clear c53b0
                    try clear c53b1
                    try clear hcz12_0
                    try clear hcz12_1
                    try clear hcz12_2
                    try clear hcz12_3
                    try clear hcz12_4
                    try clear hcz12_5
                    try clear hcz12_6
                    try clear hcz22_0
                    try clear hcz22_1
                    try clear hcz22_2
                    try clear hcz22_3
                    try clear hcz22_4
                    try clear hcz22_5
                    try clear hcz22_6
                    try clear hcz25_0
                    try clear hcz25_1
                    try clear hcz25_2
                    try clear hcz25_3
                    try clear hcz25_4
                    try clear hcz25_5
                    try clear hcz25_6
                    try clear hcz27_0
                    try clear hcz27_1
                    try clear hcz27_2
                    try clear hcz27_3
                    try clear hcz27_4
                    try clear hcz27_5
                    try clear hcz27_6
                    try clear hcz32_0
                    try clear hcz32_1
                    try clear hcz32_2
                    try clear hcz32_3
                    try clear hcz32_4
                    try clear hcz32_5
                    try clear hcz32_6
                    try clear hcz35_0
                    try clear hcz35_1
                    try clear hcz35_2
                    try clear hcz35_3
                    try clear hcz35_4
                    try clear hcz35_5
                    try clear hcz35_6
                    try clear hcz37_0
                    try clear hcz37_1
                    try clear hcz37_2
                    try clear hcz37_3
                    try clear hcz37_4
                    try clear hcz37_5
                    try clear hcz37_6
                    try clear hcz39_0
                    try clear hcz39_1
                    try clear hcz39_2
                    try clear hcz39_3
                    try clear hcz39_4
                    try clear hcz39_5
                    try clear hcz39_6
                    try clear hcz41_0
                    try clear hcz41_1
                    try clear hcz41_2
                    try clear hcz41_3
                    try clear hcz41_4
                    try clear hcz41_5
                    try clear hcz41_6
                    try clear hcz42_0
                    try clear hcz42_1
                    try clear hcz42_2
                    try clear hcz42_3
                    try clear hcz42_4
                    try clear hcz42_5
                    try clear hcz42_6
                    try clear hcz51_0
                    try clear hcz51_1
                    try clear hcz51_2
                    try clear hcz51_3
                    try clear hcz51_4
                    try clear hcz51_5
                    try clear hcz51_6
                    try clear hcz54_0
                    try clear hcz54_1
                    try clear hcz54_2
                    try clear hcz54_3
                    try clear hcz54_4
                    try clear hcz54_5
                    try clear hcz54_6
                    try clear hcz5_0
                    try clear hcz5_1
                    try clear hcz5_2
                    try clear hcz5_3
                    try clear hcz5_4
                    try clear hcz5_5
                    try clear hcz5_6
                    try clear hcz8_0
                    try clear hcz8_1
                    try clear hcz8_2
                    try clear hcz8_3
                    try clear hcz8_4
                    try clear hcz8_5
                    try clear hcz8_6
                    try clear hcz9_0
                    try clear hcz9_1
                    try clear hcz9_2
                    try clear hcz9_3
                    try clear hcz9_4
                    try clear hcz9_5
                    try clear hcz9_6
                    try clear hfz12_0
                    try clear hfz12_1
                    try clear hfz12_2
                    try clear hfz12_3
                    try clear hfz12_4
                    try clear hfz12_5
                    try clear hfz12_6
                    try clear hfz22_0
                    try clear hfz22_1
                    try clear hfz22_2
                    try clear hfz22_3
                    try clear hfz22_4
                    try clear hfz22_5
                    try clear hfz22_6
                    try clear hfz25_0
                    try clear hfz25_1
                    try clear hfz25_2
                    try clear hfz25_3
                    try clear hfz25_4
                    try clear hfz25_5
                    try clear hfz25_6
                    try clear hfz27_0
                    try clear hfz27_1
                    try clear hfz27_2
                    try clear hfz27_3
                    try clear hfz27_4
                    try clear hfz27_5
                    try clear hfz27_6
                    try clear hfz32_0
                    try clear hfz32_1
                    try clear hfz32_2
                    try clear hfz32_3
                    try clear hfz32_4
                    try clear hfz32_5
                    try clear hfz32_6
                    try clear hfz35_0
                    try clear hfz35_1
                    try clear hfz35_2
                    try clear hfz35_3
                    try clear hfz35_4
                    try clear hfz35_5
                    try clear hfz35_6
                    try clear hfz37_0
                    try clear hfz37_1
                    try clear hfz37_2
                    try clear hfz37_3
                    try clear hfz37_4
                    try clear hfz37_5
                    try clear hfz37_6
                    try clear hfz39_0
                    try clear hfz39_1
                    try clear hfz39_2
                    try clear hfz39_3
                    try clear hfz39_4
                    try clear hfz39_5
                    try clear hfz39_6
                    try clear hfz41_0
                    try clear hfz41_1
                    try clear hfz41_2
                    try clear hfz41_3
                    try clear hfz41_4
                    try clear hfz41_5
                    try clear hfz41_6
                    try clear hfz42_0
                    try clear hfz42_1
                    try clear hfz42_2
                    try clear hfz42_3
                    try clear hfz42_4
                    try clear hfz42_5
                    try clear hfz42_6
                    try clear hfz51_0
                    try clear hfz51_1
                    try clear hfz51_2
                    try clear hfz51_3
                    try clear hfz51_4
                    try clear hfz51_5
                    try clear hfz51_6
                    try clear hfz54_0
                    try clear hfz54_1
                    try clear hfz54_2
                    try clear hfz54_3
                    try clear hfz54_4
                    try clear hfz54_5
                    try clear hfz54_6
                    try clear hfz5_0
                    try clear hfz5_1
                    try clear hfz5_2
                    try clear hfz5_3
                    try clear hfz5_4
                    try clear hfz5_5
                    try clear hfz5_6
                    try clear hfz8_0
                    try clear hfz8_1
                    try clear hfz8_2
                    try clear hfz8_3
                    try clear hfz8_4
                    try clear hfz8_5
                    try clear hfz8_6
                    try clear hfz9_0
                    try clear hfz9_1
                    try clear hfz9_2
                    try clear hfz9_3
                    try clear hfz9_4
                    try clear hfz9_5
                    try clear hfz9_6
                    try clear p2
                    obtain ⟨kq, HA, HJ42, HO_3, BK267, HB⟩ := hcut
                    cases kq with
                    | zero => exact absurd HA.out (by simp [tattlelaw04_ClockTells.j3])
                    | succ kj42 =>
                      have H := HA.out
                      clear HA
                      simp only [tattlelaw04_ClockTells.j3] at H
                      replace H := Option.bind_eq_some_iff.mp H
                      obtain ⟨t283, A550, H⟩ := H
                      replace H : (if t283 = true then ((tattleref04_Near.f kj42 x268000_9 t268 a0_2 a0_3).bind fun t285 => (if (t273 != t285) = true then (tattlelaw04_ClockTells.j4 kj42 t268 t275 true x268000_9 l0_1 a0_2 a0_3 a0_4 a0_5 a0_6) else (if t274 = 0 then (if t276 = 0 then (if t275 < 0 then (tattlelaw04_ClockTells.j4 kj42 t268 t275 true x268000_9 l0_1 a0_2 a0_3 a0_4 a0_5 a0_6) else (tattlelaw04_ClockTells.j4 kj42 t268 t275 (decide (t275 > (t268.length : Int))) x268000_9 l0_1 a0_2 a0_3 a0_4 a0_5 a0_6)) else (tattlelaw04_ClockTells.j4 kj42 t268 t275 true x268000_9 l0_1 a0_2 a0_3 a0_4 a0_5 a0_6)) else (tattlelaw04_ClockTells.j4 kj42 t268 t275 true x268000_9 l0_1 a0_2 a0_3 a0_4 a0_5 a0_6)))) else (if t273 = true then (some false) else (if t274 = 1 then (if t275 = 0 then (if t276 = 1 then ((tattlelaw04_awakeT.f).bind fun t284 => (some t284)) else (some false)) else (some false)) else (some false)))) = some r := H
                      have A55 := Aside0.mk A550
                      clear A550
                      by_cases c56 : t283 = true
                      · subst c56
                        have H1 : ((tattleref04_Near.f kj42 x268000_9 t268 a0_2 a0_3).bind fun t285 => (if (t273 != t285) = true then (tattlelaw04_ClockTells.j4 kj42 t268 t275 true x268000_9 l0_1 a0_2 a0_3 a0_4 a0_5 a0_6) else (if t274 = 0 then (if t276 = 0 then (if t275 < 0 then (tattlelaw04_ClockTells.j4 kj42 t268 t275 true x268000_9 l0_1 a0_2 a0_3 a0_4 a0_5 a0_6) else (tattlelaw04_ClockTells.j4 kj42 t268 t275 (decide (t275 > (t268.length : Int))) x268000_9 l0_1 a0_2 a0_3 a0_4 a0_5 a0_6)) else (tattlelaw04_ClockTells.j4 kj42 t268 t275 true x268000_9 l0_1 a0_2 a0_3 a0_4 a0_5 a0_6)) else (tattlelaw04_ClockTells.j4 kj42 t268 t275 true x268000_9 l0_1 a0_2 a0_3 a0_4 a0_5 a0_6)))) = some r := by rw [if_pos rfl] at H; exact H
                        clear H
                        have H := H1
                        clear H1
                        have HC57 := Aside0.mk H
                        clear H
                        have hcz58_0 : wc.cell? ⟨gb267, 0, none⟩ = some (.int .i64 x268000_9) := (blk_cell BK267.out 0).trans rfl
                        have hcz58_1 : wc.cell? ⟨gb267, 1, none⟩ = some (.slice A0_1 l0_1.length c0_1) := (blk_cell BK267.out 1).trans rfl
                        have hcz58_2 : wc.cell? ⟨gb267, 2, none⟩ = some (.int .i64 a0_2) := (blk_cell BK267.out 2).trans rfl
                        have hcz58_3 : wc.cell? ⟨gb267, 3, none⟩ = some (.int .i64 a0_3) := (blk_cell BK267.out 3).trans rfl
                        have hcz58_4 : wc.cell? ⟨gb267, 4, none⟩ = some (.int .i64 a0_4) := (blk_cell BK267.out 4).trans rfl
                        have hcz58_5 : wc.cell? ⟨gb267, 5, none⟩ = some (.int .i64 a0_5) := (blk_cell BK267.out 5).trans rfl
                        have hcz58_6 : wc.cell? ⟨gb267, 6, none⟩ = some (.int .i64 a0_6) := (blk_cell BK267.out 6).trans rfl
                        have hfz58_0 := blk_frozen BK267.out 0
                        have hfz58_1 := blk_frozen BK267.out 1
                        have hfz58_2 := blk_frozen BK267.out 2
                        have hfz58_3 := blk_frozen BK267.out 3
                        have hfz58_4 := blk_frozen BK267.out 4
                        have hfz58_5 := blk_frozen BK267.out 5
                        have hfz58_6 := blk_frozen BK267.out 6
                        go_upto_region 19 with (first | ((with_reducible refine gate_callee (f := 15) rfl ?_); refine goesL_ (some 171) rfl rfl Try.func15 (by kernel_rfl) rfl #[.int .i64 a0_2, .int .i64 a0_3] rfl (by (try simp only [List.map_toArray, List.map_cons, List.map_nil]); first | done | rfl | (simp only [List.length_drop, List.length_take]; rfl)) ?_; (with_reducible refine (tattleref04_Bound.calls a0_2 a0_3 true _ A55.out).mono ?_); rintro e w' ⟨rfl, ⟨nd, rfl⟩⟩; refine ⟨_, rfl, ?_⟩))
                        (try simp only [Act.put, List.setIfInBounds_toArray, List.set_cons_zero, List.set_cons_succ])
                        go_cut [217] (fun v217 wc => ∃ (kq : Nat) (x217_56 : Bool), v217 = .bool x217_56 ∧ Aside0 (tattlelaw04_ClockTells.j4 kq t268 t275 x217_56 x268000_9 l0_1 a0_2 a0_3 a0_4 a0_5 a0_6 = some r) ∧ Aside0 (kq ≤ kj42) ∧ Aside0 (Kd.V k87 87 wc w.heap.size (fun k_ => k_ ≠ gb267) (.slice Ao23 t268.length co23) t268) ∧ Aside0 (wc.heap[gb267]? = some (.cells #[.int .i64 x268000_9, (.slice A0_1 l0_1.length c0_1), .int .i64 a0_2, .int .i64 a0_3, .int .i64 a0_4, .int .i64 a0_5, .int .i64 a0_6] 31 (0, 0))) ∧ Aside0 (Below w.heap.size w wc))
                        case first =>
                          have H := HC57.out
                          clear HC57
                          replace H := Option.bind_eq_some_iff.mp H
                          obtain ⟨t285, A590, H⟩ := H
                          replace H : (if (t273 != t285) = true then (tattlelaw04_ClockTells.j4 kj42 t268 t275 true x268000_9 l0_1 a0_2 a0_3 a0_4 a0_5 a0_6) else (if t274 = 0 then (if t276 = 0 then (if t275 < 0 then (tattlelaw04_ClockTells.j4 kj42 t268 t275 true x268000_9 l0_1 a0_2 a0_3 a0_4 a0_5 a0_6) else (tattlelaw04_ClockTells.j4 kj42 t268 t275 (decide (t275 > (t268.length : Int))) x268000_9 l0_1 a0_2 a0_3 a0_4 a0_5 a0_6)) else (tattlelaw04_ClockTells.j4 kj42 t268 t275 true x268000_9 l0_1 a0_2 a0_3 a0_4 a0_5 a0_6)) else (tattlelaw04_ClockTells.j4 kj42 t268 t275 true x268000_9 l0_1 a0_2 a0_3 a0_4 a0_5 a0_6))) = some r := H
                          have A59 := Aside0.mk A590
                          clear A590
                          by_cases c60 : (t273 != t285) = true
                          · rw [if_pos c60] at H
                            have c60b0 : (t273 != t285) = true := c60
                            (try (have c60b1 : decide (t273 = t285) = false := by simpa using c60))
                            (try (have c60b2 : (t273 == t285) = false := by simpa using c60))
                            (try (have c60b3 : ¬ (t273 = t285) := by simpa using c60))
                            clear c60
                            (first | rw [c60b0] | (simp only [i64_w, i32_w]; rw [c60b0]) | skip)
                            as_aux_lemma =>
                              have H' := Aside0.mk H
                              clear H
                              have hcz61_0 : wc.cell? ⟨gb267, 0, none⟩ = some (.int .i64 x268000_9) := (blk_cell BK267.out 0).trans rfl
                              have hcz61_1 : wc.cell? ⟨gb267, 1, none⟩ = some (.slice A0_1 l0_1.length c0_1) := (blk_cell BK267.out 1).trans rfl
                              have hcz61_2 : wc.cell? ⟨gb267, 2, none⟩ = some (.int .i64 a0_2) := (blk_cell BK267.out 2).trans rfl
                              have hcz61_3 : wc.cell? ⟨gb267, 3, none⟩ = some (.int .i64 a0_3) := (blk_cell BK267.out 3).trans rfl
                              have hcz61_4 : wc.cell? ⟨gb267, 4, none⟩ = some (.int .i64 a0_4) := (blk_cell BK267.out 4).trans rfl
                              have hcz61_5 : wc.cell? ⟨gb267, 5, none⟩ = some (.int .i64 a0_5) := (blk_cell BK267.out 5).trans rfl
                              have hcz61_6 : wc.cell? ⟨gb267, 6, none⟩ = some (.int .i64 a0_6) := (blk_cell BK267.out 6).trans rfl
                              have hfz61_0 := blk_frozen BK267.out 0
                              have hfz61_1 := blk_frozen BK267.out 1
                              have hfz61_2 := blk_frozen BK267.out 2
                              have hfz61_3 := blk_frozen BK267.out 3
                              have hfz61_4 := blk_frozen BK267.out 4
                              have hfz61_5 := blk_frozen BK267.out 5
                              have hfz61_6 := blk_frozen BK267.out 6
                              go_wp2_with (first | ((with_reducible refine gate_callee (f := 25) rfl ?_); refine goesL_ (some 198) rfl rfl Try.func25 (by kernel_rfl) rfl #[.int .i64 x268000_9, .slice Ao23 t268.length co23, .int .i64 a0_2, .int .i64 a0_3] rfl (by (try simp only [List.map_toArray, List.map_cons, List.map_nil]); first | done | rfl | (simp only [List.length_drop, List.length_take]; rfl)) ?_; (with_reducible refine (tattleref04_Near.calls kj42 x268000_9 _ _ t268 a0_2 a0_3 t285 _ ?side1 ?side2 A59.out).mono ?_); (case side1 => repeat (first | exact (Kd.V_reads' HO_3.out).2.2 | (with_reducible refine Kd.C_alloc ?_ _) | (with_reducible refine Kd.C_drewN ?_ _) | (with_reducible refine Kd.C_drew ?_))); (case side2 => exact (Kd.V_reads' HO_3.out).2.1); rintro e w' ⟨rfl, ⟨nd, rfl⟩⟩; refine ⟨_, rfl, ?_⟩))
                              go_meet
                              case rel => exact ⟨_, (true), (by first | rfl | (simp; done) | (simp [*]; done)), H', ⟨by have := HJ2.out; have := HJ9.out; have := HJ20.out; have := HJ42.out; first | omega | exact Nat.le_refl _⟩, ⟨by (with_reducible repeat (first | apply Kd.V_alloc | apply Kd.V_drewN | apply Kd.V_drew)); exact HO_3.out⟩, ⟨by (with_reducible repeat (first | refine blk_drewN ?_ _ | refine blk_drew ?_ | refine blk_alloc ?_ _)); exact BK267.out⟩, ⟨by repeat (first | (with_reducible first | exact HB.out | apply below_alloc | apply pw_below_drewN | apply below_drew1 | refine below_set ?_ GE267.out) | exact HB.out)⟩⟩
                          · rw [if_neg c60] at H
                            have c60b0 : (t273 != t285) = false := by simpa using c60
                            (try (have c60b1 : decide (t273 = t285) = true := by simpa using c60))
                            (try (have c60b2 : (t273 == t285) = true := by simpa using c60))
                            clear c60
                            (first | rw [c60b0] | (simp only [i64_w, i32_w]; rw [c60b0]) | skip)
                            by_cases c62 : t274 = 0
                            · rw [if_pos c62] at H
                              have c62b0 : (t274 == 0) = true := beq_iff_eq.mpr c62
                              have c62b1 : (t274 != 0) = false := bne_eq_false_iff_eq.mpr c62
                              clear c62
                              by_cases c63 : t276 = 0
                              · rw [if_pos c63] at H
                                have c63b0 : (t276 == 0) = true := beq_iff_eq.mpr c63
                                have c63b1 : (t276 != 0) = false := bne_eq_false_iff_eq.mpr c63
                                clear c63
                                by_cases c64 : t275 < 0
                                · rw [if_pos c64] at H
                                  have c64b0 : decide (t275 < 0) = true := decide_eq_true c64
                                  clear c64
                                  as_aux_lemma =>
                                    have H' := Aside0.mk H
                                    clear H
                                    have hcz65_0 : wc.cell? ⟨gb267, 0, none⟩ = some (.int .i64 x268000_9) := (blk_cell BK267.out 0).trans rfl
                                    have hcz65_1 : wc.cell? ⟨gb267, 1, none⟩ = some (.slice A0_1 l0_1.length c0_1) := (blk_cell BK267.out 1).trans rfl
                                    have hcz65_2 : wc.cell? ⟨gb267, 2, none⟩ = some (.int .i64 a0_2) := (blk_cell BK267.out 2).trans rfl
                                    have hcz65_3 : wc.cell? ⟨gb267, 3, none⟩ = some (.int .i64 a0_3) := (blk_cell BK267.out 3).trans rfl
                                    have hcz65_4 : wc.cell? ⟨gb267, 4, none⟩ = some (.int .i64 a0_4) := (blk_cell BK267.out 4).trans rfl
                                    have hcz65_5 : wc.cell? ⟨gb267, 5, none⟩ = some (.int .i64 a0_5) := (blk_cell BK267.out 5).trans rfl
                                    have hcz65_6 : wc.cell? ⟨gb267, 6, none⟩ = some (.int .i64 a0_6) := (blk_cell BK267.out 6).trans rfl
                                    have hfz65_0 := blk_frozen BK267.out 0
                                    have hfz65_1 := blk_frozen BK267.out 1
                                    have hfz65_2 := blk_frozen BK267.out 2
                                    have hfz65_3 := blk_frozen BK267.out 3
                                    have hfz65_4 := blk_frozen BK267.out 4
                                    have hfz65_5 := blk_frozen BK267.out 5
                                    have hfz65_6 := blk_frozen BK267.out 6
                                    go_wp2_with (first | ((with_reducible refine gate_callee (f := 25) rfl ?_); refine goesL_ (some 198) rfl rfl Try.func25 (by kernel_rfl) rfl #[.int .i64 x268000_9, .slice Ao23 t268.length co23, .int .i64 a0_2, .int .i64 a0_3] rfl (by (try simp only [List.map_toArray, List.map_cons, List.map_nil]); first | done | rfl | (simp only [List.length_drop, List.length_take]; rfl)) ?_; (with_reducible refine (tattleref04_Near.calls kj42 x268000_9 _ _ t268 a0_2 a0_3 t285 _ ?side1 ?side2 A59.out).mono ?_); (case side1 => repeat (first | exact (Kd.V_reads' HO_3.out).2.2 | (with_reducible refine Kd.C_alloc ?_ _) | (with_reducible refine Kd.C_drewN ?_ _) | (with_reducible refine Kd.C_drew ?_))); (case side2 => exact (Kd.V_reads' HO_3.out).2.1); rintro e w' ⟨rfl, ⟨nd, rfl⟩⟩; refine ⟨_, rfl, ?_⟩))
                                    go_meet
                                    case rel => exact ⟨_, (true), (by first | rfl | (simp; done) | (simp [*]; done)), H', ⟨by have := HJ2.out; have := HJ9.out; have := HJ20.out; have := HJ42.out; first | omega | exact Nat.le_refl _⟩, ⟨by (with_reducible repeat (first | apply Kd.V_alloc | apply Kd.V_drewN | apply Kd.V_drew)); exact HO_3.out⟩, ⟨by (with_reducible repeat (first | refine blk_drewN ?_ _ | refine blk_drew ?_ | refine blk_alloc ?_ _)); exact BK267.out⟩, ⟨by repeat (first | (with_reducible first | exact HB.out | apply below_alloc | apply pw_below_drewN | apply below_drew1 | refine below_set ?_ GE267.out) | exact HB.out)⟩⟩
                                · rw [if_neg c64] at H
                                  have c64b0 : decide (t275 < 0) = false := decide_eq_false c64
                                  clear c64
                                  as_aux_lemma =>
                                    have H' := Aside0.mk H
                                    clear H
                                    have hcz66_0 : wc.cell? ⟨gb267, 0, none⟩ = some (.int .i64 x268000_9) := (blk_cell BK267.out 0).trans rfl
                                    have hcz66_1 : wc.cell? ⟨gb267, 1, none⟩ = some (.slice A0_1 l0_1.length c0_1) := (blk_cell BK267.out 1).trans rfl
                                    have hcz66_2 : wc.cell? ⟨gb267, 2, none⟩ = some (.int .i64 a0_2) := (blk_cell BK267.out 2).trans rfl
                                    have hcz66_3 : wc.cell? ⟨gb267, 3, none⟩ = some (.int .i64 a0_3) := (blk_cell BK267.out 3).trans rfl
                                    have hcz66_4 : wc.cell? ⟨gb267, 4, none⟩ = some (.int .i64 a0_4) := (blk_cell BK267.out 4).trans rfl
                                    have hcz66_5 : wc.cell? ⟨gb267, 5, none⟩ = some (.int .i64 a0_5) := (blk_cell BK267.out 5).trans rfl
                                    have hcz66_6 : wc.cell? ⟨gb267, 6, none⟩ = some (.int .i64 a0_6) := (blk_cell BK267.out 6).trans rfl
                                    have hfz66_0 := blk_frozen BK267.out 0
                                    have hfz66_1 := blk_frozen BK267.out 1
                                    have hfz66_2 := blk_frozen BK267.out 2
                                    have hfz66_3 := blk_frozen BK267.out 3
                                    have hfz66_4 := blk_frozen BK267.out 4
                                    have hfz66_5 := blk_frozen BK267.out 5
                                    have hfz66_6 := blk_frozen BK267.out 6
                                    go_wp2_with (first | ((with_reducible refine gate_callee (f := 25) rfl ?_); refine goesL_ (some 198) rfl rfl Try.func25 (by kernel_rfl) rfl #[.int .i64 x268000_9, .slice Ao23 t268.length co23, .int .i64 a0_2, .int .i64 a0_3] rfl (by (try simp only [List.map_toArray, List.map_cons, List.map_nil]); first | done | rfl | (simp only [List.length_drop, List.length_take]; rfl)) ?_; (with_reducible refine (tattleref04_Near.calls kj42 x268000_9 _ _ t268 a0_2 a0_3 t285 _ ?side1 ?side2 A59.out).mono ?_); (case side1 => repeat (first | exact (Kd.V_reads' HO_3.out).2.2 | (with_reducible refine Kd.C_alloc ?_ _) | (with_reducible refine Kd.C_drewN ?_ _) | (with_reducible refine Kd.C_drew ?_))); (case side2 => exact (Kd.V_reads' HO_3.out).2.1); rintro e w' ⟨rfl, ⟨nd, rfl⟩⟩; refine ⟨_, rfl, ?_⟩))
                                    go_meet
                                    case rel => exact ⟨_, (decide (t275 > (t268.length : Int))), (by first | rfl | (simp; done) | (simp [*]; done)), H', ⟨by have := HJ2.out; have := HJ9.out; have := HJ20.out; have := HJ42.out; first | omega | exact Nat.le_refl _⟩, ⟨by (with_reducible repeat (first | apply Kd.V_alloc | apply Kd.V_drewN | apply Kd.V_drew)); exact HO_3.out⟩, ⟨by (with_reducible repeat (first | refine blk_drewN ?_ _ | refine blk_drew ?_ | refine blk_alloc ?_ _)); exact BK267.out⟩, ⟨by repeat (first | (with_reducible first | exact HB.out | apply below_alloc | apply pw_below_drewN | apply below_drew1 | refine below_set ?_ GE267.out) | exact HB.out)⟩⟩
                              · rw [if_neg c63] at H
                                have c63b0 : (t276 == 0) = false := beq_eq_false_iff_ne.mpr c63
                                have c63b1 : (t276 != 0) = true := bne_iff_ne.mpr c63
                                as_aux_lemma =>
                                  have H' := Aside0.mk H
                                  clear H
                                  have hcz67_0 : wc.cell? ⟨gb267, 0, none⟩ = some (.int .i64 x268000_9) := (blk_cell BK267.out 0).trans rfl
                                  have hcz67_1 : wc.cell? ⟨gb267, 1, none⟩ = some (.slice A0_1 l0_1.length c0_1) := (blk_cell BK267.out 1).trans rfl
                                  have hcz67_2 : wc.cell? ⟨gb267, 2, none⟩ = some (.int .i64 a0_2) := (blk_cell BK267.out 2).trans rfl
                                  have hcz67_3 : wc.cell? ⟨gb267, 3, none⟩ = some (.int .i64 a0_3) := (blk_cell BK267.out 3).trans rfl
                                  have hcz67_4 : wc.cell? ⟨gb267, 4, none⟩ = some (.int .i64 a0_4) := (blk_cell BK267.out 4).trans rfl
                                  have hcz67_5 : wc.cell? ⟨gb267, 5, none⟩ = some (.int .i64 a0_5) := (blk_cell BK267.out 5).trans rfl
                                  have hcz67_6 : wc.cell? ⟨gb267, 6, none⟩ = some (.int .i64 a0_6) := (blk_cell BK267.out 6).trans rfl
                                  have hfz67_0 := blk_frozen BK267.out 0
                                  have hfz67_1 := blk_frozen BK267.out 1
                                  have hfz67_2 := blk_frozen BK267.out 2
                                  have hfz67_3 := blk_frozen BK267.out 3
                                  have hfz67_4 := blk_frozen BK267.out 4
                                  have hfz67_5 := blk_frozen BK267.out 5
                                  have hfz67_6 := blk_frozen BK267.out 6
                                  go_wp2_with (first | ((with_reducible refine gate_callee (f := 25) rfl ?_); refine goesL_ (some 198) rfl rfl Try.func25 (by kernel_rfl) rfl #[.int .i64 x268000_9, .slice Ao23 t268.length co23, .int .i64 a0_2, .int .i64 a0_3] rfl (by (try simp only [List.map_toArray, List.map_cons, List.map_nil]); first | done | rfl | (simp only [List.length_drop, List.length_take]; rfl)) ?_; (with_reducible refine (tattleref04_Near.calls kj42 x268000_9 _ _ t268 a0_2 a0_3 t285 _ ?side1 ?side2 A59.out).mono ?_); (case side1 => repeat (first | exact (Kd.V_reads' HO_3.out).2.2 | (with_reducible refine Kd.C_alloc ?_ _) | (with_reducible refine Kd.C_drewN ?_ _) | (with_reducible refine Kd.C_drew ?_))); (case side2 => exact (Kd.V_reads' HO_3.out).2.1); rintro e w' ⟨rfl, ⟨nd, rfl⟩⟩; refine ⟨_, rfl, ?_⟩))
                                  go_meet
                                  case rel => exact ⟨_, (true), (by first | rfl | (simp; done) | (simp [*]; done)), H', ⟨by have := HJ2.out; have := HJ9.out; have := HJ20.out; have := HJ42.out; first | omega | exact Nat.le_refl _⟩, ⟨by (with_reducible repeat (first | apply Kd.V_alloc | apply Kd.V_drewN | apply Kd.V_drew)); exact HO_3.out⟩, ⟨by (with_reducible repeat (first | refine blk_drewN ?_ _ | refine blk_drew ?_ | refine blk_alloc ?_ _)); exact BK267.out⟩, ⟨by repeat (first | (with_reducible first | exact HB.out | apply below_alloc | apply pw_below_drewN | apply below_drew1 | refine below_set ?_ GE267.out) | exact HB.out)⟩⟩
                            · rw [if_neg c62] at H
                              have c62b0 : (t274 == 0) = false := beq_eq_false_iff_ne.mpr c62
                              have c62b1 : (t274 != 0) = true := bne_iff_ne.mpr c62
                              as_aux_lemma =>
                                have H' := Aside0.mk H
                                clear H
                                have hcz68_0 : wc.cell? ⟨gb267, 0, none⟩ = some (.int .i64 x268000_9) := (blk_cell BK267.out 0).trans rfl
                                have hcz68_1 : wc.cell? ⟨gb267, 1, none⟩ = some (.slice A0_1 l0_1.length c0_1) := (blk_cell BK267.out 1).trans rfl
                                have hcz68_2 : wc.cell? ⟨gb267, 2, none⟩ = some (.int .i64 a0_2) := (blk_cell BK267.out 2).trans rfl
                                have hcz68_3 : wc.cell? ⟨gb267, 3, none⟩ = some (.int .i64 a0_3) := (blk_cell BK267.out 3).trans rfl
                                have hcz68_4 : wc.cell? ⟨gb267, 4, none⟩ = some (.int .i64 a0_4) := (blk_cell BK267.out 4).trans rfl
                                have hcz68_5 : wc.cell? ⟨gb267, 5, none⟩ = some (.int .i64 a0_5) := (blk_cell BK267.out 5).trans rfl
                                have hcz68_6 : wc.cell? ⟨gb267, 6, none⟩ = some (.int .i64 a0_6) := (blk_cell BK267.out 6).trans rfl
                                have hfz68_0 := blk_frozen BK267.out 0
                                have hfz68_1 := blk_frozen BK267.out 1
                                have hfz68_2 := blk_frozen BK267.out 2
                                have hfz68_3 := blk_frozen BK267.out 3
                                have hfz68_4 := blk_frozen BK267.out 4
                                have hfz68_5 := blk_frozen BK267.out 5
                                have hfz68_6 := blk_frozen BK267.out 6
                                go_wp2_with (first | ((with_reducible refine gate_callee (f := 25) rfl ?_); refine goesL_ (some 198) rfl rfl Try.func25 (by kernel_rfl) rfl #[.int .i64 x268000_9, .slice Ao23 t268.length co23, .int .i64 a0_2, .int .i64 a0_3] rfl (by (try simp only [List.map_toArray, List.map_cons, List.map_nil]); first | done | rfl | (simp only [List.length_drop, List.length_take]; rfl)) ?_; (with_reducible refine (tattleref04_Near.calls kj42 x268000_9 _ _ t268 a0_2 a0_3 t285 _ ?side1 ?side2 A59.out).mono ?_); (case side1 => repeat (first | exact (Kd.V_reads' HO_3.out).2.2 | (with_reducible refine Kd.C_alloc ?_ _) | (with_reducible refine Kd.C_drewN ?_ _) | (with_reducible refine Kd.C_drew ?_))); (case side2 => exact (Kd.V_reads' HO_3.out).2.1); rintro e w' ⟨rfl, ⟨nd, rfl⟩⟩; refine ⟨_, rfl, ?_⟩))
                                go_meet
                                case rel => exact ⟨_, (true), (by first | rfl | (simp; done) | (simp [*]; done)), H', ⟨by have := HJ2.out; have := HJ9.out; have := HJ20.out; have := HJ42.out; first | omega | exact Nat.le_refl _⟩, ⟨by (with_reducible repeat (first | apply Kd.V_alloc | apply Kd.V_drewN | apply Kd.V_drew)); exact HO_3.out⟩, ⟨by (with_reducible repeat (first | refine blk_drewN ?_ _ | refine blk_drew ?_ | refine blk_alloc ?_ _)); exact BK267.out⟩, ⟨by repeat (first | (with_reducible first | exact HB.out | apply below_alloc | apply pw_below_drewN | apply below_drew1 | refine below_set ?_ GE267.out) | exact HB.out)⟩⟩
                        case rest =>
                          clear HC57
                          try clear c1
                          try clear c2
                          try clear p2
                          try clear c3
                          try clear c4
                          try clear c5
                          try clear c6
                          try clear c7
                          try clear c7b0
                          try clear c8
                          try clear c11
                          try clear c15
                          try clear c18
                          try clear c18b0
                          try clear c18b1
                          try clear c18b2
                          try clear c19
                          try clear c20
                          try clear c21
                          try clear c22
                          try clear c23
                          try clear c24
                          try clear c25
                          try clear c34
                          try clear c34b0
                          try clear c36
                          try clear c36b0
                          try clear c38
                          try clear c38b0
                          try clear c40
                          try clear c40b0
                          try clear c44
                          try clear c45
                          try clear c45b0
                          try clear c45b1
                          try clear c46
                          try clear c46b0
                          try clear c46b1
                          try clear c48
                          try clear c49
                          try clear c49b0
                          try clear c49b1
                          try clear c50
                          try clear c50b0
                          try clear c50b1
                          try clear c52
                          try clear c52b0
                          try clear c52b1
                          try clear c53
                          try clear c53b0
                          try clear c53b1
                          try clear c56
                          try clear c60
                          try clear c60b0
                          try clear c60b1
                          try clear c60b2
                          try clear c62
                          try clear c62b0
                          try clear c62b1
                          try clear c63
                          try clear c63b0
                          try clear c63b1
                          try clear c64
                          try clear c64b0
                          try clear hcz12_0
                          try clear hcz12_1
                          try clear hcz12_2
                          try clear hcz12_3
                          try clear hcz12_4
                          try clear hcz12_5
                          try clear hcz12_6
                          try clear hcz22_0
                          try clear hcz22_1
                          try clear hcz22_2
                          try clear hcz22_3
                          try clear hcz22_4
                          try clear hcz22_5
                          try clear hcz22_6
                          try clear hcz25_0
                          try clear hcz25_1
                          try clear hcz25_2
                          try clear hcz25_3
                          try clear hcz25_4
                          try clear hcz25_5
                          try clear hcz25_6
                          try clear hcz27_0
                          try clear hcz27_1
                          try clear hcz27_2
                          try clear hcz27_3
                          try clear hcz27_4
                          try clear hcz27_5
                          try clear hcz27_6
                          try clear hcz32_0
                          try clear hcz32_1
                          try clear hcz32_2
                          try clear hcz32_3
                          try clear hcz32_4
                          try clear hcz32_5
                          try clear hcz32_6
                          try clear hcz35_0
                          try clear hcz35_1
                          try clear hcz35_2
                          try clear hcz35_3
                          try clear hcz35_4
                          try clear hcz35_5
                          try clear hcz35_6
                          try clear hcz37_0
                          try clear hcz37_1
                          try clear hcz37_2
                          try clear hcz37_3
                          try clear hcz37_4
                          try clear hcz37_5
                          try clear hcz37_6
                          try clear hcz39_0
                          try clear hcz39_1
                          try clear hcz39_2
                          try clear hcz39_3
                          try clear hcz39_4
                          try clear hcz39_5
                          try clear hcz39_6
                          try clear hcz41_0
                          try clear hcz41_1
                          try clear hcz41_2
                          try clear hcz41_3
                          try clear hcz41_4
                          try clear hcz41_5
                          try clear hcz41_6
                          try clear hcz42_0
                          try clear hcz42_1
                          try clear hcz42_2
                          try clear hcz42_3
                          try clear hcz42_4
                          try clear hcz42_5
                          try clear hcz42_6
                          try clear hcz51_0
                          try clear hcz51_1
                          try clear hcz51_2
                          try clear hcz51_3
                          try clear hcz51_4
                          try clear hcz51_5
                          try clear hcz51_6
                          try clear hcz54_0
                          try clear hcz54_1
                          try clear hcz54_2
                          try clear hcz54_3
                          try clear hcz54_4
                          try clear hcz54_5
                          try clear hcz54_6
                          try clear hcz58_0
                          try clear hcz58_1
                          try clear hcz58_2
                          try clear hcz58_3
                          try clear hcz58_4
                          try clear hcz58_5
                          try clear hcz58_6
                          try clear hcz5_0
                          try clear hcz5_1
                          try clear hcz5_2
                          try clear hcz5_3
                          try clear hcz5_4
                          try clear hcz5_5
                          try clear hcz5_6
                          try clear hcz61_0
                          try clear hcz61_1
                          try clear hcz61_2
                          try clear hcz61_3
                          try clear hcz61_4
                          try clear hcz61_5
                          try clear hcz61_6
                          try clear hcz65_0
                          try clear hcz65_1
                          try clear hcz65_2
                          try clear hcz65_3
                          try clear hcz65_4
                          try clear hcz65_5
                          try clear hcz65_6
                          try clear hcz66_0
                          try clear hcz66_1
                          try clear hcz66_2
                          try clear hcz66_3
                          try clear hcz66_4
                          try clear hcz66_5
                          try clear hcz66_6
                          try clear hcz67_0
                          try clear hcz67_1
                          try clear hcz67_2
                          try clear hcz67_3
                          try clear hcz67_4
                          try clear hcz67_5
                          try clear hcz67_6
                          try clear hcz68_0
                          try clear hcz68_1
                          try clear hcz68_2
                          try clear hcz68_3
                          try clear hcz68_4
                          try clear hcz68_5
                          try clear hcz68_6
                          try clear hcz8_0
                          try clear hcz8_1
                          try clear hcz8_2
                          try clear hcz8_3
                          try clear hcz8_4
                          try clear hcz8_5
                          try clear hcz8_6
                          try clear hcz9_0
                          try clear hcz9_1
                          try clear hcz9_2
                          try clear hcz9_3
                          try clear hcz9_4
                          try clear hcz9_5
                          try clear hcz9_6
                          try clear hfz12_0
                          try clear hfz12_1
                          try clear hfz12_2
                          try clear hfz12_3
                          try clear hfz12_4
                          try clear hfz12_5
                          try clear hfz12_6
                          try clear hfz22_0
                          try clear hfz22_1
                          try clear hfz22_2
                          try clear hfz22_3
                          try clear hfz22_4
                          try clear hfz22_5
                          try clear hfz22_6
                          try clear hfz25_0
                          try clear hfz25_1
                          try clear hfz25_2
                          try clear hfz25_3
                          try clear hfz25_4
                          try clear hfz25_5
                          try clear hfz25_6
                          try clear hfz27_0
                          try clear hfz27_1
                          try clear hfz27_2
                          try clear hfz27_3
                          try clear hfz27_4
                          try clear hfz27_5
                          try clear hfz27_6
                          try clear hfz32_0
                          try clear hfz32_1
                          try clear hfz32_2
                          try clear hfz32_3
                          try clear hfz32_4
                          try clear hfz32_5
                          try clear hfz32_6
                          try clear hfz35_0
                          try clear hfz35_1
                          try clear hfz35_2
                          try clear hfz35_3
                          try clear hfz35_4
                          try clear hfz35_5
                          try clear hfz35_6
                          try clear hfz37_0
                          try clear hfz37_1
                          try clear hfz37_2
                          try clear hfz37_3
                          try clear hfz37_4
                          try clear hfz37_5
                          try clear hfz37_6
                          try clear hfz39_0
                          try clear hfz39_1
                          try clear hfz39_2
                          try clear hfz39_3
                          try clear hfz39_4
                          try clear hfz39_5
                          try clear hfz39_6
                          try clear hfz41_0
                          try clear hfz41_1
                          try clear hfz41_2
                          try clear hfz41_3
                          try clear hfz41_4
                          try clear hfz41_5
                          try clear hfz41_6
                          try clear hfz42_0
                          try clear hfz42_1
                          try clear hfz42_2
                          try clear hfz42_3
                          try clear hfz42_4
                          try clear hfz42_5
                          try clear hfz42_6
                          try clear hfz51_0
                          try clear hfz51_1
                          try clear hfz51_2
                          try clear hfz51_3
                          try clear hfz51_4
                          try clear hfz51_5
                          try clear hfz51_6
                          try clear hfz54_0
                          try clear hfz54_1
                          try clear hfz54_2
                          try clear hfz54_3
                          try clear hfz54_4
                          try clear hfz54_5
                          try clear hfz54_6
                          try clear hfz58_0
                          try clear hfz58_1
                          try clear hfz58_2
                          try clear hfz58_3
                          try clear hfz58_4
                          try clear hfz58_5
                          try clear hfz58_6
                          try clear hfz5_0
                          try clear hfz5_1
                          try clear hfz5_2
                          try clear hfz5_3
                          try clear hfz5_4
                          try clear hfz5_5
                          try clear hfz5_6
                          try clear hfz61_0
                          try clear hfz61_1
                          try clear hfz61_2
                          try clear hfz61_3
                          try clear hfz61_4
                          try clear hfz61_5
                          try clear hfz61_6
                          try clear hfz65_0
                          try clear hfz65_1
                          try clear hfz65_2
                          try clear hfz65_3
                          try clear hfz65_4
                          try clear hfz65_5
                          try clear hfz65_6
                          try clear hfz66_0
                          try clear hfz66_1
                          try clear hfz66_2
                          try clear hfz66_3
                          try clear hfz66_4
                          try clear hfz66_5
                          try clear hfz66_6
                          try clear hfz67_0
                          try clear hfz67_1
                          try clear hfz67_2
                          try clear hfz67_3
                          try clear hfz67_4
                          try clear hfz67_5
                          try clear hfz67_6
                          try clear hfz68_0
                          try clear hfz68_1
                          try clear hfz68_2
                          try clear hfz68_3
                          try clear hfz68_4
                          try clear hfz68_5
                          try clear hfz68_6
                          try clear hfz8_0
                          try clear hfz8_1
                          try clear hfz8_2
                          try clear hfz8_3
                          try clear hfz8_4
                          try clear hfz8_5
                          try clear hfz8_6
                          try clear hfz9_0
                          try clear hfz9_1
                          try clear hfz9_2
                          try clear hfz9_3
                          try clear hfz9_4
                          try clear hfz9_5
                          try clear hfz9_6
                          try clear p2
                          obtain ⟨kq, x217_56, rfl, HA, HJ56, HO_3, BK267, HB⟩ := hcut
                          cases kq with
                          | zero => exact absurd HA.out (by simp [tattlelaw04_ClockTells.j4])
                          | succ kj56 =>
                            have H := HA.out
                            clear HA
                            simp only [tattlelaw04_ClockTells.j4] at H
                            by_cases c69 : x217_56 = true
                            · subst c69
                              have H1 : (some false) = some r := by rw [if_pos rfl] at H; exact H
                              clear H
                              have H := H1
                              clear H1
                              as_aux_lemma =>
                                exact absurd ((Option.some.inj H).trans hrt.out) (by decide)
                            · replace c69 := Bool.eq_false_iff.mpr c69
                              subst c69
                              have H1 : (if 0 ≤ t275 then (if t275 ≤ (t268.length : Int) then ((tattleref04_Near.f kj56 x268000_9 (t268.take (t275 : Int).toNat) a0_2 a0_3).bind fun t291 => (if t291 = true then (if t275 = (t268.length : Int) then ((tattlelaw04_awakeT.f).bind fun t292 => (some t292)) else (if 0 ≤ (wrap64 (t275 + 1)) then (if (wrap64 (t275 + 1)) ≤ (t268.length : Int) then ((tattleref04_Near.f kj56 x268000_9 (t268.take ((wrap64 (t275 + 1)) : Int).toNat) a0_2 a0_3).bind fun t298 => (if t298 = true then (some false) else ((tattlelaw04_awakeT.f).bind fun t299 => (some t299)))) else (none)) else (none))) else (some false))) else (none)) else (none)) = some r := by rw [if_neg (show ¬ (false = true) by decide)] at H; exact H
                              clear H
                              have H := H1
                              clear H1
                              by_cases c70 : 0 ≤ t275
                              · rw [if_pos c70] at H
                                have c70b0 := eq_true c70
                                have c70b1 : decide (0 ≤ t275) = true := decide_eq_true c70
                                clear c70
                                by_cases c71 : t275 ≤ (t268.length : Int)
                                · rw [if_pos c71] at H
                                  have c71b0 := eq_true c71
                                  have c71b1 : decide (t275 ≤ (t268.length : Int)) = true := decide_eq_true c71
                                  clear c71
                                  obtain ⟨y286, hy286⟩ : ∃ y_ : List (S87), y_ = (t268.take (t275 : Int).toNat) := ⟨_, rfl⟩
                                  replace H : ((tattleref04_Near.f kj56 x268000_9 y286 a0_2 a0_3).bind fun t291 => (if t291 = true then (if t275 = (t268.length : Int) then ((tattlelaw04_awakeT.f).bind fun t292 => (some t292)) else (if 0 ≤ (wrap64 (t275 + 1)) then (if (wrap64 (t275 + 1)) ≤ (t268.length : Int) then ((tattleref04_Near.f kj56 x268000_9 (t268.take ((wrap64 (t275 + 1)) : Int).toNat) a0_2 a0_3).bind fun t298 => (if t298 = true then (some false) else ((tattlelaw04_awakeT.f).bind fun t299 => (some t299)))) else (none)) else (none))) else (some false))) = some r := by first | (rw [hy286]; with_reducible exact H) | (have H2_ := (Option.bind_some _ _).symm.trans H; rw [hy286]; with_reducible exact H2_) | (have H2_ := (Option.bind_some _ _).symm.trans H; with_reducible exact H2_) | with_reducible exact H | (rw [hy286]; exact H) | exact H
                                  have Ny286 := Aside0.mk hy286
                                  clear hy286
                                  replace H := Option.bind_eq_some_iff.mp H
                                  obtain ⟨t291, A720, H⟩ := H
                                  replace H : (if t291 = true then (if t275 = (t268.length : Int) then ((tattlelaw04_awakeT.f).bind fun t292 => (some t292)) else (if 0 ≤ (wrap64 (t275 + 1)) then (if (wrap64 (t275 + 1)) ≤ (t268.length : Int) then ((tattleref04_Near.f kj56 x268000_9 (t268.take ((wrap64 (t275 + 1)) : Int).toNat) a0_2 a0_3).bind fun t298 => (if t298 = true then (some false) else ((tattlelaw04_awakeT.f).bind fun t299 => (some t299)))) else (none)) else (none))) else (some false)) = some r := H
                                  have A72 := Aside0.mk A720
                                  clear A720
                                  by_cases c73 : t291 = true
                                  · subst c73
                                    have H1 : (if t275 = (t268.length : Int) then ((tattlelaw04_awakeT.f).bind fun t292 => (some t292)) else (if 0 ≤ (wrap64 (t275 + 1)) then (if (wrap64 (t275 + 1)) ≤ (t268.length : Int) then ((tattleref04_Near.f kj56 x268000_9 (t268.take ((wrap64 (t275 + 1)) : Int).toNat) a0_2 a0_3).bind fun t298 => (if t298 = true then (some false) else ((tattlelaw04_awakeT.f).bind fun t299 => (some t299)))) else (none)) else (none))) = some r := by rw [if_pos rfl] at H; exact H
                                    clear H
                                    have H := H1
                                    clear H1
                                    by_cases c74 : t275 = (t268.length : Int)
                                    · rw [if_pos c74] at H
                                      have c74b0 : (t275 == (t268.length : Int)) = true := beq_iff_eq.mpr c74
                                      have c74b1 : (t275 != (t268.length : Int)) = false := bne_eq_false_iff_eq.mpr c74
                                      clear c74
                                      replace H := Option.bind_eq_some_iff.mp H
                                      obtain ⟨t292, A750, H⟩ := H
                                      replace H : (some t292) = some r := H
                                      have A75 := Aside0.mk A750
                                      clear A750
                                      as_aux_lemma =>
                                        obtain rfl := Option.some.inj H
                                        try go_wp2
                                        have n0_ := Aside0.mk (Kd.V_drew HO_3.out)
                                        have n1_ := Aside0.mk (blk_drew BK267.out)
                                        have n2_ := Aside0.mk (below_drew1 HB.out)
                                        clear HO_3
                                        clear BK267
                                        clear HB
                                        have HO_3 := n0_
                                        have BK267 := n1_
                                        have HB := n2_
                                        clear n0_ n1_ n2_
                                        have q77 : (t275 : Int) ≤ ((t268.length : Int) : Int) := of_decide_eq_true (by first | (with_reducible assumption) | assumption)
                                        obtain ⟨i077, hi077, _, hsz77, _⟩ := info_parts info87
                                        have hroom77 : t268.length ≤ co23 := (Kd.V_reads' HO_3.out).2.1
                                        have hC77 : Kd.F k87 _ _ Ao23 t268.length t268 := (Kd.V_at (base := w.heap.size) HO_3.out).2.2
                                        have hcut77 := cut_to (P := Try.prog) 29 87 .i64 Try.underlying29 hi077 Ao23 t268.length co23 t275 (of_decide_eq_true (by first | (with_reducible assumption) | assumption)) q77 hroom77
                                        have hr77 := Kd.F_take (m := (t275 : Int).toNat) hC77 (by omega)
                                        have hy77 : y286.length = (t275 : Int).toNat := (by rw [Ny286.out, List.length_take]; omega)
                                        rw [← Ny286.out] at hr77
                                        rw [← hy77] at hcut77
                                        have HO290 := Aside0.mk (show Kd.V k87 87 _ w.heap.size _ (.slice Ao23 y286.length co23) y286 from Kd.V_mk (by omega) hr77)
                                        have HC290 := Aside0.mk (show y286.length ≤ co23 from by omega)
                                        clear hr77 hC77 hroom77 hi077 hsz77
                                        have KY77 := Aside0.mk hy77
                                        clear hy77
                                        replace q77 := eq_true q77
                                        refine start_ (n := 34) (S := fun w' => w'.cell? ⟨gb267, 0, none⟩ = some (.int .i64 x268000_9) ∧ w'.cell? ⟨gb267, 1, none⟩ = some (.slice A0_1 l0_1.length c0_1) ∧ w'.cell? ⟨gb267, 2, none⟩ = some (.int .i64 a0_2) ∧ w'.cell? ⟨gb267, 3, none⟩ = some (.int .i64 a0_3) ∧ w'.cell? ⟨gb267, 4, none⟩ = some (.int .i64 a0_4) ∧ w'.cell? ⟨gb267, 5, none⟩ = some (.int .i64 a0_5) ∧ w'.cell? ⟨gb267, 6, none⟩ = some (.int .i64 a0_6)) (ds := []) #[false, false, false, false, false, false, false, false, false, false, false, false, false, false, false, false, false, false, false, false, false, false, false, false, false, false, false, false, false, false, false, false, false, false] (by kernel_rfl) rfl rfl ⟨(blk_cell BK267.out 0).trans rfl, (blk_cell BK267.out 1).trans rfl, (blk_cell BK267.out 2).trans rfl, (blk_cell BK267.out 3).trans rfl, (blk_cell BK267.out 4).trans rfl, (blk_cell BK267.out 5).trans rfl, (blk_cell BK267.out 6).trans rfl⟩ (fun hHeld => ?_); refine with_tabW tattlelaw04_ClockTells.tab21 tattlelaw04_ClockTells.bits21 (fun HT_ HW_ => ?_)
                                        generalize wc.drew = w76 at HO_3 BK267 HB HO290 hHeld ⊢
                                        refine pure_ (i := 0) (N := some 218) (v := ?_) (a' := ?_) #[true, false, false, false, false, false, false, false, false, false, false, false, false, false, false, false, false, false, false, false, false, false, false, false, false, false, false, false, false, false, false, false, false, false] rfl rfl (any_of HT_.out (by kernel_rfl)) (fun _ _ _ h => h) (Or.inl ⟨by rfl, ?_⟩) ?_ ?_
                                        rotate_left
                                        · intro w'
                                          go_simp
                                          with_reducible rfl
                                        rotate_left
                                        · simp only [Act.put, List.setIfInBounds_toArray, List.set_cons_zero, List.set_cons_succ, i64_w, i32_w]
                                          rfl
                                        refine pure_ (i := 2) (N := some 220) (v := ?_) (a' := ?_) #[true, false, true, false, false, false, false, false, false, false, false, false, false, false, false, false, false, false, false, false, false, false, false, false, false, false, false, false, false, false, false, false, false, false] rfl rfl (any_of HT_.out (by kernel_rfl)) (fun _ _ _ h => h) (Or.inl ⟨by rfl, ?_⟩) ?_ ?_
                                        rotate_left
                                        · intro w'
                                          go_simp
                                          with_reducible rfl
                                        rotate_left
                                        · simp only [Act.put, List.setIfInBounds_toArray, List.set_cons_zero, List.set_cons_succ, i64_w, i32_w]
                                          rfl
                                        refine pure_ (i := 3) (N := some 221) (v := ?_) (a' := ?_) #[true, false, true, true, false, false, false, false, false, false, false, false, false, false, false, false, false, false, false, false, false, false, false, false, false, false, false, false, false, false, false, false, false, false] rfl rfl (any_of HT_.out (by kernel_rfl)) (fun _ _ _ h => h) (Or.inl ⟨by rfl, ?_⟩) ?_ ?_
                                        rotate_left
                                        · intro w'
                                          go_simp
                                          with_reducible rfl
                                        rotate_left
                                        · simp only [Act.put, List.setIfInBounds_toArray, List.set_cons_zero, List.set_cons_succ, i64_w, i32_w]
                                          rfl
                                        refine pure_ (i := 4) (N := some 222) (v := ?_) (a' := ?_) #[true, false, true, true, true, false, false, false, false, false, false, false, false, false, false, false, false, false, false, false, false, false, false, false, false, false, false, false, false, false, false, false, false, false] rfl rfl (any_of HT_.out (by kernel_rfl)) (fun _ _ _ h => h) (Or.inl ⟨by rfl, ?_⟩) ?_ ?_
                                        rotate_left
                                        · intro w'
                                          go_simp
                                          with_reducible rfl
                                        rotate_left
                                        · simp only [Act.put, List.setIfInBounds_toArray, List.set_cons_zero, List.set_cons_succ, i64_w, i32_w]
                                          rfl
                                        refine pure_ (i := 5) (N := some 223) (v := ?_) (a' := ?_) #[true, false, true, true, true, true, false, false, false, false, false, false, false, false, false, false, false, false, false, false, false, false, false, false, false, false, false, false, false, false, false, false, false, false] rfl rfl (any_of HT_.out (by kernel_rfl)) (fun _ _ _ h => h) (Or.inl ⟨by rfl, ?_⟩) ?_ ?_
                                        rotate_left
                                        · intro w'
                                          go_simp
                                          with_reducible rfl
                                        rotate_left
                                        · simp only [Act.put, List.setIfInBounds_toArray, List.set_cons_zero, List.set_cons_succ, i64_w, i32_w]
                                          rfl
                                        refine pure_ (i := 7) (N := some 225) (v := ?_) (a' := ?_) #[true, false, true, true, true, true, false, true, false, false, false, false, false, false, false, false, false, false, false, false, false, false, false, false, false, false, false, false, false, false, false, false, false, false] rfl rfl (any_of HT_.out (by kernel_rfl)) (fun _ _ _ h => h) (Or.inl ⟨by rfl, ?_⟩) ?_ ?_
                                        rotate_left
                                        · intro w'
                                          go_simp
                                          with_reducible rfl
                                        rotate_left
                                        · simp only [Act.put, List.setIfInBounds_toArray, List.set_cons_zero, List.set_cons_succ, i64_w, i32_w]
                                          rfl
                                        refine take_ (i := 1) (N := some 219) (v := ?_) (a' := ?_) #[true, true, true, true, true, true, false, true, false, false, false, false, false, false, false, false, false, false, false, false, false, false, false, false, false, false, false, false, false, false, false, false, false, false] rfl rfl (take_ofW HT_.out HW_.out (by kernel_rfl)) (fun _ _ _ h => h) (Or.inl ⟨by rfl, ?_⟩) hHeld ?_ ?_
                                        rotate_left
                                        · rintro w' ⟨s0, s1, s2, s3, s4, s5, s6⟩
                                          go_simp
                                          with_reducible rfl
                                        rotate_left
                                        · simp only [Act.put, List.setIfInBounds_toArray, List.set_cons_zero, List.set_cons_succ, i64_w, i32_w]
                                          rfl
                                        refine take_ (i := 6) (N := some 224) (v := ?_) (a' := ?_) #[true, true, true, true, true, true, true, true, false, false, false, false, false, false, false, false, false, false, false, false, false, false, false, false, false, false, false, false, false, false, false, false, false, false] rfl rfl (take_ofW HT_.out HW_.out (by kernel_rfl)) (fun _ _ _ h => h) (Or.inl ⟨by rfl, ?_⟩) hHeld ?_ ?_
                                        rotate_left
                                        · rintro w' ⟨s0, s1, s2, s3, s4, s5, s6⟩
                                          go_simp
                                          with_reducible rfl
                                        rotate_left
                                        · simp only [Act.put, List.setIfInBounds_toArray, List.set_cons_zero, List.set_cons_succ, i64_w, i32_w]
                                          rfl
                                        refine take_ (i := 8) (N := some 226) (v := ?_) (a' := ?_) #[true, true, true, true, true, true, true, true, true, false, false, false, false, false, false, false, false, false, false, false, false, false, false, false, false, false, false, false, false, false, false, false, false, false] rfl rfl (take_ofW HT_.out HW_.out (by kernel_rfl)) (fun _ _ _ h => h) (Or.inl ⟨by rfl, ?_⟩) hHeld ?_ ?_
                                        rotate_left
                                        · rintro w' ⟨s0, s1, s2, s3, s4, s5, s6⟩
                                          go_simp
                                          with_reducible rfl
                                        rotate_left
                                        · simp only [Act.put, List.setIfInBounds_toArray, List.set_cons_zero, List.set_cons_succ, i64_w, i32_w]
                                          rfl
                                        refine one_ (i := 9) (N := some 227) #[true, true, true, true, true, true, true, true, true, true, false, false, false, false, false, false, false, false, false, false, false, false, false, false, false, false, false, false, false, false, false, false, false, false] rfl rfl (one_of HT_.out (by kernel_rfl)) (by decide) (fun K hK => ?_)
                                        refine goes_ Try.func25 (by kernel_rfl) rfl #[.int .i64 x268000_9, .slice Ao23 y286.length co23, .int .i64 a0_2, .int .i64 a0_3] (by rfl) rfl rfl (by (try simp only [List.map_toArray, List.map_cons, List.map_nil]); first | done | rfl | (simp only [List.length_drop, List.length_take]; rfl)) ?_
                                        with_reducible refine (tattleref04_Near.calls kj56 x268000_9 _ _ y286 a0_2 a0_3 true _ ?side1 ?side2 A72.out).mono ?_
                                        (case side1 => repeat (first | exact (Kd.V_reads' HO290.out).2.2 | (with_reducible refine Kd.C_alloc ?_ _) | (with_reducible refine Kd.C_drewN ?_ _) | (with_reducible refine Kd.C_drew ?_)))
                                        (case side2 => exact (Kd.V_reads' HO290.out).2.1)
                                        rintro e w' ⟨rfl, ⟨nd, rfl⟩⟩
                                        refine ⟨_, rfl, ?_⟩
                                        refine hK.out _ _ ⟨(blk_cell BK267.out 0).trans rfl, (blk_cell BK267.out 1).trans rfl, (blk_cell BK267.out 2).trans rfl, (blk_cell BK267.out 3).trans rfl, (blk_cell BK267.out 4).trans rfl, (blk_cell BK267.out 5).trans rfl, (blk_cell BK267.out 6).trans rfl⟩ (fun hHeld => ?_)
                                        clear hK K
                                        refine norm_ (a' := ?_) ?_ ?_
                                        rotate_left
                                        · show Act.put _ (some 227) _ = _
                                          simp only [Act.put, List.setIfInBounds_toArray, List.set_cons_zero, List.set_cons_succ, i64_w, i32_w]
                                          rfl
                                        refine pure_ (i := 10) (N := some 228) (v := ?_) (a' := ?_) #[true, true, true, true, true, true, true, true, true, true, true, false, false, false, false, false, false, false, false, false, false, false, false, false, false, false, false, false, false, false, false, false, false, false] rfl rfl (any_of HT_.out (by kernel_rfl)) (fun _ _ _ h => h) (Or.inl ⟨by rfl, ?_⟩) ?_ ?_
                                        rotate_left
                                        · intro w'
                                          go_simp
                                          with_reducible rfl
                                        rotate_left
                                        · simp only [Act.put, List.setIfInBounds_toArray, List.set_cons_zero, List.set_cons_succ, i64_w, i32_w]
                                          rfl
                                        refine pure_ (i := 11) (N := some 229) (v := ?_) (a' := ?_) #[true, true, true, true, true, true, true, true, true, true, true, true, false, false, false, false, false, false, false, false, false, false, false, false, false, false, false, false, false, false, false, false, false, false] rfl rfl (any_of HT_.out (by kernel_rfl)) (fun _ _ _ h => h) (Or.inl ⟨by rfl, ?_⟩) ?_ ?_
                                        rotate_left
                                        · intro w'
                                          go_simp
                                          with_reducible rfl
                                        rotate_left
                                        · simp only [Act.put, List.setIfInBounds_toArray, List.set_cons_zero, List.set_cons_succ, i64_w, i32_w]
                                          rfl
                                        refine pure_ (i := 12) (N := some 230) (v := ?_) (a' := ?_) #[true, true, true, true, true, true, true, true, true, true, true, true, true, false, false, false, false, false, false, false, false, false, false, false, false, false, false, false, false, false, false, false, false, false] rfl rfl (any_of HT_.out (by kernel_rfl)) (fun _ _ _ h => h) (Or.inl ⟨by rfl, ?_⟩) ?_ ?_
                                        rotate_left
                                        · intro w'
                                          go_simp
                                          with_reducible rfl
                                        rotate_left
                                        · simp only [Act.put, List.setIfInBounds_toArray, List.set_cons_zero, List.set_cons_succ, i64_w, i32_w]
                                          rfl
                                        refine pure_ (i := 13) (N := some 231) (v := ?_) (a' := ?_) #[true, true, true, true, true, true, true, true, true, true, true, true, true, true, false, false, false, false, false, false, false, false, false, false, false, false, false, false, false, false, false, false, false, false] rfl rfl (any_of HT_.out (by kernel_rfl)) (fun _ _ _ h => h) (Or.inl ⟨by rfl, ?_⟩) ?_ ?_
                                        rotate_left
                                        · intro w'
                                          go_simp
                                          with_reducible rfl
                                        rotate_left
                                        · simp only [Act.put, List.setIfInBounds_toArray, List.set_cons_zero, List.set_cons_succ, i64_w, i32_w]
                                          rfl
                                        refine pure_ (i := 14) (N := some 232) (v := ?_) (a' := ?_) #[true, true, true, true, true, true, true, true, true, true, true, true, true, true, true, false, false, false, false, false, false, false, false, false, false, false, false, false, false, false, false, false, false, false] rfl rfl (any_of HT_.out (by kernel_rfl)) (fun _ _ _ h => h) (Or.inl ⟨by rfl, ?_⟩) ?_ ?_
                                        rotate_left
                                        · intro w'
                                          go_simp
                                          with_reducible rfl
                                        rotate_left
                                        · simp only [Act.put, List.setIfInBounds_toArray, List.set_cons_zero, List.set_cons_succ, i64_w, i32_w]
                                          rfl
                                        refine pure_ (i := 15) (N := some 233) (v := ?_) (a' := ?_) #[true, true, true, true, true, true, true, true, true, true, true, true, true, true, true, true, false, false, false, false, false, false, false, false, false, false, false, false, false, false, false, false, false, false] rfl rfl (any_of HT_.out (by kernel_rfl)) (fun _ _ _ h => h) (Or.inl ⟨by rfl, ?_⟩) ?_ ?_
                                        rotate_left
                                        · intro w'
                                          go_simp
                                          with_reducible rfl
                                        rotate_left
                                        · simp only [Act.put, List.setIfInBounds_toArray, List.set_cons_zero, List.set_cons_succ, i64_w, i32_w]
                                          rfl
                                        refine pure_ (i := 16) (N := some 234) (v := undef) (a' := ?_) #[true, true, true, true, true, true, true, true, true, true, true, true, true, true, true, true, true, false, false, false, false, false, false, false, false, false, false, false, false, false, false, false, false, false] rfl rfl (any_of HT_.out (by kernel_rfl)) (fun _ _ _ h => h) (Or.inr ⟨by rfl, rfl⟩) ?_ ?_
                                        rotate_left
                                        · simp only [Act.put, List.setIfInBounds_toArray, List.set_cons_zero, List.set_cons_succ, i64_w, i32_w]
                                          rfl
                                        refine pure_ (i := 17) (N := some 235) (v := undef) (a' := ?_) #[true, true, true, true, true, true, true, true, true, true, true, true, true, true, true, true, true, true, false, false, false, false, false, false, false, false, false, false, false, false, false, false, false, false] rfl rfl (any_of HT_.out (by kernel_rfl)) (fun _ _ _ h => h) (Or.inr ⟨by rfl, rfl⟩) ?_ ?_
                                        rotate_left
                                        · simp only [Act.put, List.setIfInBounds_toArray, List.set_cons_zero, List.set_cons_succ, i64_w, i32_w]
                                          rfl
                                        refine pure_ (i := 18) (N := some 236) (v := undef) (a' := ?_) #[true, true, true, true, true, true, true, true, true, true, true, true, true, true, true, true, true, true, true, false, false, false, false, false, false, false, false, false, false, false, false, false, false, false] rfl rfl (any_of HT_.out (by kernel_rfl)) (fun _ _ _ h => h) (Or.inr ⟨by rfl, rfl⟩) ?_ ?_
                                        rotate_left
                                        · simp only [Act.put, List.setIfInBounds_toArray, List.set_cons_zero, List.set_cons_succ, i64_w, i32_w]
                                          rfl
                                        refine pure_ (i := 19) (N := some 237) (v := undef) (a' := ?_) #[true, true, true, true, true, true, true, true, true, true, true, true, true, true, true, true, true, true, true, true, false, false, false, false, false, false, false, false, false, false, false, false, false, false] rfl rfl (any_of HT_.out (by kernel_rfl)) (fun _ _ _ h => h) (Or.inr ⟨by rfl, rfl⟩) ?_ ?_
                                        rotate_left
                                        · simp only [Act.put, List.setIfInBounds_toArray, List.set_cons_zero, List.set_cons_succ, i64_w, i32_w]
                                          rfl
                                        refine pure_ (i := 20) (N := some 238) (v := undef) (a' := ?_) #[true, true, true, true, true, true, true, true, true, true, true, true, true, true, true, true, true, true, true, true, true, false, false, false, false, false, false, false, false, false, false, false, false, false] rfl rfl (any_of HT_.out (by kernel_rfl)) (fun _ _ _ h => h) (Or.inr ⟨by rfl, rfl⟩) ?_ ?_
                                        rotate_left
                                        · simp only [Act.put, List.setIfInBounds_toArray, List.set_cons_zero, List.set_cons_succ, i64_w, i32_w]
                                          rfl
                                        refine pure_ (i := 21) (N := some 239) (v := undef) (a' := ?_) #[true, true, true, true, true, true, true, true, true, true, true, true, true, true, true, true, true, true, true, true, true, true, false, false, false, false, false, false, false, false, false, false, false, false] rfl rfl (any_of HT_.out (by kernel_rfl)) (fun _ _ _ h => h) (Or.inr ⟨by rfl, rfl⟩) ?_ ?_
                                        rotate_left
                                        · simp only [Act.put, List.setIfInBounds_toArray, List.set_cons_zero, List.set_cons_succ, i64_w, i32_w]
                                          rfl
                                        refine pure_ (i := 22) (N := some 240) (v := undef) (a' := ?_) #[true, true, true, true, true, true, true, true, true, true, true, true, true, true, true, true, true, true, true, true, true, true, true, false, false, false, false, false, false, false, false, false, false, false] rfl rfl (any_of HT_.out (by kernel_rfl)) (fun _ _ _ h => h) (Or.inr ⟨by rfl, rfl⟩) ?_ ?_
                                        rotate_left
                                        · simp only [Act.put, List.setIfInBounds_toArray, List.set_cons_zero, List.set_cons_succ, i64_w, i32_w]
                                          rfl
                                        refine pure_ (i := 23) (N := some 241) (v := undef) (a' := ?_) #[true, true, true, true, true, true, true, true, true, true, true, true, true, true, true, true, true, true, true, true, true, true, true, true, false, false, false, false, false, false, false, false, false, false] rfl rfl (any_of HT_.out (by kernel_rfl)) (fun _ _ _ h => h) (Or.inr ⟨by rfl, rfl⟩) ?_ ?_
                                        rotate_left
                                        · simp only [Act.put, List.setIfInBounds_toArray, List.set_cons_zero, List.set_cons_succ, i64_w, i32_w]
                                          rfl
                                        refine pure_ (i := 24) (N := some 242) (v := undef) (a' := ?_) #[true, true, true, true, true, true, true, true, true, true, true, true, true, true, true, true, true, true, true, true, true, true, true, true, true, false, false, false, false, false, false, false, false, false] rfl rfl (any_of HT_.out (by kernel_rfl)) (fun _ _ _ h => h) (Or.inr ⟨by rfl, rfl⟩) ?_ ?_
                                        rotate_left
                                        · simp only [Act.put, List.setIfInBounds_toArray, List.set_cons_zero, List.set_cons_succ, i64_w, i32_w]
                                          rfl
                                        refine pure_ (i := 25) (N := some 243) (v := undef) (a' := ?_) #[true, true, true, true, true, true, true, true, true, true, true, true, true, true, true, true, true, true, true, true, true, true, true, true, true, true, false, false, false, false, false, false, false, false] rfl rfl (any_of HT_.out (by kernel_rfl)) (fun _ _ _ h => h) (Or.inr ⟨by rfl, rfl⟩) ?_ ?_
                                        rotate_left
                                        · simp only [Act.put, List.setIfInBounds_toArray, List.set_cons_zero, List.set_cons_succ, i64_w, i32_w]
                                          rfl
                                        refine pure_ (i := 26) (N := some 244) (v := undef) (a' := ?_) #[true, true, true, true, true, true, true, true, true, true, true, true, true, true, true, true, true, true, true, true, true, true, true, true, true, true, true, false, false, false, false, false, false, false] rfl rfl (any_of HT_.out (by kernel_rfl)) (fun _ _ _ h => h) (Or.inr ⟨by rfl, rfl⟩) ?_ ?_
                                        rotate_left
                                        · simp only [Act.put, List.setIfInBounds_toArray, List.set_cons_zero, List.set_cons_succ, i64_w, i32_w]
                                          rfl
                                        refine pure_ (i := 27) (N := some 245) (v := undef) (a' := ?_) #[true, true, true, true, true, true, true, true, true, true, true, true, true, true, true, true, true, true, true, true, true, true, true, true, true, true, true, true, false, false, false, false, false, false] rfl rfl (any_of HT_.out (by kernel_rfl)) (fun _ _ _ h => h) (Or.inr ⟨by rfl, rfl⟩) ?_ ?_
                                        rotate_left
                                        · simp only [Act.put, List.setIfInBounds_toArray, List.set_cons_zero, List.set_cons_succ, i64_w, i32_w]
                                          rfl
                                        refine pure_ (i := 28) (N := some 246) (v := ?_) (a' := ?_) #[true, true, true, true, true, true, true, true, true, true, true, true, true, true, true, true, true, true, true, true, true, true, true, true, true, true, true, true, true, false, false, false, false, false] rfl rfl (any_of HT_.out (by kernel_rfl)) (fun _ _ _ h => h) (Or.inl ⟨by rfl, ?_⟩) ?_ ?_
                                        rotate_left
                                        · intro w'
                                          go_simp
                                          with_reducible rfl
                                        rotate_left
                                        · simp only [Act.put, List.setIfInBounds_toArray, List.set_cons_zero, List.set_cons_succ, i64_w, i32_w]
                                          rfl
                                        refine pure_ (i := 29) (N := some 247) (v := ?_) (a' := ?_) #[true, true, true, true, true, true, true, true, true, true, true, true, true, true, true, true, true, true, true, true, true, true, true, true, true, true, true, true, true, true, false, false, false, false] rfl rfl (any_of HT_.out (by kernel_rfl)) (fun _ _ _ h => h) (Or.inl ⟨by rfl, ?_⟩) ?_ ?_
                                        rotate_left
                                        · intro w'
                                          go_simp
                                          with_reducible rfl
                                        rotate_left
                                        · simp only [Act.put, List.setIfInBounds_toArray, List.set_cons_zero, List.set_cons_succ, i64_w, i32_w]
                                          rfl
                                        refine pure_ (i := 30) (N := some 248) (v := ?_) (a' := ?_) #[true, true, true, true, true, true, true, true, true, true, true, true, true, true, true, true, true, true, true, true, true, true, true, true, true, true, true, true, true, true, true, false, false, false] rfl rfl (any_of HT_.out (by kernel_rfl)) (fun _ _ _ h => h) (Or.inl ⟨by rfl, ?_⟩) ?_ ?_
                                        rotate_left
                                        · intro w'
                                          go_simp
                                          with_reducible rfl
                                        rotate_left
                                        · simp only [Act.put, List.setIfInBounds_toArray, List.set_cons_zero, List.set_cons_succ, i64_w, i32_w]
                                          rfl
                                        refine one_ (i := 31) (N := some 249) #[true, true, true, true, true, true, true, true, true, true, true, true, true, true, true, true, true, true, true, true, true, true, true, true, true, true, true, true, true, true, true, true, false, false] rfl rfl (one_of HT_.out (by kernel_rfl)) (by decide) (fun K hK => ?_)
                                        refine goes_ Try.func16 (by kernel_rfl) rfl #[] (by rfl) rfl rfl (by (try simp only [List.map_toArray, List.map_cons, List.map_nil]); first | done | rfl | (simp only [List.length_drop, List.length_take]; rfl)) ?_
                                        with_reducible refine (tattlelaw04_awakeT.calls  t292 _ A75.out).mono ?_
                                        rintro e w78 ⟨rfl, hb⟩
                                        refine ⟨_, rfl, ?_⟩
                                        have n0_ := Aside0.mk (Kd.V_below (by (with_reducible repeat (first | apply Kd.V_alloc | apply Kd.V_drewN | apply Kd.V_drew)); exact HO_3.out) hb)
                                        have n1_ := Aside0.mk (Kd.V_below (by (with_reducible repeat (first | apply Kd.V_alloc | apply Kd.V_drewN | apply Kd.V_drew)); exact HO290.out) hb)
                                        have n2_ := Aside0.mk (blk_below (g := gb267) (o := .cells #[.int .i64 x268000_9, .slice A0_1 l0_1.length c0_1, .int .i64 a0_2, .int .i64 a0_3, .int .i64 a0_4, .int .i64 a0_5, .int .i64 a0_6] 31 (0, 0)) (by (with_reducible repeat (first | refine blk_drewN ?_ _ | refine blk_drew ?_ | refine blk_alloc ?_ _)); exact BK267.out) hb)
                                        have n3_ := Aside0.mk (below_step (by repeat (first | (with_reducible first | exact HB.out | apply below_alloc | apply pw_below_drewN | apply below_drew1 | refine below_set ?_ GE267.out) | exact HB.out)) hb)
                                        clear HO_3
                                        clear HO290
                                        clear BK267
                                        clear HB
                                        have HO_3 := n0_
                                        have HO290 := n1_
                                        have BK267 := n2_
                                        have HB := n3_
                                        clear n0_ n1_ n2_ n3_
                                        (try clear hb)
                                        (try clear hb2)
                                        (try clear hk)
                                        (try clear hi)
                                        refine hK.out _ _ ⟨(blk_cell BK267.out 0).trans rfl, (blk_cell BK267.out 1).trans rfl, (blk_cell BK267.out 2).trans rfl, (blk_cell BK267.out 3).trans rfl, (blk_cell BK267.out 4).trans rfl, (blk_cell BK267.out 5).trans rfl, (blk_cell BK267.out 6).trans rfl⟩ (fun hHeld => ?_)
                                        clear hK K
                                        refine norm_ (a' := ?_) ?_ ?_
                                        rotate_left
                                        · show Act.put _ (some 249) _ = _
                                          simp only [Act.put, List.setIfInBounds_toArray, List.set_cons_zero, List.set_cons_succ, i64_w, i32_w]
                                          rfl
                                        refine pure_ (i := 32) (N := some 250) (v := ?_) (a' := ?_) #[true, true, true, true, true, true, true, true, true, true, true, true, true, true, true, true, true, true, true, true, true, true, true, true, true, true, true, true, true, true, true, true, true, false] rfl rfl (any_of HT_.out (by kernel_rfl)) (fun _ _ _ h => h) (Or.inl ⟨by rfl, ?_⟩) ?_ ?_
                                        rotate_left
                                        · intro w'
                                          go_simp
                                          with_reducible rfl
                                        rotate_left
                                        · simp only [Act.put, List.setIfInBounds_toArray, List.set_cons_zero, List.set_cons_succ, i64_w, i32_w]
                                          rfl
                                        refine pure_ (i := 33) (N := some 2) (v := ?_) (a' := ?_) #[true, true, true, true, true, true, true, true, true, true, true, true, true, true, true, true, true, true, true, true, true, true, true, true, true, true, true, true, true, true, true, true, true, true] rfl rfl (any_of HT_.out (by kernel_rfl)) (fun _ _ _ h => h) (Or.inl ⟨by rfl, ?_⟩) ?_ ?_
                                        rotate_left
                                        · intro w'
                                          go_simp
                                          with_reducible rfl
                                        rotate_left
                                        · simp only [Act.put, List.setIfInBounds_toArray, List.set_cons_zero, List.set_cons_succ, i64_w, i32_w]
                                          rfl
                                        refine done_ (done_of HT_.out (by kernel_rfl)) ?_
                                        try go_wp2
                                        go_ret
                                        exact ⟨by first | rfl | (simp [errW_none, errW_some] <;> rfl) | (simp [*, errW_none, errW_some] <;> rfl), by repeat (first | (with_reducible first | exact HB.out | apply below_alloc | apply pw_below_drewN | apply below_drew1 | refine below_set ?_ GE267.out) | exact HB.out)⟩
                                    · rw [if_neg c74] at H
                                      have c74b0 : (t275 == (t268.length : Int)) = false := beq_eq_false_iff_ne.mpr c74
                                      have c74b1 : (t275 != (t268.length : Int)) = true := bne_iff_ne.mpr c74
                                      obtain ⟨ji79, hji79⟩ : ∃ j_ : Int, (wrap64 (t275 + 1)) = j_ := ⟨_, rfl⟩
                                      replace H : (if 0 ≤ (ji79) then (if (ji79) ≤ (t268.length : Int) then ((tattleref04_Near.f kj56 x268000_9 (t268.take ((ji79) : Int).toNat) a0_2 a0_3).bind fun t298 => (if t298 = true then (some false) else ((tattlelaw04_awakeT.f).bind fun t299 => (some t299)))) else (none)) else (none)) = some r := by first | (rw [hji79] at H; exact H) | (simp only [hji79] at H ⊢; exact H)
                                      (try rw [hji79] at A72)
                                      have hji79w : (IntKind.i64.wrap (t275 + 1)) = ji79 := (i64_w _).trans hji79
                                      by_cases c80 : 0 ≤ (ji79)
                                      · rw [if_pos c80] at H
                                        have c80b0 := eq_true c80
                                        have c80b1 : decide (0 ≤ (ji79)) = true := decide_eq_true c80
                                        clear c80
                                        by_cases c81 : (ji79) ≤ (t268.length : Int)
                                        · rw [if_pos c81] at H
                                          have c81b0 := eq_true c81
                                          have c81b1 : decide ((ji79) ≤ (t268.length : Int)) = true := decide_eq_true c81
                                          clear c81
                                          obtain ⟨y293, hy293⟩ : ∃ y_ : List (S87), y_ = (t268.take ((ji79) : Int).toNat) := ⟨_, rfl⟩
                                          replace H : ((tattleref04_Near.f kj56 x268000_9 y293 a0_2 a0_3).bind fun t298 => (if t298 = true then (some false) else ((tattlelaw04_awakeT.f).bind fun t299 => (some t299)))) = some r := by first | (rw [hy293]; with_reducible exact H) | (have H2_ := (Option.bind_some _ _).symm.trans H; rw [hy293]; with_reducible exact H2_) | (have H2_ := (Option.bind_some _ _).symm.trans H; with_reducible exact H2_) | with_reducible exact H | (rw [hy293]; exact H) | exact H
                                          have Ny293 := Aside0.mk hy293
                                          clear hy293
                                          replace H := Option.bind_eq_some_iff.mp H
                                          obtain ⟨t298, A820, H⟩ := H
                                          replace H : (if t298 = true then (some false) else ((tattlelaw04_awakeT.f).bind fun t299 => (some t299))) = some r := H
                                          have A82 := Aside0.mk A820
                                          clear A820
                                          by_cases c83 : t298 = true
                                          · subst c83
                                            have H1 : (some false) = some r := by rw [if_pos rfl] at H; exact H
                                            clear H
                                            have H := H1
                                            clear H1
                                            as_aux_lemma =>
                                              exact absurd ((Option.some.inj H).trans hrt.out) (by decide)
                                          · replace c83 := Bool.eq_false_iff.mpr c83
                                            subst c83
                                            have H1 : ((tattlelaw04_awakeT.f).bind fun t299 => (some t299)) = some r := by rw [if_neg (show ¬ (false = true) by decide)] at H; exact H
                                            clear H
                                            have H := H1
                                            clear H1
                                            replace H := Option.bind_eq_some_iff.mp H
                                            obtain ⟨t299, A840, H⟩ := H
                                            replace H : (some t299) = some r := H
                                            have A84 := Aside0.mk A840
                                            clear A840
                                            as_aux_lemma =>
                                              obtain rfl := Option.some.inj H
                                              try go_wp2
                                              have n0_ := Aside0.mk (Kd.V_drew HO_3.out)
                                              have n1_ := Aside0.mk (blk_drew BK267.out)
                                              have n2_ := Aside0.mk (below_drew1 HB.out)
                                              clear HO_3
                                              clear BK267
                                              clear HB
                                              have HO_3 := n0_
                                              have BK267 := n1_
                                              have HB := n2_
                                              clear n0_ n1_ n2_
                                              have q86 : (t275 : Int) ≤ ((t268.length : Int) : Int) := of_decide_eq_true (by first | (with_reducible assumption) | assumption)
                                              obtain ⟨i086, hi086, _, hsz86, _⟩ := info_parts info87
                                              have hroom86 : t268.length ≤ co23 := (Kd.V_reads' HO_3.out).2.1
                                              have hC86 : Kd.F k87 _ _ Ao23 t268.length t268 := (Kd.V_at (base := w.heap.size) HO_3.out).2.2
                                              have hcut86 := cut_to (P := Try.prog) 29 87 .i64 Try.underlying29 hi086 Ao23 t268.length co23 t275 (of_decide_eq_true (by first | (with_reducible assumption) | assumption)) q86 hroom86
                                              have hr86 := Kd.F_take (m := (t275 : Int).toNat) hC86 (by omega)
                                              have hy86 : y286.length = (t275 : Int).toNat := (by rw [Ny286.out, List.length_take]; omega)
                                              rw [← Ny286.out] at hr86
                                              rw [← hy86] at hcut86
                                              have HO290 := Aside0.mk (show Kd.V k87 87 _ w.heap.size _ (.slice Ao23 y286.length co23) y286 from Kd.V_mk (by omega) hr86)
                                              have HC290 := Aside0.mk (show y286.length ≤ co23 from by omega)
                                              clear hr86 hC86 hroom86 hi086 hsz86
                                              have KY86 := Aside0.mk hy86
                                              clear hy86
                                              replace q86 := eq_true q86
                                              refine start_ (n := 34) (S := fun w' => w'.cell? ⟨gb267, 0, none⟩ = some (.int .i64 x268000_9) ∧ w'.cell? ⟨gb267, 1, none⟩ = some (.slice A0_1 l0_1.length c0_1) ∧ w'.cell? ⟨gb267, 2, none⟩ = some (.int .i64 a0_2) ∧ w'.cell? ⟨gb267, 3, none⟩ = some (.int .i64 a0_3) ∧ w'.cell? ⟨gb267, 4, none⟩ = some (.int .i64 a0_4) ∧ w'.cell? ⟨gb267, 5, none⟩ = some (.int .i64 a0_5) ∧ w'.cell? ⟨gb267, 6, none⟩ = some (.int .i64 a0_6)) (ds := []) #[false, false, false, false, false, false, false, false, false, false, false, false, false, false, false, false, false, false, false, false, false, false, false, false, false, false, false, false, false, false, false, false, false, false] (by kernel_rfl) rfl rfl ⟨(blk_cell BK267.out 0).trans rfl, (blk_cell BK267.out 1).trans rfl, (blk_cell BK267.out 2).trans rfl, (blk_cell BK267.out 3).trans rfl, (blk_cell BK267.out 4).trans rfl, (blk_cell BK267.out 5).trans rfl, (blk_cell BK267.out 6).trans rfl⟩ (fun hHeld => ?_); refine with_tabW tattlelaw04_ClockTells.tab21 tattlelaw04_ClockTells.bits21 (fun HT_ HW_ => ?_)
                                              generalize wc.drew = w85 at HO_3 BK267 HB HO290 hHeld ⊢
                                              refine pure_ (i := 0) (N := some 218) (v := ?_) (a' := ?_) #[true, false, false, false, false, false, false, false, false, false, false, false, false, false, false, false, false, false, false, false, false, false, false, false, false, false, false, false, false, false, false, false, false, false] rfl rfl (any_of HT_.out (by kernel_rfl)) (fun _ _ _ h => h) (Or.inl ⟨by rfl, ?_⟩) ?_ ?_
                                              rotate_left
                                              · intro w'
                                                go_simp
                                                with_reducible rfl
                                              rotate_left
                                              · simp only [Act.put, List.setIfInBounds_toArray, List.set_cons_zero, List.set_cons_succ, i64_w, i32_w]
                                                rfl
                                              refine pure_ (i := 2) (N := some 220) (v := ?_) (a' := ?_) #[true, false, true, false, false, false, false, false, false, false, false, false, false, false, false, false, false, false, false, false, false, false, false, false, false, false, false, false, false, false, false, false, false, false] rfl rfl (any_of HT_.out (by kernel_rfl)) (fun _ _ _ h => h) (Or.inl ⟨by rfl, ?_⟩) ?_ ?_
                                              rotate_left
                                              · intro w'
                                                go_simp
                                                with_reducible rfl
                                              rotate_left
                                              · simp only [Act.put, List.setIfInBounds_toArray, List.set_cons_zero, List.set_cons_succ, i64_w, i32_w]
                                                rfl
                                              refine pure_ (i := 3) (N := some 221) (v := ?_) (a' := ?_) #[true, false, true, true, false, false, false, false, false, false, false, false, false, false, false, false, false, false, false, false, false, false, false, false, false, false, false, false, false, false, false, false, false, false] rfl rfl (any_of HT_.out (by kernel_rfl)) (fun _ _ _ h => h) (Or.inl ⟨by rfl, ?_⟩) ?_ ?_
                                              rotate_left
                                              · intro w'
                                                go_simp
                                                with_reducible rfl
                                              rotate_left
                                              · simp only [Act.put, List.setIfInBounds_toArray, List.set_cons_zero, List.set_cons_succ, i64_w, i32_w]
                                                rfl
                                              refine pure_ (i := 4) (N := some 222) (v := ?_) (a' := ?_) #[true, false, true, true, true, false, false, false, false, false, false, false, false, false, false, false, false, false, false, false, false, false, false, false, false, false, false, false, false, false, false, false, false, false] rfl rfl (any_of HT_.out (by kernel_rfl)) (fun _ _ _ h => h) (Or.inl ⟨by rfl, ?_⟩) ?_ ?_
                                              rotate_left
                                              · intro w'
                                                go_simp
                                                with_reducible rfl
                                              rotate_left
                                              · simp only [Act.put, List.setIfInBounds_toArray, List.set_cons_zero, List.set_cons_succ, i64_w, i32_w]
                                                rfl
                                              refine pure_ (i := 5) (N := some 223) (v := ?_) (a' := ?_) #[true, false, true, true, true, true, false, false, false, false, false, false, false, false, false, false, false, false, false, false, false, false, false, false, false, false, false, false, false, false, false, false, false, false] rfl rfl (any_of HT_.out (by kernel_rfl)) (fun _ _ _ h => h) (Or.inl ⟨by rfl, ?_⟩) ?_ ?_
                                              rotate_left
                                              · intro w'
                                                go_simp
                                                with_reducible rfl
                                              rotate_left
                                              · simp only [Act.put, List.setIfInBounds_toArray, List.set_cons_zero, List.set_cons_succ, i64_w, i32_w]
                                                rfl
                                              refine pure_ (i := 7) (N := some 225) (v := ?_) (a' := ?_) #[true, false, true, true, true, true, false, true, false, false, false, false, false, false, false, false, false, false, false, false, false, false, false, false, false, false, false, false, false, false, false, false, false, false] rfl rfl (any_of HT_.out (by kernel_rfl)) (fun _ _ _ h => h) (Or.inl ⟨by rfl, ?_⟩) ?_ ?_
                                              rotate_left
                                              · intro w'
                                                go_simp
                                                with_reducible rfl
                                              rotate_left
                                              · simp only [Act.put, List.setIfInBounds_toArray, List.set_cons_zero, List.set_cons_succ, i64_w, i32_w]
                                                rfl
                                              refine take_ (i := 1) (N := some 219) (v := ?_) (a' := ?_) #[true, true, true, true, true, true, false, true, false, false, false, false, false, false, false, false, false, false, false, false, false, false, false, false, false, false, false, false, false, false, false, false, false, false] rfl rfl (take_ofW HT_.out HW_.out (by kernel_rfl)) (fun _ _ _ h => h) (Or.inl ⟨by rfl, ?_⟩) hHeld ?_ ?_
                                              rotate_left
                                              · rintro w' ⟨s0, s1, s2, s3, s4, s5, s6⟩
                                                go_simp
                                                with_reducible rfl
                                              rotate_left
                                              · simp only [Act.put, List.setIfInBounds_toArray, List.set_cons_zero, List.set_cons_succ, i64_w, i32_w]
                                                rfl
                                              refine take_ (i := 6) (N := some 224) (v := ?_) (a' := ?_) #[true, true, true, true, true, true, true, true, false, false, false, false, false, false, false, false, false, false, false, false, false, false, false, false, false, false, false, false, false, false, false, false, false, false] rfl rfl (take_ofW HT_.out HW_.out (by kernel_rfl)) (fun _ _ _ h => h) (Or.inl ⟨by rfl, ?_⟩) hHeld ?_ ?_
                                              rotate_left
                                              · rintro w' ⟨s0, s1, s2, s3, s4, s5, s6⟩
                                                go_simp
                                                with_reducible rfl
                                              rotate_left
                                              · simp only [Act.put, List.setIfInBounds_toArray, List.set_cons_zero, List.set_cons_succ, i64_w, i32_w]
                                                rfl
                                              refine take_ (i := 8) (N := some 226) (v := ?_) (a' := ?_) #[true, true, true, true, true, true, true, true, true, false, false, false, false, false, false, false, false, false, false, false, false, false, false, false, false, false, false, false, false, false, false, false, false, false] rfl rfl (take_ofW HT_.out HW_.out (by kernel_rfl)) (fun _ _ _ h => h) (Or.inl ⟨by rfl, ?_⟩) hHeld ?_ ?_
                                              rotate_left
                                              · rintro w' ⟨s0, s1, s2, s3, s4, s5, s6⟩
                                                go_simp
                                                with_reducible rfl
                                              rotate_left
                                              · simp only [Act.put, List.setIfInBounds_toArray, List.set_cons_zero, List.set_cons_succ, i64_w, i32_w]
                                                rfl
                                              refine one_ (i := 9) (N := some 227) #[true, true, true, true, true, true, true, true, true, true, false, false, false, false, false, false, false, false, false, false, false, false, false, false, false, false, false, false, false, false, false, false, false, false] rfl rfl (one_of HT_.out (by kernel_rfl)) (by decide) (fun K hK => ?_)
                                              refine goes_ Try.func25 (by kernel_rfl) rfl #[.int .i64 x268000_9, .slice Ao23 y286.length co23, .int .i64 a0_2, .int .i64 a0_3] (by rfl) rfl rfl (by (try simp only [List.map_toArray, List.map_cons, List.map_nil]); first | done | rfl | (simp only [List.length_drop, List.length_take]; rfl)) ?_
                                              with_reducible refine (tattleref04_Near.calls kj56 x268000_9 _ _ y286 a0_2 a0_3 true _ ?side1 ?side2 A72.out).mono ?_
                                              (case side1 => repeat (first | exact (Kd.V_reads' HO290.out).2.2 | (with_reducible refine Kd.C_alloc ?_ _) | (with_reducible refine Kd.C_drewN ?_ _) | (with_reducible refine Kd.C_drew ?_)))
                                              (case side2 => exact (Kd.V_reads' HO290.out).2.1)
                                              rintro e w' ⟨rfl, ⟨nd, rfl⟩⟩
                                              refine ⟨_, rfl, ?_⟩
                                              have q87 : ((ji79) : Int) ≤ ((t268.length : Int) : Int) := of_decide_eq_true (by first | (with_reducible assumption) | assumption)
                                              obtain ⟨i087, hi087, _, hsz87, _⟩ := info_parts info87
                                              have hroom87 : t268.length ≤ co23 := (Kd.V_reads' HO_3.out).2.1
                                              have hC87 : Kd.F k87 _ _ Ao23 t268.length t268 := (Kd.V_at (base := w.heap.size) HO_3.out).2.2
                                              have hcut87 := cut_to (P := Try.prog) 29 87 .i64 Try.underlying29 hi087 Ao23 t268.length co23 (ji79) (of_decide_eq_true (by first | (with_reducible assumption) | assumption)) q87 hroom87
                                              have hr87 := Kd.F_take (m := ((ji79) : Int).toNat) hC87 (by omega)
                                              have hy87 : y293.length = ((ji79) : Int).toNat := (by rw [Ny293.out, List.length_take]; omega)
                                              rw [← Ny293.out] at hr87
                                              rw [← hy87] at hcut87
                                              have HO297 := Aside0.mk (show Kd.V k87 87 _ w.heap.size _ (.slice Ao23 y293.length co23) y293 from Kd.V_mk (by omega) hr87)
                                              have HC297 := Aside0.mk (show y293.length ≤ co23 from by omega)
                                              clear hr87 hC87 hroom87 hi087 hsz87
                                              have KY87 := Aside0.mk hy87
                                              clear hy87
                                              replace q87 := eq_true q87
                                              refine hK.out _ _ ⟨(blk_cell BK267.out 0).trans rfl, (blk_cell BK267.out 1).trans rfl, (blk_cell BK267.out 2).trans rfl, (blk_cell BK267.out 3).trans rfl, (blk_cell BK267.out 4).trans rfl, (blk_cell BK267.out 5).trans rfl, (blk_cell BK267.out 6).trans rfl⟩ (fun hHeld => ?_)
                                              clear hK K
                                              refine norm_ (a' := ?_) ?_ ?_
                                              rotate_left
                                              · show Act.put _ (some 227) _ = _
                                                simp only [Act.put, List.setIfInBounds_toArray, List.set_cons_zero, List.set_cons_succ, i64_w, i32_w]
                                                rfl
                                              refine pure_ (i := 10) (N := some 228) (v := ?_) (a' := ?_) #[true, true, true, true, true, true, true, true, true, true, true, false, false, false, false, false, false, false, false, false, false, false, false, false, false, false, false, false, false, false, false, false, false, false] rfl rfl (any_of HT_.out (by kernel_rfl)) (fun _ _ _ h => h) (Or.inl ⟨by rfl, ?_⟩) ?_ ?_
                                              rotate_left
                                              · intro w'
                                                go_simp
                                                with_reducible rfl
                                              rotate_left
                                              · simp only [Act.put, List.setIfInBounds_toArray, List.set_cons_zero, List.set_cons_succ, i64_w, i32_w]
                                                rfl
                                              refine pure_ (i := 11) (N := some 229) (v := ?_) (a' := ?_) #[true, true, true, true, true, true, true, true, true, true, true, true, false, false, false, false, false, false, false, false, false, false, false, false, false, false, false, false, false, false, false, false, false, false] rfl rfl (any_of HT_.out (by kernel_rfl)) (fun _ _ _ h => h) (Or.inl ⟨by rfl, ?_⟩) ?_ ?_
                                              rotate_left
                                              · intro w'
                                                go_simp
                                                with_reducible rfl
                                              rotate_left
                                              · simp only [Act.put, List.setIfInBounds_toArray, List.set_cons_zero, List.set_cons_succ, i64_w, i32_w]
                                                rfl
                                              refine pure_ (i := 12) (N := some 230) (v := ?_) (a' := ?_) #[true, true, true, true, true, true, true, true, true, true, true, true, true, false, false, false, false, false, false, false, false, false, false, false, false, false, false, false, false, false, false, false, false, false] rfl rfl (any_of HT_.out (by kernel_rfl)) (fun _ _ _ h => h) (Or.inl ⟨by rfl, ?_⟩) ?_ ?_
                                              rotate_left
                                              · intro w'
                                                go_simp
                                                with_reducible rfl
                                              rotate_left
                                              · simp only [Act.put, List.setIfInBounds_toArray, List.set_cons_zero, List.set_cons_succ, i64_w, i32_w]
                                                rfl
                                              refine pure_ (i := 13) (N := some 231) (v := ?_) (a' := ?_) #[true, true, true, true, true, true, true, true, true, true, true, true, true, true, false, false, false, false, false, false, false, false, false, false, false, false, false, false, false, false, false, false, false, false] rfl rfl (any_of HT_.out (by kernel_rfl)) (fun _ _ _ h => h) (Or.inl ⟨by rfl, ?_⟩) ?_ ?_
                                              rotate_left
                                              · intro w'
                                                go_simp
                                                with_reducible rfl
                                              rotate_left
                                              · simp only [Act.put, List.setIfInBounds_toArray, List.set_cons_zero, List.set_cons_succ, i64_w, i32_w]
                                                rfl
                                              refine pure_ (i := 14) (N := some 232) (v := ?_) (a' := ?_) #[true, true, true, true, true, true, true, true, true, true, true, true, true, true, true, false, false, false, false, false, false, false, false, false, false, false, false, false, false, false, false, false, false, false] rfl rfl (any_of HT_.out (by kernel_rfl)) (fun _ _ _ h => h) (Or.inl ⟨by rfl, ?_⟩) ?_ ?_
                                              rotate_left
                                              · intro w'
                                                go_simp
                                                with_reducible rfl
                                              rotate_left
                                              · simp only [Act.put, List.setIfInBounds_toArray, List.set_cons_zero, List.set_cons_succ, i64_w, i32_w]
                                                rfl
                                              refine pure_ (i := 15) (N := some 233) (v := ?_) (a' := ?_) #[true, true, true, true, true, true, true, true, true, true, true, true, true, true, true, true, false, false, false, false, false, false, false, false, false, false, false, false, false, false, false, false, false, false] rfl rfl (any_of HT_.out (by kernel_rfl)) (fun _ _ _ h => h) (Or.inl ⟨by rfl, ?_⟩) ?_ ?_
                                              rotate_left
                                              · intro w'
                                                go_simp
                                                with_reducible rfl
                                              rotate_left
                                              · simp only [Act.put, List.setIfInBounds_toArray, List.set_cons_zero, List.set_cons_succ, i64_w, i32_w]
                                                rfl
                                              refine pure_ (i := 16) (N := some 234) (v := ?_) (a' := ?_) #[true, true, true, true, true, true, true, true, true, true, true, true, true, true, true, true, true, false, false, false, false, false, false, false, false, false, false, false, false, false, false, false, false, false] rfl rfl (any_of HT_.out (by kernel_rfl)) (fun _ _ _ h => h) (Or.inl ⟨by rfl, ?_⟩) ?_ ?_
                                              rotate_left
                                              · intro w'
                                                go_simp
                                                with_reducible rfl
                                              rotate_left
                                              · simp only [Act.put, List.setIfInBounds_toArray, List.set_cons_zero, List.set_cons_succ, i64_w, i32_w]
                                                rfl
                                              refine pure_ (i := 18) (N := some 236) (v := ?_) (a' := ?_) #[true, true, true, true, true, true, true, true, true, true, true, true, true, true, true, true, true, false, true, false, false, false, false, false, false, false, false, false, false, false, false, false, false, false] rfl rfl (any_of HT_.out (by kernel_rfl)) (fun _ _ _ h => h) (Or.inl ⟨by rfl, ?_⟩) ?_ ?_
                                              rotate_left
                                              · intro w'
                                                go_simp
                                                with_reducible rfl
                                              rotate_left
                                              · simp only [Act.put, List.setIfInBounds_toArray, List.set_cons_zero, List.set_cons_succ, i64_w, i32_w]
                                                rfl
                                              refine pure_ (i := 19) (N := some 237) (v := ?_) (a' := ?_) #[true, true, true, true, true, true, true, true, true, true, true, true, true, true, true, true, true, false, true, true, false, false, false, false, false, false, false, false, false, false, false, false, false, false] rfl rfl (any_of HT_.out (by kernel_rfl)) (fun _ _ _ h => h) (Or.inl ⟨by rfl, ?_⟩) ?_ ?_
                                              rotate_left
                                              · intro w'
                                                go_simp
                                                with_reducible rfl
                                              rotate_left
                                              · simp only [Act.put, List.setIfInBounds_toArray, List.set_cons_zero, List.set_cons_succ, i64_w, i32_w]
                                                rfl
                                              refine pure_ (i := 20) (N := some 238) (v := ?_) (a' := ?_) #[true, true, true, true, true, true, true, true, true, true, true, true, true, true, true, true, true, false, true, true, true, false, false, false, false, false, false, false, false, false, false, false, false, false] rfl rfl (any_of HT_.out (by kernel_rfl)) (fun _ _ _ h => h) (Or.inl ⟨by rfl, ?_⟩) ?_ ?_
                                              rotate_left
                                              · intro w'
                                                go_simp
                                                with_reducible rfl
                                              rotate_left
                                              · simp only [Act.put, List.setIfInBounds_toArray, List.set_cons_zero, List.set_cons_succ, i64_w, i32_w]
                                                rfl
                                              refine pure_ (i := 21) (N := some 239) (v := ?_) (a' := ?_) #[true, true, true, true, true, true, true, true, true, true, true, true, true, true, true, true, true, false, true, true, true, true, false, false, false, false, false, false, false, false, false, false, false, false] rfl rfl (any_of HT_.out (by kernel_rfl)) (fun _ _ _ h => h) (Or.inl ⟨by rfl, ?_⟩) ?_ ?_
                                              rotate_left
                                              · intro w'
                                                go_simp
                                                with_reducible rfl
                                              rotate_left
                                              · simp only [Act.put, List.setIfInBounds_toArray, List.set_cons_zero, List.set_cons_succ, i64_w, i32_w]
                                                rfl
                                              refine pure_ (i := 22) (N := some 240) (v := ?_) (a' := ?_) #[true, true, true, true, true, true, true, true, true, true, true, true, true, true, true, true, true, false, true, true, true, true, true, false, false, false, false, false, false, false, false, false, false, false] rfl rfl (any_of HT_.out (by kernel_rfl)) (fun _ _ _ h => h) (Or.inl ⟨by rfl, ?_⟩) ?_ ?_
                                              rotate_left
                                              · intro w'
                                                go_simp
                                                with_reducible rfl
                                              rotate_left
                                              · simp only [Act.put, List.setIfInBounds_toArray, List.set_cons_zero, List.set_cons_succ, i64_w, i32_w]
                                                rfl
                                              refine pure_ (i := 24) (N := some 242) (v := ?_) (a' := ?_) #[true, true, true, true, true, true, true, true, true, true, true, true, true, true, true, true, true, false, true, true, true, true, true, false, true, false, false, false, false, false, false, false, false, false] rfl rfl (any_of HT_.out (by kernel_rfl)) (fun _ _ _ h => h) (Or.inl ⟨by rfl, ?_⟩) ?_ ?_
                                              rotate_left
                                              · intro w'
                                                go_simp
                                                with_reducible rfl
                                              rotate_left
                                              · simp only [Act.put, List.setIfInBounds_toArray, List.set_cons_zero, List.set_cons_succ, i64_w, i32_w]
                                                rfl
                                              refine take_ (i := 17) (N := some 235) (v := ?_) (a' := ?_) #[true, true, true, true, true, true, true, true, true, true, true, true, true, true, true, true, true, true, true, true, true, true, true, false, true, false, false, false, false, false, false, false, false, false] rfl rfl (take_ofW HT_.out HW_.out (by kernel_rfl)) (fun _ _ _ h => h) (Or.inl ⟨by rfl, ?_⟩) hHeld ?_ ?_
                                              rotate_left
                                              · rintro w' ⟨s0, s1, s2, s3, s4, s5, s6⟩
                                                go_simp
                                                with_reducible rfl
                                              rotate_left
                                              · simp only [Act.put, List.setIfInBounds_toArray, List.set_cons_zero, List.set_cons_succ, i64_w, i32_w]
                                                rfl
                                              refine take_ (i := 23) (N := some 241) (v := ?_) (a' := ?_) #[true, true, true, true, true, true, true, true, true, true, true, true, true, true, true, true, true, true, true, true, true, true, true, true, true, false, false, false, false, false, false, false, false, false] rfl rfl (take_ofW HT_.out HW_.out (by kernel_rfl)) (fun _ _ _ h => h) (Or.inl ⟨by rfl, ?_⟩) hHeld ?_ ?_
                                              rotate_left
                                              · rintro w' ⟨s0, s1, s2, s3, s4, s5, s6⟩
                                                go_simp
                                                with_reducible rfl
                                              rotate_left
                                              · simp only [Act.put, List.setIfInBounds_toArray, List.set_cons_zero, List.set_cons_succ, i64_w, i32_w]
                                                rfl
                                              refine take_ (i := 25) (N := some 243) (v := ?_) (a' := ?_) #[true, true, true, true, true, true, true, true, true, true, true, true, true, true, true, true, true, true, true, true, true, true, true, true, true, true, false, false, false, false, false, false, false, false] rfl rfl (take_ofW HT_.out HW_.out (by kernel_rfl)) (fun _ _ _ h => h) (Or.inl ⟨by rfl, ?_⟩) hHeld ?_ ?_
                                              rotate_left
                                              · rintro w' ⟨s0, s1, s2, s3, s4, s5, s6⟩
                                                go_simp
                                                with_reducible rfl
                                              rotate_left
                                              · simp only [Act.put, List.setIfInBounds_toArray, List.set_cons_zero, List.set_cons_succ, i64_w, i32_w]
                                                rfl
                                              refine one_ (i := 26) (N := some 244) #[true, true, true, true, true, true, true, true, true, true, true, true, true, true, true, true, true, true, true, true, true, true, true, true, true, true, true, false, false, false, false, false, false, false] rfl rfl (one_of HT_.out (by kernel_rfl)) (by decide) (fun K hK => ?_)
                                              refine goes_ Try.func25 (by kernel_rfl) rfl #[.int .i64 x268000_9, .slice Ao23 y293.length co23, .int .i64 a0_2, .int .i64 a0_3] (by rfl) rfl rfl (by (try simp only [List.map_toArray, List.map_cons, List.map_nil]); first | done | rfl | (simp only [List.length_drop, List.length_take]; rfl)) ?_
                                              with_reducible refine (tattleref04_Near.calls kj56 x268000_9 _ _ y293 a0_2 a0_3 false _ ?side1 ?side2 A82.out).mono ?_
                                              (case side1 => repeat (first | exact (Kd.V_reads' HO297.out).2.2 | (with_reducible refine Kd.C_alloc ?_ _) | (with_reducible refine Kd.C_drewN ?_ _) | (with_reducible refine Kd.C_drew ?_)))
                                              (case side2 => exact (Kd.V_reads' HO297.out).2.1)
                                              rintro e w' ⟨rfl, ⟨nd, rfl⟩⟩
                                              refine ⟨_, rfl, ?_⟩
                                              refine hK.out _ _ ⟨(blk_cell BK267.out 0).trans rfl, (blk_cell BK267.out 1).trans rfl, (blk_cell BK267.out 2).trans rfl, (blk_cell BK267.out 3).trans rfl, (blk_cell BK267.out 4).trans rfl, (blk_cell BK267.out 5).trans rfl, (blk_cell BK267.out 6).trans rfl⟩ (fun hHeld => ?_)
                                              clear hK K
                                              refine norm_ (a' := ?_) ?_ ?_
                                              rotate_left
                                              · show Act.put _ (some 244) _ = _
                                                simp only [Act.put, List.setIfInBounds_toArray, List.set_cons_zero, List.set_cons_succ, i64_w, i32_w]
                                                rfl
                                              refine pure_ (i := 27) (N := some 245) (v := ?_) (a' := ?_) #[true, true, true, true, true, true, true, true, true, true, true, true, true, true, true, true, true, true, true, true, true, true, true, true, true, true, true, true, false, false, false, false, false, false] rfl rfl (any_of HT_.out (by kernel_rfl)) (fun _ _ _ h => h) (Or.inl ⟨by rfl, ?_⟩) ?_ ?_
                                              rotate_left
                                              · intro w'
                                                go_simp
                                                with_reducible rfl
                                              rotate_left
                                              · simp only [Act.put, List.setIfInBounds_toArray, List.set_cons_zero, List.set_cons_succ, i64_w, i32_w]
                                                rfl
                                              refine pure_ (i := 28) (N := some 246) (v := ?_) (a' := ?_) #[true, true, true, true, true, true, true, true, true, true, true, true, true, true, true, true, true, true, true, true, true, true, true, true, true, true, true, true, true, false, false, false, false, false] rfl rfl (any_of HT_.out (by kernel_rfl)) (fun _ _ _ h => h) (Or.inl ⟨by rfl, ?_⟩) ?_ ?_
                                              rotate_left
                                              · intro w'
                                                go_simp
                                                with_reducible rfl
                                              rotate_left
                                              · simp only [Act.put, List.setIfInBounds_toArray, List.set_cons_zero, List.set_cons_succ, i64_w, i32_w]
                                                rfl
                                              refine pure_ (i := 29) (N := some 247) (v := ?_) (a' := ?_) #[true, true, true, true, true, true, true, true, true, true, true, true, true, true, true, true, true, true, true, true, true, true, true, true, true, true, true, true, true, true, false, false, false, false] rfl rfl (any_of HT_.out (by kernel_rfl)) (fun _ _ _ h => h) (Or.inl ⟨by rfl, ?_⟩) ?_ ?_
                                              rotate_left
                                              · intro w'
                                                go_simp
                                                with_reducible rfl
                                              rotate_left
                                              · simp only [Act.put, List.setIfInBounds_toArray, List.set_cons_zero, List.set_cons_succ, i64_w, i32_w]
                                                rfl
                                              refine pure_ (i := 30) (N := some 248) (v := ?_) (a' := ?_) #[true, true, true, true, true, true, true, true, true, true, true, true, true, true, true, true, true, true, true, true, true, true, true, true, true, true, true, true, true, true, true, false, false, false] rfl rfl (any_of HT_.out (by kernel_rfl)) (fun _ _ _ h => h) (Or.inl ⟨by rfl, ?_⟩) ?_ ?_
                                              rotate_left
                                              · intro w'
                                                go_simp
                                                with_reducible rfl
                                              rotate_left
                                              · simp only [Act.put, List.setIfInBounds_toArray, List.set_cons_zero, List.set_cons_succ, i64_w, i32_w]
                                                rfl
                                              refine one_ (i := 31) (N := some 249) #[true, true, true, true, true, true, true, true, true, true, true, true, true, true, true, true, true, true, true, true, true, true, true, true, true, true, true, true, true, true, true, true, false, false] rfl rfl (one_of HT_.out (by kernel_rfl)) (by decide) (fun K hK => ?_)
                                              refine goes_ Try.func16 (by kernel_rfl) rfl #[] (by rfl) rfl rfl (by (try simp only [List.map_toArray, List.map_cons, List.map_nil]); first | done | rfl | (simp only [List.length_drop, List.length_take]; rfl)) ?_
                                              with_reducible refine (tattlelaw04_awakeT.calls  t299 _ A84.out).mono ?_
                                              rintro e w88 ⟨rfl, hb⟩
                                              refine ⟨_, rfl, ?_⟩
                                              have n0_ := Aside0.mk (Kd.V_below (by (with_reducible repeat (first | apply Kd.V_alloc | apply Kd.V_drewN | apply Kd.V_drew)); exact HO_3.out) hb)
                                              have n1_ := Aside0.mk (Kd.V_below (by (with_reducible repeat (first | apply Kd.V_alloc | apply Kd.V_drewN | apply Kd.V_drew)); exact HO290.out) hb)
                                              have n2_ := Aside0.mk (Kd.V_below (by (with_reducible repeat (first | apply Kd.V_alloc | apply Kd.V_drewN | apply Kd.V_drew)); exact HO297.out) hb)
                                              have n3_ := Aside0.mk (blk_below (g := gb267) (o := .cells #[.int .i64 x268000_9, .slice A0_1 l0_1.length c0_1, .int .i64 a0_2, .int .i64 a0_3, .int .i64 a0_4, .int .i64 a0_5, .int .i64 a0_6] 31 (0, 0)) (by (with_reducible repeat (first | refine blk_drewN ?_ _ | refine blk_drew ?_ | refine blk_alloc ?_ _)); exact BK267.out) hb)
                                              have n4_ := Aside0.mk (below_step (by repeat (first | (with_reducible first | exact HB.out | apply below_alloc | apply pw_below_drewN | apply below_drew1 | refine below_set ?_ GE267.out) | exact HB.out)) hb)
                                              clear HO_3
                                              clear HO290
                                              clear HO297
                                              clear BK267
                                              clear HB
                                              have HO_3 := n0_
                                              have HO290 := n1_
                                              have HO297 := n2_
                                              have BK267 := n3_
                                              have HB := n4_
                                              clear n0_ n1_ n2_ n3_ n4_
                                              (try clear hb)
                                              (try clear hb2)
                                              (try clear hk)
                                              (try clear hi)
                                              refine hK.out _ _ ⟨(blk_cell BK267.out 0).trans rfl, (blk_cell BK267.out 1).trans rfl, (blk_cell BK267.out 2).trans rfl, (blk_cell BK267.out 3).trans rfl, (blk_cell BK267.out 4).trans rfl, (blk_cell BK267.out 5).trans rfl, (blk_cell BK267.out 6).trans rfl⟩ (fun hHeld => ?_)
                                              clear hK K
                                              refine norm_ (a' := ?_) ?_ ?_
                                              rotate_left
                                              · show Act.put _ (some 249) _ = _
                                                simp only [Act.put, List.setIfInBounds_toArray, List.set_cons_zero, List.set_cons_succ, i64_w, i32_w]
                                                rfl
                                              refine pure_ (i := 32) (N := some 250) (v := ?_) (a' := ?_) #[true, true, true, true, true, true, true, true, true, true, true, true, true, true, true, true, true, true, true, true, true, true, true, true, true, true, true, true, true, true, true, true, true, false] rfl rfl (any_of HT_.out (by kernel_rfl)) (fun _ _ _ h => h) (Or.inl ⟨by rfl, ?_⟩) ?_ ?_
                                              rotate_left
                                              · intro w'
                                                go_simp
                                                with_reducible rfl
                                              rotate_left
                                              · simp only [Act.put, List.setIfInBounds_toArray, List.set_cons_zero, List.set_cons_succ, i64_w, i32_w]
                                                rfl
                                              refine pure_ (i := 33) (N := some 2) (v := ?_) (a' := ?_) #[true, true, true, true, true, true, true, true, true, true, true, true, true, true, true, true, true, true, true, true, true, true, true, true, true, true, true, true, true, true, true, true, true, true] rfl rfl (any_of HT_.out (by kernel_rfl)) (fun _ _ _ h => h) (Or.inl ⟨by rfl, ?_⟩) ?_ ?_
                                              rotate_left
                                              · intro w'
                                                go_simp
                                                with_reducible rfl
                                              rotate_left
                                              · simp only [Act.put, List.setIfInBounds_toArray, List.set_cons_zero, List.set_cons_succ, i64_w, i32_w]
                                                rfl
                                              refine done_ (done_of HT_.out (by kernel_rfl)) ?_
                                              try go_wp2
                                              go_ret
                                              exact ⟨by first | rfl | (simp [errW_none, errW_some] <;> rfl) | (simp only [← hji79]; first | rfl | (simp [errW_none, errW_some] <;> rfl)) | (simp [*, errW_none, errW_some] <;> rfl), by repeat (first | (with_reducible first | exact HB.out | apply below_alloc | apply pw_below_drewN | apply below_drew1 | refine below_set ?_ GE267.out) | exact HB.out)⟩
                                        · rw [if_neg c81] at H
                                          exact absurd H (by simp)
                                      · rw [if_neg c80] at H
                                        exact absurd H (by simp)
                                  · replace c73 := Bool.eq_false_iff.mpr c73
                                    subst c73
                                    have H1 : (some false) = some r := by rw [if_neg (show ¬ (false = true) by decide)] at H; exact H
                                    clear H
                                    have H := H1
                                    clear H1
                                    as_aux_lemma =>
                                      exact absurd ((Option.some.inj H).trans hrt.out) (by decide)
                                · rw [if_neg c71] at H
                                  exact absurd H (by simp)
                              · rw [if_neg c70] at H
                                exact absurd H (by simp)
                      · replace c56 := Bool.eq_false_iff.mpr c56
                        subst c56
                        have H1 : (if t273 = true then (some false) else (if t274 = 1 then (if t275 = 0 then (if t276 = 1 then ((tattlelaw04_awakeT.f).bind fun t284 => (some t284)) else (some false)) else (some false)) else (some false))) = some r := by rw [if_neg (show ¬ (false = true) by decide)] at H; exact H
                        clear H
                        have H := H1
                        clear H1
                        by_cases c89 : t273 = true
                        · subst c89
                          have H1 : (some false) = some r := by rw [if_pos rfl] at H; exact H
                          clear H
                          have H := H1
                          clear H1
                          as_aux_lemma =>
                            exact absurd ((Option.some.inj H).trans hrt.out) (by decide)
                        · replace c89 := Bool.eq_false_iff.mpr c89
                          subst c89
                          have H1 : (if t274 = 1 then (if t275 = 0 then (if t276 = 1 then ((tattlelaw04_awakeT.f).bind fun t284 => (some t284)) else (some false)) else (some false)) else (some false)) = some r := by rw [if_neg (show ¬ (false = true) by decide)] at H; exact H
                          clear H
                          have H := H1
                          clear H1
                          by_cases c90 : t274 = 1
                          · rw [if_pos c90] at H
                            have c90b0 : (t274 == 1) = true := beq_iff_eq.mpr c90
                            have c90b1 : (t274 != 1) = false := bne_eq_false_iff_eq.mpr c90
                            clear c90
                            by_cases c91 : t275 = 0
                            · rw [if_pos c91] at H
                              have c91b0 : (t275 == 0) = true := beq_iff_eq.mpr c91
                              have c91b1 : (t275 != 0) = false := bne_eq_false_iff_eq.mpr c91
                              clear c91
                              by_cases c92 : t276 = 1
                              · rw [if_pos c92] at H
                                have c92b0 : (t276 == 1) = true := beq_iff_eq.mpr c92
                                have c92b1 : (t276 != 1) = false := bne_eq_false_iff_eq.mpr c92
                                clear c92
                                replace H := Option.bind_eq_some_iff.mp H
                                obtain ⟨t284, A930, H⟩ := H
                                replace H : (some t284) = some r := H
                                have A93 := Aside0.mk A930
                                clear A930
                                as_aux_lemma =>
                                  obtain rfl := Option.some.inj H
                                  have hcz94_0 : wc.cell? ⟨gb267, 0, none⟩ = some (.int .i64 x268000_9) := (blk_cell BK267.out 0).trans rfl
                                  have hcz94_1 : wc.cell? ⟨gb267, 1, none⟩ = some (.slice A0_1 l0_1.length c0_1) := (blk_cell BK267.out 1).trans rfl
                                  have hcz94_2 : wc.cell? ⟨gb267, 2, none⟩ = some (.int .i64 a0_2) := (blk_cell BK267.out 2).trans rfl
                                  have hcz94_3 : wc.cell? ⟨gb267, 3, none⟩ = some (.int .i64 a0_3) := (blk_cell BK267.out 3).trans rfl
                                  have hcz94_4 : wc.cell? ⟨gb267, 4, none⟩ = some (.int .i64 a0_4) := (blk_cell BK267.out 4).trans rfl
                                  have hcz94_5 : wc.cell? ⟨gb267, 5, none⟩ = some (.int .i64 a0_5) := (blk_cell BK267.out 5).trans rfl
                                  have hcz94_6 : wc.cell? ⟨gb267, 6, none⟩ = some (.int .i64 a0_6) := (blk_cell BK267.out 6).trans rfl
                                  have hfz94_0 := blk_frozen BK267.out 0
                                  have hfz94_1 := blk_frozen BK267.out 1
                                  have hfz94_2 := blk_frozen BK267.out 2
                                  have hfz94_3 := blk_frozen BK267.out 3
                                  have hfz94_4 := blk_frozen BK267.out 4
                                  have hfz94_5 := blk_frozen BK267.out 5
                                  have hfz94_6 := blk_frozen BK267.out 6
                                  go_wp2_with (first | ((with_reducible refine gate_callee (f := 15) rfl ?_); refine goesL_ (some 171) rfl rfl Try.func15 (by kernel_rfl) rfl #[.int .i64 a0_2, .int .i64 a0_3] rfl (by (try simp only [List.map_toArray, List.map_cons, List.map_nil]); first | done | rfl | (simp only [List.length_drop, List.length_take]; rfl)) ?_; (with_reducible refine (tattleref04_Bound.calls a0_2 a0_3 false _ A55.out).mono ?_); rintro e w' ⟨rfl, ⟨nd, rfl⟩⟩; refine ⟨_, rfl, ?_⟩) | (go_at_call 16; (with_reducible refine (tattlelaw04_awakeT.calls  t284 _ A93.out).mono ?_); rintro e w95 ⟨rfl, hb⟩; have n0_ := Aside0.mk (blk_below (g := gb267) (o := .cells #[.int .i64 x268000_9, .slice A0_1 l0_1.length c0_1, .int .i64 a0_2, .int .i64 a0_3, .int .i64 a0_4, .int .i64 a0_5, .int .i64 a0_6] 31 (0, 0)) (by (with_reducible repeat (first | refine blk_drewN ?_ _ | refine blk_drew ?_ | refine blk_alloc ?_ _)); exact BK267.out) hb); have n1_ := Aside0.mk (below_step (by repeat (first | (with_reducible first | exact HB.out | apply below_alloc | apply pw_below_drewN | apply below_drew1 | refine below_set ?_ GE267.out) | exact HB.out)) hb); clear BK267; clear HB; have BK267 := n0_; have HB := n1_; clear n0_ n1_; (try clear hb); (try clear hb2); (try clear hk); (try clear hi)))
                                  go_ret
                                  exact ⟨by first | rfl | (simp [errW_none, errW_some] <;> rfl) | (simp [*, errW_none, errW_some] <;> rfl), by repeat (first | (with_reducible first | exact HB.out | apply below_alloc | apply pw_below_drewN | apply below_drew1 | refine below_set ?_ GE267.out) | exact HB.out)⟩
                              · rw [if_neg c92] at H
                                have c92b0 : (t276 == 1) = false := beq_eq_false_iff_ne.mpr c92
                                have c92b1 : (t276 != 1) = true := bne_iff_ne.mpr c92
                                as_aux_lemma =>
                                  exact absurd ((Option.some.inj H).trans hrt.out) (by decide)
                            · rw [if_neg c91] at H
                              have c91b0 : (t275 == 0) = false := beq_eq_false_iff_ne.mpr c91
                              have c91b1 : (t275 != 0) = true := bne_iff_ne.mpr c91
                              as_aux_lemma =>
                                exact absurd ((Option.some.inj H).trans hrt.out) (by decide)
                          · rw [if_neg c90] at H
                            have c90b0 : (t274 == 1) = false := beq_eq_false_iff_ne.mpr c90
                            have c90b1 : (t274 != 1) = true := bne_iff_ne.mpr c90
                            as_aux_lemma =>
                              exact absurd ((Option.some.inj H).trans hrt.out) (by decide)
            · replace c20 := Bool.eq_false_iff.mpr c20
              subst c20
              have H1 : (if t271 = 0 then (if t272 = 1 then (if t273 = true then (some false) else (if t274 = 1 then (if t275 = 0 then (if t276 = 1 then ((tattlelaw04_awakeT.f).bind fun t280 => (some t280)) else (some false)) else (some false)) else (some false))) else (some false)) else (some false)) = some r := by rw [if_neg (show ¬ (false = true) by decide)] at H; exact H
              clear H
              have H := H1
              clear H1
              by_cases c96 : t271 = 0
              · rw [if_pos c96] at H
                have c96b0 : (t271 == 0) = true := beq_iff_eq.mpr c96
                have c96b1 : (t271 != 0) = false := bne_eq_false_iff_eq.mpr c96
                clear c96
                by_cases c97 : t272 = 1
                · rw [if_pos c97] at H
                  have c97b0 : (t272 == 1) = true := beq_iff_eq.mpr c97
                  have c97b1 : (t272 != 1) = false := bne_eq_false_iff_eq.mpr c97
                  clear c97
                  by_cases c98 : t273 = true
                  · subst c98
                    have H1 : (some false) = some r := by rw [if_pos rfl] at H; exact H
                    clear H
                    have H := H1
                    clear H1
                    as_aux_lemma =>
                      exact absurd ((Option.some.inj H).trans hrt.out) (by decide)
                  · replace c98 := Bool.eq_false_iff.mpr c98
                    subst c98
                    have H1 : (if t274 = 1 then (if t275 = 0 then (if t276 = 1 then ((tattlelaw04_awakeT.f).bind fun t280 => (some t280)) else (some false)) else (some false)) else (some false)) = some r := by rw [if_neg (show ¬ (false = true) by decide)] at H; exact H
                    clear H
                    have H := H1
                    clear H1
                    by_cases c99 : t274 = 1
                    · rw [if_pos c99] at H
                      have c99b0 : (t274 == 1) = true := beq_iff_eq.mpr c99
                      have c99b1 : (t274 != 1) = false := bne_eq_false_iff_eq.mpr c99
                      clear c99
                      by_cases c100 : t275 = 0
                      · rw [if_pos c100] at H
                        have c100b0 : (t275 == 0) = true := beq_iff_eq.mpr c100
                        have c100b1 : (t275 != 0) = false := bne_eq_false_iff_eq.mpr c100
                        clear c100
                        by_cases c101 : t276 = 1
                        · rw [if_pos c101] at H
                          have c101b0 : (t276 == 1) = true := beq_iff_eq.mpr c101
                          have c101b1 : (t276 != 1) = false := bne_eq_false_iff_eq.mpr c101
                          clear c101
                          replace H := Option.bind_eq_some_iff.mp H
                          obtain ⟨t280, A1020, H⟩ := H
                          replace H : (some t280) = some r := H
                          have A102 := Aside0.mk A1020
                          clear A1020
                          as_aux_lemma =>
                            obtain rfl := Option.some.inj H
                            have hcz103_0 : wc.cell? ⟨gb267, 0, none⟩ = some (.int .i64 x268000_9) := (blk_cell BK267.out 0).trans rfl
                            have hcz103_1 : wc.cell? ⟨gb267, 1, none⟩ = some (.slice A0_1 l0_1.length c0_1) := (blk_cell BK267.out 1).trans rfl
                            have hcz103_2 : wc.cell? ⟨gb267, 2, none⟩ = some (.int .i64 a0_2) := (blk_cell BK267.out 2).trans rfl
                            have hcz103_3 : wc.cell? ⟨gb267, 3, none⟩ = some (.int .i64 a0_3) := (blk_cell BK267.out 3).trans rfl
                            have hcz103_4 : wc.cell? ⟨gb267, 4, none⟩ = some (.int .i64 a0_4) := (blk_cell BK267.out 4).trans rfl
                            have hcz103_5 : wc.cell? ⟨gb267, 5, none⟩ = some (.int .i64 a0_5) := (blk_cell BK267.out 5).trans rfl
                            have hcz103_6 : wc.cell? ⟨gb267, 6, none⟩ = some (.int .i64 a0_6) := (blk_cell BK267.out 6).trans rfl
                            have hfz103_0 := blk_frozen BK267.out 0
                            have hfz103_1 := blk_frozen BK267.out 1
                            have hfz103_2 := blk_frozen BK267.out 2
                            have hfz103_3 := blk_frozen BK267.out 3
                            have hfz103_4 := blk_frozen BK267.out 4
                            have hfz103_5 := blk_frozen BK267.out 5
                            have hfz103_6 := blk_frozen BK267.out 6
                            obtain ⟨Ao104, co104, eo104⟩ := Kd.V_slice HO_3.out
                            subst eo104
                            try go_wp2_with (first | ((with_reducible refine gate_callee (f := 20) rfl ?_); refine goesL_ (some 34) rfl rfl Try.func20 (by kernel_rfl) rfl #[.int .i64 x268000_9, .slice Ao104 t268.length co104, .int .i64 a0_4, .int .i64 a0_5, .int .i64 a0_6] rfl (by (try simp only [List.map_toArray, List.map_cons, List.map_nil]); first | done | rfl | (simp only [List.length_drop, List.length_take]; rfl)) ?_; (with_reducible refine (clock_Ticks.calls kj9 x268000_9 _ _ t268 a0_4 a0_5 a0_6 t271 t272 _ ?side1 ?side2 A13.out).mono ?_); (case side1 => repeat (first | exact (Kd.V_reads' HO_3.out).2.2 | (with_reducible refine Kd.C_alloc ?_ _) | (with_reducible refine Kd.C_drewN ?_ _) | (with_reducible refine Kd.C_drew ?_))); (case side2 => exact (Kd.V_reads' HO_3.out).2.1); rintro e w105 ⟨rfl, hb⟩; refine ⟨_, rfl, ?_⟩; have n0_ := Aside0.mk (Kd.V_below (by (with_reducible repeat (first | apply Kd.V_alloc | apply Kd.V_drewN | apply Kd.V_drew)); exact HO_3.out) hb); have n1_ := Aside0.mk (blk_below (g := gb267) (o := .cells #[.int .i64 x268000_9, .slice A0_1 l0_1.length c0_1, .int .i64 a0_2, .int .i64 a0_3, .int .i64 a0_4, .int .i64 a0_5, .int .i64 a0_6] 31 (0, 0)) (by (with_reducible repeat (first | refine blk_drewN ?_ _ | refine blk_drew ?_ | refine blk_alloc ?_ _)); exact BK267.out) hb); have n2_ := Aside0.mk (below_step (by repeat (first | (with_reducible first | exact HB.out | apply below_alloc | apply pw_below_drewN | apply below_drew1 | refine below_set ?_ GE267.out) | exact HB.out)) hb); clear HO_3; clear BK267; clear HB; have HO_3 := n0_; have BK267 := n1_; have HB := n2_; clear n0_ n1_ n2_; (try clear hb); (try clear hb2); (try clear hk); (try clear hi); have hcz106_0 : w105.cell? ⟨gb267, 0, none⟩ = some (.int .i64 x268000_9) := (blk_cell BK267.out 0).trans rfl; have hcz106_1 : w105.cell? ⟨gb267, 1, none⟩ = some (.slice A0_1 l0_1.length c0_1) := (blk_cell BK267.out 1).trans rfl; have hcz106_2 : w105.cell? ⟨gb267, 2, none⟩ = some (.int .i64 a0_2) := (blk_cell BK267.out 2).trans rfl; have hcz106_3 : w105.cell? ⟨gb267, 3, none⟩ = some (.int .i64 a0_3) := (blk_cell BK267.out 3).trans rfl; have hcz106_4 : w105.cell? ⟨gb267, 4, none⟩ = some (.int .i64 a0_4) := (blk_cell BK267.out 4).trans rfl; have hcz106_5 : w105.cell? ⟨gb267, 5, none⟩ = some (.int .i64 a0_5) := (blk_cell BK267.out 5).trans rfl; have hcz106_6 : w105.cell? ⟨gb267, 6, none⟩ = some (.int .i64 a0_6) := (blk_cell BK267.out 6).trans rfl; have hfz106_0 := blk_frozen BK267.out 0; have hfz106_1 := blk_frozen BK267.out 1; have hfz106_2 := blk_frozen BK267.out 2; have hfz106_3 := blk_frozen BK267.out 3; have hfz106_4 := blk_frozen BK267.out 4; have hfz106_5 := blk_frozen BK267.out 5; have hfz106_6 := blk_frozen BK267.out 6) | ((with_reducible refine gate_callee (f := 19) rfl ?_); refine goesL_ (some 45) rfl rfl Try.func19 (by kernel_rfl) rfl #[.int .i64 x268000_9, .slice Ao104 t268.length co104, .int .i64 a0_2, .int .i64 a0_3] rfl (by (try simp only [List.map_toArray, List.map_cons, List.map_nil]); first | done | rfl | (simp only [List.length_drop, List.length_take]; rfl)) ?_; (with_reducible refine (clock_Near.calls kj9 x268000_9 _ _ t268 a0_2 a0_3 false t274 _ ?side1 ?side2 A14.out).mono ?_); (case side1 => repeat (first | exact (Kd.V_reads' HO_3.out).2.2 | (with_reducible refine Kd.C_alloc ?_ _) | (with_reducible refine Kd.C_drewN ?_ _) | (with_reducible refine Kd.C_drew ?_))); (case side2 => exact (Kd.V_reads' HO_3.out).2.1); rintro e w107 ⟨rfl, hb⟩; refine ⟨_, rfl, ?_⟩; have n0_ := Aside0.mk (Kd.V_below (by (with_reducible repeat (first | apply Kd.V_alloc | apply Kd.V_drewN | apply Kd.V_drew)); exact HO_3.out) hb); have n1_ := Aside0.mk (blk_below (g := gb267) (o := .cells #[.int .i64 x268000_9, .slice A0_1 l0_1.length c0_1, .int .i64 a0_2, .int .i64 a0_3, .int .i64 a0_4, .int .i64 a0_5, .int .i64 a0_6] 31 (0, 0)) (by (with_reducible repeat (first | refine blk_drewN ?_ _ | refine blk_drew ?_ | refine blk_alloc ?_ _)); exact BK267.out) hb); have n2_ := Aside0.mk (below_step (by repeat (first | (with_reducible first | exact HB.out | apply below_alloc | apply pw_below_drewN | apply below_drew1 | refine below_set ?_ GE267.out) | exact HB.out)) hb); clear HO_3; clear BK267; clear HB; have HO_3 := n0_; have BK267 := n1_; have HB := n2_; clear n0_ n1_ n2_; (try clear hb); (try clear hb2); (try clear hk); (try clear hi); have hcz108_0 : w107.cell? ⟨gb267, 0, none⟩ = some (.int .i64 x268000_9) := (blk_cell BK267.out 0).trans rfl; have hcz108_1 : w107.cell? ⟨gb267, 1, none⟩ = some (.slice A0_1 l0_1.length c0_1) := (blk_cell BK267.out 1).trans rfl; have hcz108_2 : w107.cell? ⟨gb267, 2, none⟩ = some (.int .i64 a0_2) := (blk_cell BK267.out 2).trans rfl; have hcz108_3 : w107.cell? ⟨gb267, 3, none⟩ = some (.int .i64 a0_3) := (blk_cell BK267.out 3).trans rfl; have hcz108_4 : w107.cell? ⟨gb267, 4, none⟩ = some (.int .i64 a0_4) := (blk_cell BK267.out 4).trans rfl; have hcz108_5 : w107.cell? ⟨gb267, 5, none⟩ = some (.int .i64 a0_5) := (blk_cell BK267.out 5).trans rfl; have hcz108_6 : w107.cell? ⟨gb267, 6, none⟩ = some (.int .i64 a0_6) := (blk_cell BK267.out 6).trans rfl; have hfz108_0 := blk_frozen BK267.out 0; have hfz108_1 := blk_frozen BK267.out 1; have hfz108_2 := blk_frozen BK267.out 2; have hfz108_3 := blk_frozen BK267.out 3; have hfz108_4 := blk_frozen BK267.out 4; have hfz108_5 := blk_frozen BK267.out 5; have hfz108_6 := blk_frozen BK267.out 6) | ((with_reducible refine gate_callee (f := 22) rfl ?_); refine goesL_ (some 56) rfl rfl Try.func22 (by kernel_rfl) rfl #[.int .i64 x268000_9, .slice Ao104 t268.length co104, .int .i64 a0_2, .int .i64 a0_3] rfl (by (try simp only [List.map_toArray, List.map_cons, List.map_nil]); first | done | rfl | (simp only [List.length_drop, List.length_take]; rfl)) ?_; (with_reducible refine (clock_Far.calls kj9 x268000_9 _ _ t268 a0_2 a0_3 t275 t276 _ ?side1 ?side2 A15.out).mono ?_); (case side1 => repeat (first | exact (Kd.V_reads' HO_3.out).2.2 | (with_reducible refine Kd.C_alloc ?_ _) | (with_reducible refine Kd.C_drewN ?_ _) | (with_reducible refine Kd.C_drew ?_))); (case side2 => exact (Kd.V_reads' HO_3.out).2.1); rintro e w109 ⟨rfl, hb⟩; refine ⟨_, rfl, ?_⟩; have n0_ := Aside0.mk (Kd.V_below (by (with_reducible repeat (first | apply Kd.V_alloc | apply Kd.V_drewN | apply Kd.V_drew)); exact HO_3.out) hb); have n1_ := Aside0.mk (blk_below (g := gb267) (o := .cells #[.int .i64 x268000_9, .slice A0_1 l0_1.length c0_1, .int .i64 a0_2, .int .i64 a0_3, .int .i64 a0_4, .int .i64 a0_5, .int .i64 a0_6] 31 (0, 0)) (by (with_reducible repeat (first | refine blk_drewN ?_ _ | refine blk_drew ?_ | refine blk_alloc ?_ _)); exact BK267.out) hb); have n2_ := Aside0.mk (below_step (by repeat (first | (with_reducible first | exact HB.out | apply below_alloc | apply pw_below_drewN | apply below_drew1 | refine below_set ?_ GE267.out) | exact HB.out)) hb); clear HO_3; clear BK267; clear HB; have HO_3 := n0_; have BK267 := n1_; have HB := n2_; clear n0_ n1_ n2_; (try clear hb); (try clear hb2); (try clear hk); (try clear hi)))
                            have n0_ := Aside0.mk (Kd.V_drew HO_3.out)
                            have n1_ := Aside0.mk (blk_drew BK267.out)
                            have n2_ := Aside0.mk (below_drew1 HB.out)
                            clear HO_3
                            clear BK267
                            clear HB
                            have HO_3 := n0_
                            have BK267 := n1_
                            have HB := n2_
                            clear n0_ n1_ n2_
                            refine start_ (n := 10) (S := fun w' => w'.cell? ⟨gb267, 0, none⟩ = some (.int .i64 x268000_9) ∧ w'.cell? ⟨gb267, 1, none⟩ = some (.slice A0_1 l0_1.length c0_1) ∧ w'.cell? ⟨gb267, 2, none⟩ = some (.int .i64 a0_2) ∧ w'.cell? ⟨gb267, 3, none⟩ = some (.int .i64 a0_3) ∧ w'.cell? ⟨gb267, 4, none⟩ = some (.int .i64 a0_4) ∧ w'.cell? ⟨gb267, 5, none⟩ = some (.int .i64 a0_5) ∧ w'.cell? ⟨gb267, 6, none⟩ = some (.int .i64 a0_6)) (ds := []) #[false, false, false, false, false, false, false, false, false, false] (by kernel_rfl) rfl rfl ⟨(blk_cell BK267.out 0).trans rfl, (blk_cell BK267.out 1).trans rfl, (blk_cell BK267.out 2).trans rfl, (blk_cell BK267.out 3).trans rfl, (blk_cell BK267.out 4).trans rfl, (blk_cell BK267.out 5).trans rfl, (blk_cell BK267.out 6).trans rfl⟩ (fun hHeld => ?_); refine with_tabW tattlelaw04_ClockTells.tab7 tattlelaw04_ClockTells.bits7 (fun HT_ HW_ => ?_)
                            generalize w109.drew = w110 at HO_3 BK267 HB hHeld ⊢
                            refine pure_ (i := 0) (N := some 59) (v := ?_) (a' := ?_) #[true, false, false, false, false, false, false, false, false, false] rfl rfl (any_of HT_.out (by kernel_rfl)) (fun _ _ _ h => h) (Or.inl ⟨by rfl, ?_⟩) ?_ ?_
                            rotate_left
                            · intro w'
                              go_simp
                              with_reducible rfl
                            rotate_left
                            · simp only [Act.put, List.setIfInBounds_toArray, List.set_cons_zero, List.set_cons_succ, i64_w, i32_w]
                              rfl
                            refine pure_ (i := 2) (N := some 61) (v := ?_) (a' := ?_) #[true, false, true, false, false, false, false, false, false, false] rfl rfl (any_of HT_.out (by kernel_rfl)) (fun _ _ _ h => h) (Or.inl ⟨by rfl, ?_⟩) ?_ ?_
                            rotate_left
                            · intro w'
                              go_simp
                              with_reducible rfl
                            rotate_left
                            · simp only [Act.put, List.setIfInBounds_toArray, List.set_cons_zero, List.set_cons_succ, i64_w, i32_w]
                              rfl
                            refine pure_ (i := 5) (N := some 64) (v := ?_) (a' := ?_) #[true, false, true, false, false, true, false, false, false, false] rfl rfl (any_of HT_.out (by kernel_rfl)) (fun _ _ _ h => h) (Or.inl ⟨by rfl, ?_⟩) ?_ ?_
                            rotate_left
                            · intro w'
                              go_simp
                              with_reducible rfl
                            rotate_left
                            · simp only [Act.put, List.setIfInBounds_toArray, List.set_cons_zero, List.set_cons_succ, i64_w, i32_w]
                              rfl
                            refine pure_ (i := 7) (N := some 66) (v := ?_) (a' := ?_) #[true, false, true, false, false, true, false, true, false, false] rfl rfl (any_of HT_.out (by kernel_rfl)) (fun _ _ _ h => h) (Or.inl ⟨by rfl, ?_⟩) ?_ ?_
                            rotate_left
                            · intro w'
                              go_simp
                              with_reducible rfl
                            rotate_left
                            · simp only [Act.put, List.setIfInBounds_toArray, List.set_cons_zero, List.set_cons_succ, i64_w, i32_w]
                              rfl
                            refine take_ (i := 1) (N := some 60) (v := ?_) (a' := ?_) #[true, true, true, false, false, true, false, true, false, false] rfl rfl (take_ofW HT_.out HW_.out (by kernel_rfl)) (fun _ _ _ h => h) (Or.inl ⟨by rfl, ?_⟩) hHeld ?_ ?_
                            rotate_left
                            · rintro w' ⟨s0, s1, s2, s3, s4, s5, s6⟩
                              go_simp
                              with_reducible rfl
                            rotate_left
                            · simp only [Act.put, List.setIfInBounds_toArray, List.set_cons_zero, List.set_cons_succ, i64_w, i32_w]
                              rfl
                            refine take_ (i := 6) (N := some 65) (v := ?_) (a' := ?_) #[true, true, true, false, false, true, true, true, false, false] rfl rfl (take_ofW HT_.out HW_.out (by kernel_rfl)) (fun _ _ _ h => h) (Or.inl ⟨by rfl, ?_⟩) hHeld ?_ ?_
                            rotate_left
                            · rintro w' ⟨s0, s1, s2, s3, s4, s5, s6⟩
                              go_simp
                              with_reducible rfl
                            rotate_left
                            · simp only [Act.put, List.setIfInBounds_toArray, List.set_cons_zero, List.set_cons_succ, i64_w, i32_w]
                              rfl
                            refine one_ (i := 3) (N := some 62) #[true, true, true, true, false, true, true, true, false, false] rfl rfl (one_of HT_.out (by kernel_rfl)) (by decide) (fun K hK => ?_)
                            refine goes_ Try.func23 (by kernel_rfl) rfl #[.int .i64 x268000_9, .slice Ao104 t268.length co104] (by rfl) rfl rfl (by (try simp only [List.map_toArray, List.map_cons, List.map_nil]); first | done | rfl | (simp only [List.length_drop, List.length_take]; rfl)) ?_
                            with_reducible refine (clock_Check.calls x268000_9 _ _ t268 t277 _ ?side1 ?side2 A16.out).mono ?_
                            (case side1 => repeat (first | exact (Kd.V_reads' HO_3.out).2.2 | (with_reducible refine Kd.C_alloc ?_ _) | (with_reducible refine Kd.C_drewN ?_ _) | (with_reducible refine Kd.C_drew ?_)))
                            (case side2 => exact (Kd.V_reads' HO_3.out).2.1)
                            rintro e w111 ⟨rfl, hb⟩
                            refine ⟨_, rfl, ?_⟩
                            have n0_ := Aside0.mk (Kd.V_below (by (with_reducible repeat (first | apply Kd.V_alloc | apply Kd.V_drewN | apply Kd.V_drew)); exact HO_3.out) hb)
                            have n1_ := Aside0.mk (blk_below (g := gb267) (o := .cells #[.int .i64 x268000_9, .slice A0_1 l0_1.length c0_1, .int .i64 a0_2, .int .i64 a0_3, .int .i64 a0_4, .int .i64 a0_5, .int .i64 a0_6] 31 (0, 0)) (by (with_reducible repeat (first | refine blk_drewN ?_ _ | refine blk_drew ?_ | refine blk_alloc ?_ _)); exact BK267.out) hb)
                            have n2_ := Aside0.mk (below_step (by repeat (first | (with_reducible first | exact HB.out | apply below_alloc | apply pw_below_drewN | apply below_drew1 | refine below_set ?_ GE267.out) | exact HB.out)) hb)
                            clear HO_3
                            clear BK267
                            clear HB
                            have HO_3 := n0_
                            have BK267 := n1_
                            have HB := n2_
                            clear n0_ n1_ n2_
                            (try clear hb)
                            (try clear hb2)
                            (try clear hk)
                            (try clear hi)
                            refine hK.out _ _ ⟨(blk_cell BK267.out 0).trans rfl, (blk_cell BK267.out 1).trans rfl, (blk_cell BK267.out 2).trans rfl, (blk_cell BK267.out 3).trans rfl, (blk_cell BK267.out 4).trans rfl, (blk_cell BK267.out 5).trans rfl, (blk_cell BK267.out 6).trans rfl⟩ (fun hHeld => ?_)
                            clear hK K
                            refine norm_ (a' := ?_) ?_ ?_
                            rotate_left
                            · show Act.put _ (some 62) _ = _
                              simp only [Act.put, List.setIfInBounds_toArray, List.set_cons_zero, List.set_cons_succ, i64_w, i32_w]
                              rfl
                            refine pure_ (i := 4) (N := some 63) (v := ?_) (a' := ?_) #[true, true, true, true, true, true, true, true, false, false] rfl rfl (any_of HT_.out (by kernel_rfl)) (fun _ _ _ h => h) (Or.inl ⟨by rfl, ?_⟩) ?_ ?_
                            rotate_left
                            · intro w'
                              go_simp
                              with_reducible rfl
                            rotate_left
                            · simp only [Act.put, List.setIfInBounds_toArray, List.set_cons_zero, List.set_cons_succ, i64_w, i32_w]
                              rfl
                            refine one_ (i := 8) (N := some 67) #[true, true, true, true, true, true, true, true, true, false] rfl rfl (one_of HT_.out (by kernel_rfl)) (by decide) (fun K hK => ?_)
                            refine goes_ Try.func21 (by kernel_rfl) rfl #[.int .i64 x268000_9, .slice Ao104 t268.length co104] (by rfl) rfl rfl (by (try simp only [List.map_toArray, List.map_cons, List.map_nil]); first | done | rfl | (simp only [List.length_drop, List.length_take]; rfl)) ?_
                            with_reducible refine (tattleref04_May.calls kj9 x268000_9 _ _ t268 t278 _ ?side1 ?side2 A17.out).mono ?_
                            (case side1 => repeat (first | exact (Kd.V_reads' HO_3.out).2.2 | (with_reducible refine Kd.C_alloc ?_ _) | (with_reducible refine Kd.C_drewN ?_ _) | (with_reducible refine Kd.C_drew ?_)))
                            (case side2 => exact (Kd.V_reads' HO_3.out).2.1)
                            rintro e w112 ⟨rfl, hb⟩
                            refine ⟨_, rfl, ?_⟩
                            have n0_ := Aside0.mk (Kd.V_below (by (with_reducible repeat (first | apply Kd.V_alloc | apply Kd.V_drewN | apply Kd.V_drew)); exact HO_3.out) hb)
                            have n1_ := Aside0.mk (blk_below (g := gb267) (o := .cells #[.int .i64 x268000_9, .slice A0_1 l0_1.length c0_1, .int .i64 a0_2, .int .i64 a0_3, .int .i64 a0_4, .int .i64 a0_5, .int .i64 a0_6] 31 (0, 0)) (by (with_reducible repeat (first | refine blk_drewN ?_ _ | refine blk_drew ?_ | refine blk_alloc ?_ _)); exact BK267.out) hb)
                            have n2_ := Aside0.mk (below_step (by repeat (first | (with_reducible first | exact HB.out | apply below_alloc | apply pw_below_drewN | apply below_drew1 | refine below_set ?_ GE267.out) | exact HB.out)) hb)
                            clear HO_3
                            clear BK267
                            clear HB
                            have HO_3 := n0_
                            have BK267 := n1_
                            have HB := n2_
                            clear n0_ n1_ n2_
                            (try clear hb)
                            (try clear hb2)
                            (try clear hk)
                            (try clear hi)
                            refine hK.out _ _ ⟨(blk_cell BK267.out 0).trans rfl, (blk_cell BK267.out 1).trans rfl, (blk_cell BK267.out 2).trans rfl, (blk_cell BK267.out 3).trans rfl, (blk_cell BK267.out 4).trans rfl, (blk_cell BK267.out 5).trans rfl, (blk_cell BK267.out 6).trans rfl⟩ (fun hHeld => ?_)
                            clear hK K
                            refine norm_ (a' := ?_) ?_ ?_
                            rotate_left
                            · show Act.put _ (some 67) _ = _
                              simp only [Act.put, List.setIfInBounds_toArray, List.set_cons_zero, List.set_cons_succ, i64_w, i32_w]
                              rfl
                            refine pure_ (i := 9) (N := some 68) (v := ?_) (a' := ?_) #[true, true, true, true, true, true, true, true, true, true] rfl rfl (any_of HT_.out (by kernel_rfl)) (fun _ _ _ h => h) (Or.inl ⟨by rfl, ?_⟩) ?_ ?_
                            rotate_left
                            · intro w'
                              go_simp
                              with_reducible rfl
                            rotate_left
                            · simp only [Act.put, List.setIfInBounds_toArray, List.set_cons_zero, List.set_cons_succ, i64_w, i32_w]
                              rfl
                            refine done_ (done_of HT_.out (by kernel_rfl)) ?_
                            have hcz113_0 : w112.cell? ⟨gb267, 0, none⟩ = some (.int .i64 x268000_9) := (blk_cell BK267.out 0).trans rfl
                            have hcz113_1 : w112.cell? ⟨gb267, 1, none⟩ = some (.slice A0_1 l0_1.length c0_1) := (blk_cell BK267.out 1).trans rfl
                            have hcz113_2 : w112.cell? ⟨gb267, 2, none⟩ = some (.int .i64 a0_2) := (blk_cell BK267.out 2).trans rfl
                            have hcz113_3 : w112.cell? ⟨gb267, 3, none⟩ = some (.int .i64 a0_3) := (blk_cell BK267.out 3).trans rfl
                            have hcz113_4 : w112.cell? ⟨gb267, 4, none⟩ = some (.int .i64 a0_4) := (blk_cell BK267.out 4).trans rfl
                            have hcz113_5 : w112.cell? ⟨gb267, 5, none⟩ = some (.int .i64 a0_5) := (blk_cell BK267.out 5).trans rfl
                            have hcz113_6 : w112.cell? ⟨gb267, 6, none⟩ = some (.int .i64 a0_6) := (blk_cell BK267.out 6).trans rfl
                            have hfz113_0 := blk_frozen BK267.out 0
                            have hfz113_1 := blk_frozen BK267.out 1
                            have hfz113_2 := blk_frozen BK267.out 2
                            have hfz113_3 := blk_frozen BK267.out 3
                            have hfz113_4 := blk_frozen BK267.out 4
                            have hfz113_5 := blk_frozen BK267.out 5
                            have hfz113_6 := blk_frozen BK267.out 6
                            try go_wp2_with (first | ((with_reducible refine gate_callee (f := 21) rfl ?_); refine goesL_ (some 72) rfl rfl Try.func21 (by kernel_rfl) rfl #[.int .i64 x268000_9, .slice Ao104 t268.length co104] rfl (by (try simp only [List.map_toArray, List.map_cons, List.map_nil]); first | done | rfl | (simp only [List.length_drop, List.length_take]; rfl)) ?_; (with_reducible refine (tattleref04_May.calls kj9 x268000_9 _ _ t268 false _ ?side1 ?side2 A19.out).mono ?_); (case side1 => repeat (first | exact (Kd.V_reads' HO_3.out).2.2 | (with_reducible refine Kd.C_alloc ?_ _) | (with_reducible refine Kd.C_drewN ?_ _) | (with_reducible refine Kd.C_drew ?_))); (case side2 => exact (Kd.V_reads' HO_3.out).2.1); rintro e w114 ⟨rfl, hb⟩; refine ⟨_, rfl, ?_⟩; have n0_ := Aside0.mk (Kd.V_below (by (with_reducible repeat (first | apply Kd.V_alloc | apply Kd.V_drewN | apply Kd.V_drew)); exact HO_3.out) hb); have n1_ := Aside0.mk (blk_below (g := gb267) (o := .cells #[.int .i64 x268000_9, .slice A0_1 l0_1.length c0_1, .int .i64 a0_2, .int .i64 a0_3, .int .i64 a0_4, .int .i64 a0_5, .int .i64 a0_6] 31 (0, 0)) (by (with_reducible repeat (first | refine blk_drewN ?_ _ | refine blk_drew ?_ | refine blk_alloc ?_ _)); exact BK267.out) hb); have n2_ := Aside0.mk (below_step (by repeat (first | (with_reducible first | exact HB.out | apply below_alloc | apply pw_below_drewN | apply below_drew1 | refine below_set ?_ GE267.out) | exact HB.out)) hb); clear HO_3; clear BK267; clear HB; have HO_3 := n0_; have BK267 := n1_; have HB := n2_; clear n0_ n1_ n2_; (try clear hb); (try clear hb2); (try clear hk); (try clear hi)) | (go_at_call 16; (with_reducible refine (tattlelaw04_awakeT.calls  t280 _ A102.out).mono ?_); rintro e w115 ⟨rfl, hb⟩; have n0_ := Aside0.mk (blk_below (g := gb267) (o := .cells #[.int .i64 x268000_9, .slice A0_1 l0_1.length c0_1, .int .i64 a0_2, .int .i64 a0_3, .int .i64 a0_4, .int .i64 a0_5, .int .i64 a0_6] 31 (0, 0)) (by (with_reducible repeat (first | refine blk_drewN ?_ _ | refine blk_drew ?_ | refine blk_alloc ?_ _)); exact BK267.out) hb); have n1_ := Aside0.mk (below_step (by repeat (first | (with_reducible first | exact HB.out | apply below_alloc | apply pw_below_drewN | apply below_drew1 | refine below_set ?_ GE267.out) | exact HB.out)) hb); clear BK267; clear HB; have BK267 := n0_; have HB := n1_; clear n0_ n1_; (try clear hb); (try clear hb2); (try clear hk); (try clear hi)))
                            go_ret
                            exact ⟨by first | rfl | (simp [errW_none, errW_some] <;> rfl) | (simp [*, errW_none, errW_some] <;> rfl), by repeat (first | (with_reducible first | exact HB.out | apply below_alloc | apply pw_below_drewN | apply below_drew1 | refine below_set ?_ GE267.out) | exact HB.out)⟩
                        · rw [if_neg c101] at H
                          have c101b0 : (t276 == 1) = false := beq_eq_false_iff_ne.mpr c101
                          have c101b1 : (t276 != 1) = true := bne_iff_ne.mpr c101
                          as_aux_lemma =>
                            exact absurd ((Option.some.inj H).trans hrt.out) (by decide)
                      · rw [if_neg c100] at H
                        have c100b0 : (t275 == 0) = false := beq_eq_false_iff_ne.mpr c100
                        have c100b1 : (t275 != 0) = true := bne_iff_ne.mpr c100
                        as_aux_lemma =>
                          exact absurd ((Option.some.inj H).trans hrt.out) (by decide)
                    · rw [if_neg c99] at H
                      have c99b0 : (t274 == 1) = false := beq_eq_false_iff_ne.mpr c99
                      have c99b1 : (t274 != 1) = true := bne_iff_ne.mpr c99
                      as_aux_lemma =>
                        exact absurd ((Option.some.inj H).trans hrt.out) (by decide)
                · rw [if_neg c97] at H
                  have c97b0 : (t272 == 1) = false := beq_eq_false_iff_ne.mpr c97
                  have c97b1 : (t272 != 1) = true := bne_iff_ne.mpr c97
                  as_aux_lemma =>
                    exact absurd ((Option.some.inj H).trans hrt.out) (by decide)
              · rw [if_neg c96] at H
                have c96b0 : (t271 == 0) = false := beq_eq_false_iff_ne.mpr c96
                have c96b1 : (t271 != 0) = true := bne_iff_ne.mpr c96
                as_aux_lemma =>
                  exact absurd ((Option.some.inj H).trans hrt.out) (by decide)

end Go.Proofs.Ytahppppkepcbkaa.Fn
