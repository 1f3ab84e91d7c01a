-- Written by program (a turned copy of the kit's print) for this seat: functions, contracts. Lean checks it.
import Derived.Test.YtahppppkepcbkaaFnx0
namespace Go.Proofs.Ytahppppkepcbkaa.Fn
open Go.RowKit Go.Proofs.YtahppppkepcbkaaW.PrintWords Go.Proofs.YtahppppkepcbkaaW.PrintLast Go.Proofs.YtahppppkepcbkaaW.PrintMore
attribute [local go_sem] max2_int min2_int max_two min_two max_three min_three max_four min_four   -- for this text's walks alone
set_option linter.unusedVariables false
set_option linter.unusedSimpArgs false

/-! ### tattleref04_Up: function 48 -/
def tattleref04_Up.l0 : Nat → List (S87) → Int → Int → Bool → Int → Option (Bool)
  | 0, _, _, _, _, _ => none
  | k + 1, x0, x1, x2, x7, x8 => if x8 < x2 then (if 0 ≤ x8 then (if x8 < (x0.length : Int) then (if ((rd_T87 x0 x8).f0) = x1 then (if ((rd_T87 x0 x8).f1) = 0 then (tattleref04_Up.l0 k x0 x1 x2 x7 (wrap64 (x8 + 1))) else (tattleref04_Up.l0 k x0 x1 x2 (((rd_T87 x0 x8).f1) == 2) (wrap64 (x8 + 1)))) else (tattleref04_Up.l0 k x0 x1 x2 x7 (wrap64 (x8 + 1)))) else (none)) else (none)) else (some x7)
def tattleref04_Up.f (k : Nat) (l0 : List (S87)) (a1 : Int) (a2 : Int) : Option (Bool) := tattleref04_Up.l0 k l0 a1 a2 true 0
theorem tattleref04_Up.mono_l : ∀ k, (∀ y0 y1 y2 y3 y4, LeO (tattleref04_Up.l0 k y0 y1 y2 y3 y4) (tattleref04_Up.l0 (k + 1) y0 y1 y2 y3 y4))
  | 0 => fun _ _ _ _ _ r h => by simp [tattleref04_Up.l0] at h
  | k + 1 => by
    have ih0 := tattleref04_Up.mono_l k
    · intro y0 y1 y2 y3 y4
      unfold tattleref04_Up.l0
      repeat' first
      | (with_reducible exact ih0 _ _ _ _ _)
      | (with_reducible exact LeO.refl _)
      | (with_reducible exact LeO.none _)
      | (with_reducible refine LeO.ite ?_ ?_)
      | (with_reducible refine LeO.bind ?_ (fun _ => ?_))
      | exact ih0 _ _ _ _ _
      | exact LeO.none _
      | refine LeO.ite ?_ ?_
      | refine LeO.bind ?_ (fun _ => ?_)
theorem tattleref04_Up.mono : ∀ a0 a1 a2 k, LeO (tattleref04_Up.f k a0 a1 a2) (tattleref04_Up.f (k + 1) a0 a1 a2) := by
  intro a0 a1 a2 k
  have ih0 := tattleref04_Up.mono_l k
  unfold tattleref04_Up.f
  repeat' first
      | (with_reducible exact ih0 _ _ _ _ _)
      | (with_reducible exact LeO.refl _)
      | (with_reducible exact LeO.none _)
      | (with_reducible refine LeO.ite ?_ ?_)
      | (with_reducible refine LeO.bind ?_ (fun _ => ?_))
      | exact ih0 _ _ _ _ _
      | exact LeO.none _
      | refine LeO.ite ?_ ?_
      | refine LeO.bind ?_ (fun _ => ?_)
set_option maxHeartbeats 8000000 in
set_option maxRecDepth 100000 in
theorem tattleref04_Up.calls (k : Nat) (A0 : Option Addr) (c0 : Nat) (l0 : List (S87)) (a1 : Int) (a2 : Int) (r : Bool) (w : World) (hr0 : Kd.C k87 w A0 l0.length l0) (hc0 : l0.length ≤ c0) (h : tattleref04_Up.f k l0 a1 a2 = some r) :
    Calls Try.prog 48 #[.slice A0 l0.length c0, .int .i64 a1, .int .i64 a2] w fun e w' => e = .returned (.bool r) ∧ Drawn0 w w' := by
  have HR0 := Aside0.mk hr0
  have HC0 := Aside0.mk hc0
  clear hr0 hc0
  have H : (tattleref04_Up.l0 k l0 a1 a2 true 0) = some r := h
  clear h
  have H' := Aside0.mk H
  clear H
  go_enter Try.func48, Try.ntmps48
  go_wp2
  go_loopg [7, 8] k (fun kq v7 v8 w' => ∃ (x7_1 : Bool) (x8_1 : Int), v7 = .bool x7_1 ∧ v8 = .int .i64 x8_1 ∧ Aside0 (tattleref04_Up.l0 kq l0 a1 a2 x7_1 x8_1 = some r) ∧ Aside0 (kq ≤ k) ∧ Drawn0 w w')
  case atStart => exact ⟨(true), (0), (by first | rfl | (simp; done) | (simp [*]; done)), (by first | rfl | (simp; done) | (simp [*]; done)), H', ⟨Nat.le_refl _⟩, by repeat (first | exact Drawn0.refl _ | apply Drawn0.step)⟩
  case round =>
    clear H'
    try clear p2
    obtain ⟨x7_1, x8_1, rfl, rfl, HA, HK1, ⟨m1, rfl⟩⟩ := hrel
    cases gk with
    | zero => exact absurd HA.out (by simp [tattleref04_Up.l0])
    | succ k1 =>
      have H := HA.out
      clear HA
      simp only [tattleref04_Up.l0] at H
      by_cases c4 : x8_1 < a2
      · rw [if_pos c4] at H
        have c4b0 : decide (x8_1 < a2) = true := decide_eq_true c4
        clear c4
        by_cases c5 : 0 ≤ x8_1
        · rw [if_pos c5] at H
          have c5b0 : decide (0 ≤ x8_1) = true := decide_eq_true c5
          clear c5
          by_cases c6 : x8_1 < (l0.length : Int)
          · rw [if_pos c6] at H
            have c6b0 : decide (x8_1 < (l0.length : Int)) = true := decide_eq_true c6
            clear c6
            by_cases c7 : ((rd_T87 l0 x8_1).f0) = a1
            · rw [if_pos c7] at H
              have c7b0 : (((rd_T87 l0 x8_1).f0) == a1) = true := beq_iff_eq.mpr c7
              have c7b1 : (((rd_T87 l0 x8_1).f0) != a1) = false := bne_eq_false_iff_eq.mpr c7
              clear c7
              by_cases c8 : ((rd_T87 l0 x8_1).f1) = 0
              · rw [if_pos c8] at H
                have c8b0 : (((rd_T87 l0 x8_1).f1) == 0) = true := beq_iff_eq.mpr c8
                have c8b1 : (((rd_T87 l0 x8_1).f1) != 0) = false := bne_eq_false_iff_eq.mpr c8
                clear c8
                have H' := Aside0.mk H
                clear H
                have p222 : 0 ≤ (x8_1 : Int) := of_decide_eq_true (by first | (with_reducible assumption) | assumption)
                have q222 : x8_1 < (l0.length : Int) := of_decide_eq_true (by first | (with_reducible assumption) | assumption)
                obtain ⟨ad222, e222, hx222_0, hx222_1⟩ := at_T87 HR0.out x8_1 p222 q222
                cases e222
                replace p222 := eq_true p222
                replace q222 := eq_true q222
                have p223 : 0 ≤ (x8_1 : Int) := of_decide_eq_true (by first | (with_reducible assumption) | assumption)
                have q223 : x8_1 < (l0.length : Int) := of_decide_eq_true (by first | (with_reducible assumption) | assumption)
                obtain ⟨ad223, e223, hx223_0, hx223_1⟩ := at_T87 HR0.out x8_1 p223 q223
                obtain rfl : ad222 = ad223 := (by injection e223)
                replace p223 := eq_true p223
                replace q223 := eq_true q223
                go_wp2
                go_roundg k1
                case measure => have := HK1.out; omega
                case rel => exact ⟨(x7_1), (wrap64 (x8_1 + 1)), (by first | rfl | (simp; done) | (simp [*]; done)), (by first | rfl | (simp; done) | (simp [*]; done)), H', ⟨by have := HK1.out; omega⟩, by repeat (first | exact Drawn0.refl _ | apply Drawn0.step)⟩
              · rw [if_neg c8] at H
                have c8b0 : (((rd_T87 l0 x8_1).f1) == 0) = false := beq_eq_false_iff_ne.mpr c8
                have c8b1 : (((rd_T87 l0 x8_1).f1) != 0) = true := bne_iff_ne.mpr c8
                have H' := Aside0.mk H
                clear H
                have p222 : 0 ≤ (x8_1 : Int) := of_decide_eq_true (by first | (with_reducible assumption) | assumption)
                have q222 : x8_1 < (l0.length : Int) := of_decide_eq_true (by first | (with_reducible assumption) | assumption)
                obtain ⟨ad222, e222, hx222_0, hx222_1⟩ := at_T87 HR0.out x8_1 p222 q222
                cases e222
                replace p222 := eq_true p222
                replace q222 := eq_true q222
                have p223 : 0 ≤ (x8_1 : Int) := of_decide_eq_true (by first | (with_reducible assumption) | assumption)
                have q223 : x8_1 < (l0.length : Int) := of_decide_eq_true (by first | (with_reducible assumption) | assumption)
                obtain ⟨ad223, e223, hx223_0, hx223_1⟩ := at_T87 HR0.out x8_1 p223 q223
                obtain rfl : ad222 = ad223 := (by injection e223)
                replace p223 := eq_true p223
                replace q223 := eq_true q223
                have p224 : 0 ≤ (x8_1 : Int) := of_decide_eq_true (by first | (with_reducible assumption) | assumption)
                have q224 : x8_1 < (l0.length : Int) := of_decide_eq_true (by first | (with_reducible assumption) | assumption)
                obtain ⟨ad224, e224, hx224_0, hx224_1⟩ := at_T87 HR0.out x8_1 p224 q224
                obtain rfl : ad222 = ad224 := (by injection e224)
                replace p224 := eq_true p224
                replace q224 := eq_true q224
                go_wp2
                go_roundg k1
                case measure => have := HK1.out; omega
                case rel => exact ⟨((((rd_T87 l0 x8_1).f1) == 2)), (wrap64 (x8_1 + 1)), (by first | rfl | (simp; done) | (simp [*]; done)), (by first | rfl | (simp; done) | (simp [*]; done)), H', ⟨by have := HK1.out; omega⟩, by repeat (first | exact Drawn0.refl _ | apply Drawn0.step)⟩
            · rw [if_neg c7] at H
              have c7b0 : (((rd_T87 l0 x8_1).f0) == a1) = false := beq_eq_false_iff_ne.mpr c7
              have c7b1 : (((rd_T87 l0 x8_1).f0) != a1) = true := bne_iff_ne.mpr c7
              have H' := Aside0.mk H
              clear H
              have p222 : 0 ≤ (x8_1 : Int) := of_decide_eq_true (by first | (with_reducible assumption) | assumption)
              have q222 : x8_1 < (l0.length : Int) := of_decide_eq_true (by first | (with_reducible assumption) | assumption)
              obtain ⟨ad222, e222, hx222_0, hx222_1⟩ := at_T87 HR0.out x8_1 p222 q222
              cases e222
              replace p222 := eq_true p222
              replace q222 := eq_true q222
              go_wp2
              go_roundg k1
              case measure => have := HK1.out; omega
              case rel => exact ⟨(x7_1), (wrap64 (x8_1 + 1)), (by first | rfl | (simp; done) | (simp [*]; done)), (by first | rfl | (simp; done) | (simp [*]; done)), H', ⟨by have := HK1.out; omega⟩, by repeat (first | exact Drawn0.refl _ | apply Drawn0.step)⟩
          · rw [if_neg c6] at H
            exact absurd H (by simp)
        · rw [if_neg c5] at H
          exact absurd H (by simp)
      · rw [if_neg c4] at H
        have c4b0 : decide (x8_1 < a2) = false := decide_eq_false c4
        clear c4
        obtain rfl := Option.some.inj H
        go_wp2
        go_ret
        exact ⟨by first | rfl | (simp; done) | (simp [*]; done), by repeat (first | exact Drawn0.refl _ | apply Drawn0.step)⟩

end Go.Proofs.Ytahppppkepcbkaa.Fn
