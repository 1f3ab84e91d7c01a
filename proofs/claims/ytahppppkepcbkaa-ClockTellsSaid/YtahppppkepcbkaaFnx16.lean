-- Written by program (a turned copy of the kit's print) for this seat: functions, contracts. Lean checks it.
import Derived.Test.YtahppppkepcbkaaFnx0
import Derived.Test.YtahppppkepcbkaaFnx15
namespace Go.Proofs.Ytahppppkepcbkaa.Fn
open Go.RowKit Go.Proofs.YtahppppkepcbkaaW.PrintWords Go.Proofs.YtahppppkepcbkaaW.PrintLast Go.Proofs.YtahppppkepcbkaaW.PrintMore
attribute [local go_sem] max2_int min2_int max_two min_two max_three min_three max_four min_four   -- for this text's walks alone
set_option linter.unusedVariables false
set_option linter.unusedSimpArgs false

/-! ### tattleref04_Two: function 50 -/
def tattleref04_Two.j0 : Nat → Int → Int → Int → Int → Bool → Option (Bool)
  | 0, _, _, _, _, _ => none
  | k + 1, x5, x6, x15, x17, x40 => if x40 = true then (some true) else (if x15 > x17 then (if x6 = 0 then (none) else (some (decide ((wrap64 (x15 - x17)) ≤ (wrap64 (x5 + (wrap64 (Int.tdiv x17 x6)))))))) else (if x6 = 0 then (none) else (some (decide ((wrap64 (x17 - x15)) ≤ (wrap64 (x5 + (wrap64 (Int.tdiv x15 x6)))))))))
def tattleref04_Two.f (k : Nat) (l0 : List (S87)) (a1 : Int) (a2 : Int) (a3 : Int) (a4 : Int) (a5 : Int) (a6 : Int) : Option (Bool) := (tattleref04_Ticks.f k l0 a1 a3 a4).bind fun bt262 => ((tattleref04_Ticks.f k l0 a2 a3 a4).bind fun bt264 => (if bt262.2 = true then (tattleref04_Two.j0 k a5 a6 bt262.1 bt264.1 (!bt264.2)) else (tattleref04_Two.j0 k a5 a6 bt262.1 bt264.1 true)))
theorem tattleref04_Two.mono_l : ∀ k, (∀ y0 y1 y2 y3 y4, LeO (tattleref04_Two.j0 k y0 y1 y2 y3 y4) (tattleref04_Two.j0 (k + 1) y0 y1 y2 y3 y4))
  | 0 => fun _ _ _ _ _ r h => by simp [tattleref04_Two.j0] at h
  | k + 1 => by
    have ih0 := tattleref04_Two.mono_l k
    · intro y0 y1 y2 y3 y4
      unfold tattleref04_Two.j0
      repeat' first
      | (with_reducible exact ih0 _ _ _ _ _)
      | (with_reducible exact tattleref04_Ticks.mono _ _ _ _ _)
      | (with_reducible exact LeO.refl _)
      | (with_reducible exact LeO.none _)
      | (with_reducible refine LeO.ite ?_ ?_)
      | (with_reducible refine LeO.bind ?_ (fun _ => ?_))
      | exact ih0 _ _ _ _ _
      | exact tattleref04_Ticks.mono _ _ _ _ _
      | exact LeO.none _
      | refine LeO.ite ?_ ?_
      | refine LeO.bind ?_ (fun _ => ?_)
theorem tattleref04_Two.mono : ∀ a0 a1 a2 a3 a4 a5 a6 k, LeO (tattleref04_Two.f k a0 a1 a2 a3 a4 a5 a6) (tattleref04_Two.f (k + 1) a0 a1 a2 a3 a4 a5 a6) := by
  intro a0 a1 a2 a3 a4 a5 a6 k
  have ih0 := tattleref04_Two.mono_l k
  unfold tattleref04_Two.f
  repeat' first
      | (with_reducible exact ih0 _ _ _ _ _)
      | (with_reducible exact tattleref04_Ticks.mono _ _ _ _ _)
      | (with_reducible exact LeO.refl _)
      | (with_reducible exact LeO.none _)
      | (with_reducible refine LeO.ite ?_ ?_)
      | (with_reducible refine LeO.bind ?_ (fun _ => ?_))
      | exact ih0 _ _ _ _ _
      | exact tattleref04_Ticks.mono _ _ _ _ _
      | exact LeO.none _
      | refine LeO.ite ?_ ?_
      | refine LeO.bind ?_ (fun _ => ?_)
set_option maxHeartbeats 8000000 in
set_option maxRecDepth 100000 in
theorem tattleref04_Two.calls (k : Nat) (A0 : Option Addr) (c0 : Nat) (l0 : List (S87)) (a1 : Int) (a2 : Int) (a3 : Int) (a4 : Int) (a5 : Int) (a6 : Int) (r : Bool) (w : World) (hr0 : Kd.C k87 w A0 l0.length l0) (hc0 : l0.length ≤ c0) (h : tattleref04_Two.f k l0 a1 a2 a3 a4 a5 a6 = some r) :
    Calls Try.prog 50 #[.slice A0 l0.length c0, .int .i64 a1, .int .i64 a2, .int .i64 a3, .int .i64 a4, .int .i64 a5, .int .i64 a6] w fun e w' => e = .returned (.bool r) ∧ Drawn0 w w' := by
  have HR0 := Aside0.mk hr0
  have HC0 := Aside0.mk hc0
  clear hr0 hc0
  have H : ((tattleref04_Ticks.f k l0 a1 a3 a4).bind fun bt262 => ((tattleref04_Ticks.f k l0 a2 a3 a4).bind fun bt264 => (if bt262.2 = true then (tattleref04_Two.j0 k a5 a6 bt262.1 bt264.1 (!bt264.2)) else (tattleref04_Two.j0 k a5 a6 bt262.1 bt264.1 true)))) = some r := h
  clear h
  replace H := Option.bind_eq_some_iff.mp H
  obtain ⟨⟨t262, t263⟩, A80, H⟩ := H
  replace H : ((tattleref04_Ticks.f k l0 a2 a3 a4).bind fun bt264 => (if t263 = true then (tattleref04_Two.j0 k a5 a6 t262 bt264.1 (!bt264.2)) else (tattleref04_Two.j0 k a5 a6 t262 bt264.1 true))) = some r := H
  have A8 := Aside0.mk A80
  clear A80
  replace H := Option.bind_eq_some_iff.mp H
  obtain ⟨⟨t264, t265⟩, A90, H⟩ := H
  replace H : (if t263 = true then (tattleref04_Two.j0 k a5 a6 t262 t264 (!t265)) else (tattleref04_Two.j0 k a5 a6 t262 t264 true)) = some r := H
  have A9 := Aside0.mk A90
  clear A90
  have HC10 := Aside0.mk H
  clear H
  go_enter Try.func50, Try.ntmps50
  go_upto_region 3 with (first | ((with_reducible refine gate_callee (f := 24) rfl ?_); refine goesL_ (some 24) rfl rfl Try.func24 (by kernel_rfl) rfl #[.slice A0 l0.length c0, .int .i64 a1, .int .i64 a3, .int .i64 a4] rfl (by (try simp only [List.map_toArray, List.map_cons, List.map_nil]); first | done | rfl | (simp only [List.length_drop, List.length_take]; rfl)) ?_; (with_reducible refine (tattleref04_Ticks.calls k _ _ l0 a1 a3 a4 t262 t263 _ ?side1 ?side2 A8.out).mono ?_); (case side1 => repeat (first | exact HR0.out | (with_reducible refine Kd.C_alloc ?_ _) | (with_reducible refine Kd.C_drewN ?_ _) | (with_reducible refine Kd.C_drew ?_))); (case side2 => exact HC0.out); rintro e w' ⟨rfl, ⟨nd, rfl⟩⟩; refine ⟨_, rfl, ?_⟩) | ((with_reducible refine gate_callee (f := 24) rfl ?_); refine goesL_ (some 32) rfl rfl Try.func24 (by kernel_rfl) rfl #[.slice A0 l0.length c0, .int .i64 a2, .int .i64 a3, .int .i64 a4] rfl (by (try simp only [List.map_toArray, List.map_cons, List.map_nil]); first | done | rfl | (simp only [List.length_drop, List.length_take]; rfl)) ?_; (with_reducible refine (tattleref04_Ticks.calls k _ _ l0 a2 a3 a4 t264 t265 _ ?side1 ?side2 A9.out).mono ?_); (case side1 => repeat (first | exact HR0.out | (with_reducible refine Kd.C_alloc ?_ _) | (with_reducible refine Kd.C_drewN ?_ _) | (with_reducible refine Kd.C_drew ?_))); (case side2 => exact HC0.out); rintro e w' ⟨rfl, ⟨nd, rfl⟩⟩; refine ⟨_, rfl, ?_⟩))
  (try simp only [Act.put, List.setIfInBounds_toArray, List.set_cons_zero, List.set_cons_succ])
  go_cut [40] (fun v40 wc => ∃ (kq : Nat) (x40_9 : Bool), v40 = .bool x40_9 ∧ Aside0 (tattleref04_Two.j0 kq a5 a6 t262 t264 x40_9 = some r) ∧ Aside0 (kq ≤ k) ∧ Drawn0 w wc)
  case first =>
    have H := HC10.out
    clear HC10
    by_cases c11 : t263 = true
    · subst c11
      have H1 : (tattleref04_Two.j0 k a5 a6 t262 t264 (!t265)) = some r := by rw [if_pos rfl] at H; exact H
      clear H
      have H := H1
      clear H1
      have H' := Aside0.mk H
      clear H
      go_wp2
      go_meet
      case rel => exact ⟨_, (!t265), (by first | rfl | (simp; done) | (simp [*]; done)), H', ⟨by first | omega | exact Nat.le_refl _⟩, by repeat (first | exact Drawn0.refl _ | apply Drawn0.step)⟩
    · replace c11 := Bool.eq_false_iff.mpr c11
      subst c11
      have H1 : (tattleref04_Two.j0 k a5 a6 t262 t264 true) = some r := by rw [if_neg (show ¬ (false = true) by decide)] at H; exact H
      clear H
      have H := H1
      clear H1
      have H' := Aside0.mk H
      clear H
      go_wp2
      go_meet
      case rel => exact ⟨_, (true), (by first | rfl | (simp; done) | (simp [*]; done)), H', ⟨by first | omega | exact Nat.le_refl _⟩, by repeat (first | exact Drawn0.refl _ | apply Drawn0.step)⟩
  case rest =>
    clear HC10
    try clear c1
    try clear c2
    try clear p2
    try clear c5
    try clear c11
    obtain ⟨kq, x40_9, rfl, HA, HJ9, ⟨mc9, rfl⟩⟩ := hcut
    cases kq with
    | zero => exact absurd HA.out (by simp [tattleref04_Two.j0])
    | succ kj9 =>
      have H := HA.out
      clear HA
      simp only [tattleref04_Two.j0] at H
      by_cases c12 : x40_9 = true
      · subst c12
        have H1 : (some true) = some r := by rw [if_pos rfl] at H; exact H
        clear H
        have H := H1
        clear H1
        obtain rfl := Option.some.inj H
        go_wp2
        go_ret
        exact ⟨by first | rfl | (simp; done) | (simp [*]; done), by repeat (first | exact Drawn0.refl _ | apply Drawn0.step)⟩
      · replace c12 := Bool.eq_false_iff.mpr c12
        subst c12
        have H1 : (if t262 > t264 then (if a6 = 0 then (none) else (some (decide ((wrap64 (t262 - t264)) ≤ (wrap64 (a5 + (wrap64 (Int.tdiv t264 a6)))))))) else (if a6 = 0 then (none) else (some (decide ((wrap64 (t264 - t262)) ≤ (wrap64 (a5 + (wrap64 (Int.tdiv t262 a6))))))))) = some r := by rw [if_neg (show ¬ (false = true) by decide)] at H; exact H
        clear H
        have H := H1
        clear H1
        by_cases c13 : t262 > t264
        · rw [if_pos c13] at H
          have c13b0 : decide (t264 < t262) = true := decide_eq_true c13
          clear c13
          by_cases c14 : a6 = 0
          · rw [if_pos c14] at H
            exact absurd H (by simp)
          · rw [if_neg c14] at H
            have c14b0 : (a6 == 0) = false := beq_eq_false_iff_ne.mpr c14
            have c14b1 : (a6 != 0) = true := bne_iff_ne.mpr c14
            obtain rfl := Option.some.inj H
            go_wp2
            go_ret
            exact ⟨by first | rfl | (simp; done) | (simp [*]; done), by repeat (first | exact Drawn0.refl _ | apply Drawn0.step)⟩
        · rw [if_neg c13] at H
          have c13b0 : decide (t264 < t262) = false := decide_eq_false c13
          clear c13
          by_cases c15 : a6 = 0
          · rw [if_pos c15] at H
            exact absurd H (by simp)
          · rw [if_neg c15] at H
            have c15b0 : (a6 == 0) = false := beq_eq_false_iff_ne.mpr c15
            have c15b1 : (a6 != 0) = true := bne_iff_ne.mpr c15
            obtain rfl := Option.some.inj H
            go_wp2
            go_ret
            exact ⟨by first | rfl | (simp; done) | (simp [*]; done), by repeat (first | exact Drawn0.refl _ | apply Drawn0.step)⟩

end Go.Proofs.Ytahppppkepcbkaa.Fn
