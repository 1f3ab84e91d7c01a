-- Written by program (a turned copy of the kit's print) for this seat: functions, contracts. Lean checks it.
import Derived.Test.YtahppppkepcbkaaFnx0
import Derived.Test.YtahppppkepcbkaaFnx2
import Derived.Test.YtahppppkepcbkaaFnx5
import Derived.Test.YtahppppkepcbkaaAw16
import Derived.Test.YtahppppkepcbkaaExGuard
namespace Go.Proofs.Ytahppppkepcbkaa.Fn
open Go.RowKit Go.Proofs.YtahppppkepcbkaaW.PrintWords Go.Proofs.YtahppppkepcbkaaW.PrintLast Go.Proofs.YtahppppkepcbkaaW.PrintMore
attribute [local go_sem] max2_int min2_int max_two min_two max_three min_three max_four min_four   -- for this text's walks alone
set_option linter.unusedVariables false
set_option linter.unusedSimpArgs false

/-! ### tattlelaw04_ClockGuards: function 3 -/
def tattlelaw04_ClockGuards.j0 : Nat → Int → Int → Int → Int → Int → Bool → Option (Bool)
  | 0, _, _, _, _, _, _ => none
  | k + 1, x0, x1, x2, x7, x8, x27 => if x27 = true then (if x7 = 0 then (if x8 = 1 then ((tattlelaw04_awakeT.f).bind fun t149 => (some t149)) else (some false)) else (some false)) else (if x8 = 0 then (if x7 ≥ 0 then (if x7 ≤ x0 then ((tattleref04_Fits.f x7 x0 x1 x2).bind fun t150 => (if t150 = true then ((tattleref04_Fits.f (wrap64 (x7 + 1)) x0 x1 x2).bind fun t151 => (if t151 = true then (some false) else ((tattlelaw04_awakeT.f).bind fun t152 => (some t152)))) else (some false))) else (some false)) else (some false)) else (some false))
def tattlelaw04_ClockGuards.f (k : Nat) (a0 : Int) (a1 : Int) (a2 : Int) : Option (Bool) := (clock_Guard.f a0 a1 a2).bind fun bt146 => (if a0 < 0 then (tattlelaw04_ClockGuards.j0 k a0 a1 a2 bt146.1 bt146.2 true) else (if a0 > 1099511627776 then (tattlelaw04_ClockGuards.j0 k a0 a1 a2 bt146.1 bt146.2 true) else ((tattleref04_Bound.f a1 a2).bind fun t148 => (tattlelaw04_ClockGuards.j0 k a0 a1 a2 bt146.1 bt146.2 (!t148)))))
theorem tattlelaw04_ClockGuards.mono_l : ∀ k, (∀ y0 y1 y2 y3 y4 y5, LeO (tattlelaw04_ClockGuards.j0 k y0 y1 y2 y3 y4 y5) (tattlelaw04_ClockGuards.j0 (k + 1) y0 y1 y2 y3 y4 y5))
  | 0 => fun _ _ _ _ _ _ r h => by simp [tattlelaw04_ClockGuards.j0] at h
  | k + 1 => by
    have ih0 := tattlelaw04_ClockGuards.mono_l k
    · intro y0 y1 y2 y3 y4 y5
      unfold tattlelaw04_ClockGuards.j0
      repeat' first
      | (with_reducible exact ih0 _ _ _ _ _ _)
      | (with_reducible exact LeO.refl _)
      | (with_reducible exact LeO.none _)
      | (with_reducible refine LeO.ite ?_ ?_)
      | (with_reducible refine LeO.bind ?_ (fun _ => ?_))
      | exact ih0 _ _ _ _ _ _
      | exact LeO.none _
      | refine LeO.ite ?_ ?_
      | refine LeO.bind ?_ (fun _ => ?_)
theorem tattlelaw04_ClockGuards.mono : ∀ a0 a1 a2 k, LeO (tattlelaw04_ClockGuards.f k a0 a1 a2) (tattlelaw04_ClockGuards.f (k + 1) a0 a1 a2) := by
  intro a0 a1 a2 k
  have ih0 := tattlelaw04_ClockGuards.mono_l k
  unfold tattlelaw04_ClockGuards.f
  repeat' first
      | (with_reducible exact ih0 _ _ _ _ _ _)
      | (with_reducible exact LeO.refl _)
      | (with_reducible exact LeO.none _)
      | (with_reducible refine LeO.ite ?_ ?_)
      | (with_reducible refine LeO.bind ?_ (fun _ => ?_))
      | exact ih0 _ _ _ _ _ _
      | exact LeO.none _
      | refine LeO.ite ?_ ?_
      | refine LeO.bind ?_ (fun _ => ?_)
set_option maxHeartbeats 8000000 in
set_option maxRecDepth 100000 in
theorem tattlelaw04_ClockGuards.calls (k : Nat) (a0 : Int) (a1 : Int) (a2 : Int) (r : Bool) (w : World) (hrt : Aside0 (r = true)) (h : tattlelaw04_ClockGuards.f k a0 a1 a2 = some r) :
    Calls Try.prog 3 #[.int .i64 a0, .int .i64 a1, .int .i64 a2] w fun e w' => e = .returned (.bool r) ∧ Below w.heap.size w w' := by
  have HB := Aside0.mk (Below.refl w.heap.size w)
  have H : ((clock_Guard.f a0 a1 a2).bind fun bt146 => (if a0 < 0 then (tattlelaw04_ClockGuards.j0 k a0 a1 a2 bt146.1 bt146.2 true) else (if a0 > 1099511627776 then (tattlelaw04_ClockGuards.j0 k a0 a1 a2 bt146.1 bt146.2 true) else ((tattleref04_Bound.f a1 a2).bind fun t148 => (tattlelaw04_ClockGuards.j0 k a0 a1 a2 bt146.1 bt146.2 (!t148)))))) = some r := h
  clear h
  replace H := Option.bind_eq_some_iff.mp H
  obtain ⟨⟨t146, t147⟩, A40, H⟩ := H
  replace H : (if a0 < 0 then (tattlelaw04_ClockGuards.j0 k a0 a1 a2 t146 t147 true) else (if a0 > 1099511627776 then (tattlelaw04_ClockGuards.j0 k a0 a1 a2 t146 t147 true) else ((tattleref04_Bound.f a1 a2).bind fun t148 => (tattlelaw04_ClockGuards.j0 k a0 a1 a2 t146 t147 (!t148))))) = some r := H
  have A4 := Aside0.mk A40
  clear A40
  have HC5 := Aside0.mk H
  clear H
  go_enter Try.func3, Try.ntmps3
  go_upto_region 2 with (first | ((with_reducible refine gate_callee (f := 14) rfl ?_); refine goesL_ (some 13) rfl rfl Try.func14 (by kernel_rfl) rfl #[.int .i64 a0, .int .i64 a1, .int .i64 a2] rfl (by (try simp only [List.map_toArray, List.map_cons, List.map_nil]); first | done | rfl | (simp only [List.length_drop, List.length_take]; rfl)) ?_; (with_reducible refine (clock_Guard.calls a0 a1 a2 t146 t147 _ A4.out).mono ?_); rintro e w6 ⟨rfl, hb⟩; refine ⟨_, rfl, ?_⟩; have n0_ := Aside0.mk (below_step (by repeat (first | (with_reducible first | exact HB.out | apply below_alloc | apply pw_below_drewN | apply below_drew1) | exact HB.out)) hb); clear HB; have HB := n0_; clear n0_; (try clear hb); (try clear hb2); (try clear hk); (try clear hi)))
  (try simp only [Act.put, List.setIfInBounds_toArray, List.set_cons_zero, List.set_cons_succ])
  go_cut [27] (fun v27 wc => ∃ (kq : Nat) (x27_4 : Bool), v27 = .bool x27_4 ∧ Aside0 (tattlelaw04_ClockGuards.j0 kq a0 a1 a2 t146 t147 x27_4 = some r) ∧ Aside0 (kq ≤ k) ∧ Aside0 (Below w.heap.size w wc))
  case first =>
    have H := HC5.out
    clear HC5
    by_cases c7 : a0 < 0
    · rw [if_pos c7] at H
      have c7b0 : decide (a0 < 0) = true := decide_eq_true c7
      clear c7
      (first | rw [c7b0] | (simp only [i64_w, i32_w]; rw [c7b0]) | skip)
      have H' := Aside0.mk H
      clear H
      go_wp2
      go_meet
      case rel => exact ⟨_, (true), (by first | rfl | (simp; done) | (simp [*]; done)), H', ⟨by first | omega | exact Nat.le_refl _⟩, ⟨by repeat (first | (with_reducible first | exact HB.out | apply below_alloc | apply pw_below_drewN | apply below_drew1) | exact HB.out)⟩⟩
    · rw [if_neg c7] at H
      have c7b0 : decide (a0 < 0) = false := decide_eq_false c7
      clear c7
      (first | rw [c7b0] | (simp only [i64_w, i32_w]; rw [c7b0]) | skip)
      by_cases c8 : a0 > 1099511627776
      · rw [if_pos c8] at H
        have c8b0 : decide (1099511627776 < a0) = true := decide_eq_true c8
        clear c8
        have H' := Aside0.mk H
        clear H
        go_wp2
        go_meet
        case rel => exact ⟨_, (true), (by first | rfl | (simp; done) | (simp [*]; done)), H', ⟨by first | omega | exact Nat.le_refl _⟩, ⟨by repeat (first | (with_reducible first | exact HB.out | apply below_alloc | apply pw_below_drewN | apply below_drew1) | exact HB.out)⟩⟩
      · rw [if_neg c8] at H
        have c8b0 : decide (1099511627776 < a0) = false := decide_eq_false c8
        clear c8
        replace H := Option.bind_eq_some_iff.mp H
        obtain ⟨t148, A90, H⟩ := H
        replace H : (tattlelaw04_ClockGuards.j0 k a0 a1 a2 t146 t147 (!t148)) = some r := H
        have A9 := Aside0.mk A90
        clear A90
        have H' := Aside0.mk H
        clear H
        go_wp2_with (first | (go_at_call 15; (with_reducible refine (tattleref04_Bound.calls a1 a2 t148 _ A9.out).mono ?_); rintro e w' ⟨rfl, ⟨nd, rfl⟩⟩))
        go_meet
        case rel => exact ⟨_, (!t148), (by first | rfl | (simp; done) | (simp [*]; done)), H', ⟨by first | omega | exact Nat.le_refl _⟩, ⟨by repeat (first | (with_reducible first | exact HB.out | apply below_alloc | apply pw_below_drewN | apply below_drew1) | exact HB.out)⟩⟩
  case rest =>
    clear HC5
    try clear c1
    try clear p2
    try clear c3
    try clear c7
    try clear c7b0
    try clear c8
    try clear c8b0
    obtain ⟨kq, x27_4, rfl, HA, HJ4, HB⟩ := hcut
    cases kq with
    | zero => exact absurd HA.out (by simp [tattlelaw04_ClockGuards.j0])
    | succ kj4 =>
      have H := HA.out
      clear HA
      simp only [tattlelaw04_ClockGuards.j0] at H
      by_cases c10 : x27_4 = true
      · subst c10
        have H1 : (if t146 = 0 then (if t147 = 1 then ((tattlelaw04_awakeT.f).bind fun t149 => (some t149)) else (some false)) else (some false)) = some r := by rw [if_pos rfl] at H; exact H
        clear H
        have H := H1
        clear H1
        by_cases c11 : t146 = 0
        · rw [if_pos c11] at H
          have c11b0 : (t146 == 0) = true := beq_iff_eq.mpr c11
          have c11b1 : (t146 != 0) = false := bne_eq_false_iff_eq.mpr c11
          clear c11
          by_cases c12 : t147 = 1
          · rw [if_pos c12] at H
            have c12b0 : (t147 == 1) = true := beq_iff_eq.mpr c12
            have c12b1 : (t147 != 1) = false := bne_eq_false_iff_eq.mpr c12
            clear c12
            replace H := Option.bind_eq_some_iff.mp H
            obtain ⟨t149, A130, H⟩ := H
            replace H : (some t149) = some r := H
            have A13 := Aside0.mk A130
            clear A130
            obtain rfl := Option.some.inj H
            go_wp2_with (first | (go_at_call 16; (with_reducible refine (tattlelaw04_awakeT.calls  t149 _ A13.out).mono ?_); rintro e w14 ⟨rfl, hb⟩; have n0_ := Aside0.mk (below_step (by repeat (first | (with_reducible first | exact HB.out | apply below_alloc | apply pw_below_drewN | apply below_drew1) | exact HB.out)) hb); clear HB; have HB := n0_; clear n0_; (try clear hb); (try clear hb2); (try clear hk); (try clear hi)))
            go_ret
            exact ⟨by first | rfl | (simp [errW_none, errW_some] <;> rfl) | (simp [*, errW_none, errW_some] <;> rfl), by repeat (first | (with_reducible first | exact HB.out | apply below_alloc | apply pw_below_drewN | apply below_drew1) | exact HB.out)⟩
          · rw [if_neg c12] at H
            have c12b0 : (t147 == 1) = false := beq_eq_false_iff_ne.mpr c12
            have c12b1 : (t147 != 1) = true := bne_iff_ne.mpr c12
            exact absurd ((Option.some.inj H).trans hrt.out) (by decide)
        · rw [if_neg c11] at H
          have c11b0 : (t146 == 0) = false := beq_eq_false_iff_ne.mpr c11
          have c11b1 : (t146 != 0) = true := bne_iff_ne.mpr c11
          exact absurd ((Option.some.inj H).trans hrt.out) (by decide)
      · replace c10 := Bool.eq_false_iff.mpr c10
        subst c10
        have H1 : (if t147 = 0 then (if t146 ≥ 0 then (if t146 ≤ a0 then ((tattleref04_Fits.f t146 a0 a1 a2).bind fun t150 => (if t150 = true then ((tattleref04_Fits.f (wrap64 (t146 + 1)) a0 a1 a2).bind fun t151 => (if t151 = true then (some false) else ((tattlelaw04_awakeT.f).bind fun t152 => (some t152)))) else (some false))) else (some false)) else (some false)) else (some false)) = some r := by rw [if_neg (show ¬ (false = true) by decide)] at H; exact H
        clear H
        have H := H1
        clear H1
        by_cases c15 : t147 = 0
        · rw [if_pos c15] at H
          have c15b0 : (t147 == 0) = true := beq_iff_eq.mpr c15
          have c15b1 : (t147 != 0) = false := bne_eq_false_iff_eq.mpr c15
          clear c15
          by_cases c16 : t146 ≥ 0
          · rw [if_pos c16] at H
            have c16b0 : decide (0 ≤ t146) = true := decide_eq_true c16
            clear c16
            by_cases c17 : t146 ≤ a0
            · rw [if_pos c17] at H
              have c17b0 : decide (t146 ≤ a0) = true := decide_eq_true c17
              clear c17
              replace H := Option.bind_eq_some_iff.mp H
              obtain ⟨t150, A180, H⟩ := H
              replace H : (if t150 = true then ((tattleref04_Fits.f (wrap64 (t146 + 1)) a0 a1 a2).bind fun t151 => (if t151 = true then (some false) else ((tattlelaw04_awakeT.f).bind fun t152 => (some t152)))) else (some false)) = some r := H
              have A18 := Aside0.mk A180
              clear A180
              by_cases c19 : t150 = true
              · subst c19
                have H1 : ((tattleref04_Fits.f (wrap64 (t146 + 1)) a0 a1 a2).bind fun t151 => (if t151 = true then (some false) else ((tattlelaw04_awakeT.f).bind fun t152 => (some t152)))) = some r := by rw [if_pos rfl] at H; exact H
                clear H
                have H := H1
                clear H1
                replace H := Option.bind_eq_some_iff.mp H
                obtain ⟨t151, A200, H⟩ := H
                replace H : (if t151 = true then (some false) else ((tattlelaw04_awakeT.f).bind fun t152 => (some t152))) = some r := H
                have A20 := Aside0.mk A200
                clear A200
                by_cases c21 : t151 = true
                · subst c21
                  have H1 : (some false) = some r := by rw [if_pos rfl] at H; exact H
                  clear H
                  have H := H1
                  clear H1
                  exact absurd ((Option.some.inj H).trans hrt.out) (by decide)
                · replace c21 := Bool.eq_false_iff.mpr c21
                  subst c21
                  have H1 : ((tattlelaw04_awakeT.f).bind fun t152 => (some t152)) = some r := by rw [if_neg (show ¬ (false = true) by decide)] at H; exact H
                  clear H
                  have H := H1
                  clear H1
                  replace H := Option.bind_eq_some_iff.mp H
                  obtain ⟨t152, A220, H⟩ := H
                  replace H : (some t152) = some r := H
                  have A22 := Aside0.mk A220
                  clear A220
                  obtain rfl := Option.some.inj H
                  go_wp2_with (first | (go_at_call 17; (with_reducible refine (tattleref04_Fits.calls t146 a0 a1 a2 true _ A18.out).mono ?_); rintro e w' ⟨rfl, ⟨nd, rfl⟩⟩) | (go_at_call 17; (with_reducible refine (tattleref04_Fits.calls (wrap64 (t146 + 1)) a0 a1 a2 false _ A20.out).mono ?_); rintro e w' ⟨rfl, ⟨nd, rfl⟩⟩) | (go_at_call 16; (with_reducible refine (tattlelaw04_awakeT.calls  t152 _ A22.out).mono ?_); rintro e w23 ⟨rfl, hb⟩; have n0_ := Aside0.mk (below_step (by repeat (first | (with_reducible first | exact HB.out | apply below_alloc | apply pw_below_drewN | apply below_drew1) | exact HB.out)) hb); clear HB; have HB := n0_; clear n0_; (try clear hb); (try clear hb2); (try clear hk); (try clear hi)))
                  go_ret
                  exact ⟨by first | rfl | (simp [errW_none, errW_some] <;> rfl) | (simp [*, errW_none, errW_some] <;> rfl), by repeat (first | (with_reducible first | exact HB.out | apply below_alloc | apply pw_below_drewN | apply below_drew1) | exact HB.out)⟩
              · replace c19 := Bool.eq_false_iff.mpr c19
                subst c19
                have H1 : (some false) = some r := by rw [if_neg (show ¬ (false = true) by decide)] at H; exact H
                clear H
                have H := H1
                clear H1
                exact absurd ((Option.some.inj H).trans hrt.out) (by decide)
            · rw [if_neg c17] at H
              have c17b0 : decide (t146 ≤ a0) = false := decide_eq_false c17
              clear c17
              exact absurd ((Option.some.inj H).trans hrt.out) (by decide)
          · rw [if_neg c16] at H
            have c16b0 : decide (0 ≤ t146) = false := decide_eq_false c16
            clear c16
            exact absurd ((Option.some.inj H).trans hrt.out) (by decide)
        · rw [if_neg c15] at H
          have c15b0 : (t147 == 0) = false := beq_eq_false_iff_ne.mpr c15
          have c15b1 : (t147 != 0) = true := bne_iff_ne.mpr c15
          exact absurd ((Option.some.inj H).trans hrt.out) (by decide)

end Go.Proofs.Ytahppppkepcbkaa.Fn
