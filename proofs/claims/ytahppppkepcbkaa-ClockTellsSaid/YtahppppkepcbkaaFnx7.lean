-- Written by program (a turned copy of the kit's print) for this seat: functions, contracts. Lean checks it.
import Derived.Test.YtahppppkepcbkaaFnx0
namespace Go.Proofs.Ytahppppkepcbkaa.Fn
open Go.RowKit Go.Proofs.YtahppppkepcbkaaW.PrintWords Go.Proofs.YtahppppkepcbkaaW.PrintLast Go.Proofs.YtahppppkepcbkaaW.PrintMore
attribute [local go_sem] max2_int min2_int max_two min_two max_three min_three max_four min_four   -- for this text's walks alone
set_option linter.unusedVariables false
set_option linter.unusedSimpArgs false

/-! ### tattlelaw04_Few: function 18 -/
def tattlelaw04_Few.j0 : Nat → List (S87) → Bool → Option ((List (S87)))
  | 0, _, _ => none
  | k + 1, x0, x10 => if x10 = true then (if 24 ≤ (x0.length : Int) then (some (x0.take 24)) else (none)) else (if (x0.length : Int) > 401 then (if 401 ≤ (x0.length : Int) then (some (x0.take 401)) else (none)) else (some x0))
def tattlelaw04_Few.f (k : Nat) (l0 : List (S87)) : Option ((List (S87))) := if (l0.length : Int) > 24 then (tattlelaw04_Few.j0 k l0 (decide ((l0.length : Int) ≤ 400))) else (tattlelaw04_Few.j0 k l0 false)
theorem tattlelaw04_Few.mono_l : ∀ k, (∀ y0 y1, LeO (tattlelaw04_Few.j0 k y0 y1) (tattlelaw04_Few.j0 (k + 1) y0 y1))
  | 0 => fun _ _ r h => by simp [tattlelaw04_Few.j0] at h
  | k + 1 => by
    have ih0 := tattlelaw04_Few.mono_l k
    · intro y0 y1
      unfold tattlelaw04_Few.j0
      repeat' first
      | (with_reducible exact ih0 _ _)
      | (with_reducible exact LeO.refl _)
      | (with_reducible exact LeO.none _)
      | (with_reducible refine LeO.ite ?_ ?_)
      | (with_reducible refine LeO.bind ?_ (fun _ => ?_))
      | exact ih0 _ _
      | exact LeO.none _
      | refine LeO.ite ?_ ?_
      | refine LeO.bind ?_ (fun _ => ?_)
theorem tattlelaw04_Few.mono : ∀ a0 k, LeO (tattlelaw04_Few.f k a0) (tattlelaw04_Few.f (k + 1) a0) := by
  intro a0 k
  have ih0 := tattlelaw04_Few.mono_l k
  unfold tattlelaw04_Few.f
  repeat' first
      | (with_reducible exact ih0 _ _)
      | (with_reducible exact LeO.refl _)
      | (with_reducible exact LeO.none _)
      | (with_reducible refine LeO.ite ?_ ?_)
      | (with_reducible refine LeO.bind ?_ (fun _ => ?_))
      | exact ih0 _ _
      | exact LeO.none _
      | refine LeO.ite ?_ ?_
      | refine LeO.bind ?_ (fun _ => ?_)
set_option maxHeartbeats 8000000 in
set_option maxRecDepth 100000 in
theorem tattlelaw04_Few.calls (k : Nat) (P0_ : Nat → Prop) (A0 : Option Addr) (c0 : Nat) (l0 : List (S87)) (r : List (S87)) (w : World) (hs0 : Kd.V k87 87 w w.heap.size (fun k_ => P0_ k_) (.slice A0 l0.length c0) l0) (h : tattlelaw04_Few.f k l0 = some r) :
    Calls Try.prog 18 #[.slice A0 l0.length c0] w fun e w' => ∃ v0_ : Value, e = .returned (v0_) ∧ Kd.V k87 87 w' w.heap.size (fun k_ => (P0_ k_ ∨ w.heap.size ≤ k_)) v0_ r ∧ Below w.heap.size w w' := by
  have HO0 := Aside0.mk (show Kd.V k87 87 w w.heap.size (fun k_ => (P0_ k_ ∨ w.heap.size ≤ k_)) (.slice A0 l0.length c0) l0 from Kd.V_mono hs0 (fun k_ hk => .inl hk))
  have HB := Aside0.mk (Below.refl w.heap.size w)
  have H : (if (l0.length : Int) > 24 then (tattlelaw04_Few.j0 k l0 (decide ((l0.length : Int) ≤ 400))) else (tattlelaw04_Few.j0 k l0 false)) = some r := h
  clear h
  have HC2 := Aside0.mk H
  clear H
  go_enter Try.func18, Try.ntmps18
  go_upto_region 1 with (fail)
  go_cut [10] (fun v10 wc => ∃ (kq : Nat) (x10_1 : Bool), v10 = .bool x10_1 ∧ Aside0 (tattlelaw04_Few.j0 kq l0 x10_1 = some r) ∧ Aside0 (kq ≤ k) ∧ Aside0 (Kd.V k87 87 wc w.heap.size (fun k_ => (P0_ k_ ∨ w.heap.size ≤ k_)) (.slice A0 l0.length c0) l0) ∧ Aside0 (Below w.heap.size w wc))
  case first =>
    have H := HC2.out
    clear HC2
    by_cases c3 : (l0.length : Int) > 24
    · rw [if_pos c3] at H
      have c3b0 : decide (24 < (l0.length : Int)) = true := decide_eq_true c3
      have c3b1 : decide (24 < l0.length) = true := decide_eq_true (by omega)
      clear c3
      (first | rw [c3b0] | (simp only [i64_w, i32_w]; rw [c3b0]) | skip)
      have H' := Aside0.mk H
      clear H
      go_wp2
      go_meet
      case rel => exact ⟨_, (decide ((l0.length : Int) ≤ 400)), (by first | rfl | (simp; done) | (simp [*]; done)), H', ⟨by first | omega | exact Nat.le_refl _⟩, ⟨by (with_reducible repeat (first | apply Kd.V_alloc | apply Kd.V_drewN | apply Kd.V_drew)); exact HO0.out⟩, ⟨by repeat (first | (with_reducible first | exact HB.out | apply below_alloc | apply pw_below_drewN | apply below_drew1) | exact HB.out)⟩⟩
    · rw [if_neg c3] at H
      have c3b0 : decide (24 < (l0.length : Int)) = false := decide_eq_false c3
      have c3b1 : decide (24 < l0.length) = false := decide_eq_false (by omega)
      clear c3
      (first | rw [c3b0] | (simp only [i64_w, i32_w]; rw [c3b0]) | skip)
      have H' := Aside0.mk H
      clear H
      go_wp2
      go_meet
      case rel => exact ⟨_, (false), (by first | rfl | (simp; done) | (simp [*]; done)), H', ⟨by first | omega | exact Nat.le_refl _⟩, ⟨by (with_reducible repeat (first | apply Kd.V_alloc | apply Kd.V_drewN | apply Kd.V_drew)); exact HO0.out⟩, ⟨by repeat (first | (with_reducible first | exact HB.out | apply below_alloc | apply pw_below_drewN | apply below_drew1) | exact HB.out)⟩⟩
  case rest =>
    clear HC2
    try clear c1
    try clear p2
    try clear c3
    try clear c3b0
    try clear c3b1
    obtain ⟨kq, x10_1, rfl, HA, HJ1, HO_0, HB⟩ := hcut
    cases kq with
    | zero => exact absurd HA.out (by simp [tattlelaw04_Few.j0])
    | succ kj1 =>
      have H := HA.out
      clear HA
      simp only [tattlelaw04_Few.j0] at H
      by_cases c4 : x10_1 = true
      · subst c4
        have H1 : (if 24 ≤ (l0.length : Int) then (some (l0.take 24)) else (none)) = some r := by rw [if_pos rfl] at H; exact H
        clear H
        have H := H1
        clear H1
        by_cases c5 : 24 ≤ (l0.length : Int)
        · rw [if_pos c5] at H
          have c5b0 := eq_true c5
          have c5b1 : decide (24 ≤ (l0.length : Int)) = true := decide_eq_true c5
          clear c5
          obtain ⟨y153, hy153⟩ : ∃ y_ : List (S87), y_ = (l0.take 24) := ⟨_, rfl⟩
          replace H : (some y153) = some r := by first | (rw [hy153]; with_reducible exact H) | (have H2_ := (Option.bind_some _ _).symm.trans H; rw [hy153]; with_reducible exact H2_) | (have H2_ := (Option.bind_some _ _).symm.trans H; with_reducible exact H2_) | with_reducible exact H | (rw [hy153]; exact H) | exact H
          have Ny153 := Aside0.mk hy153
          clear hy153
          obtain rfl := Option.some.inj H
          have q6 : (24 : Int) ≤ ((l0.length : Int) : Int) := of_decide_eq_true (by first | (with_reducible assumption) | assumption)
          obtain ⟨i06, hi06, _, hsz6, _⟩ := info_parts info87
          have hroom6 : l0.length ≤ c0 := (Kd.V_reads' HO_0.out).2.1
          have hC6 : Kd.F k87 _ _ A0 l0.length l0 := (Kd.V_at (base := w.heap.size) HO_0.out).2.2
          have hcut6 := cut_to (P := Try.prog) 29 87 .i64 Try.underlying29 hi06 A0 l0.length c0 24 (by omega) q6 hroom6
          have hr6 := Kd.F_take (m := 24) hC6 (by omega)
          have hy6 : y153.length = (24 : Int).toNat := (by rw [Ny153.out, List.length_take]; omega)
          rw [← Ny153.out] at hr6
          rw [← hy6] at hcut6
          have HO157 := Aside0.mk (show Kd.V k87 87 _ w.heap.size _ (.slice A0 y153.length c0) y153 from Kd.V_mk (by omega) hr6)
          have HC157 := Aside0.mk (show y153.length ≤ c0 from by omega)
          clear hr6 hC6 hroom6 hi06 hsz6
          have KY6 := Aside0.mk hy6
          clear hy6
          replace q6 := eq_true q6
          go_wp2
          go_ret
          exact ⟨_, by first | rfl | (simp [errW_none, errW_some] <;> rfl) | (simp [*, errW_none, errW_some] <;> rfl), by (with_reducible repeat (first | apply Kd.V_alloc | apply Kd.V_drewN | apply Kd.V_drew)); exact HO157.out, by repeat (first | (with_reducible first | exact HB.out | apply below_alloc | apply pw_below_drewN | apply below_drew1) | exact HB.out)⟩
        · rw [if_neg c5] at H
          exact absurd H (by simp)
      · replace c4 := Bool.eq_false_iff.mpr c4
        subst c4
        have H1 : (if (l0.length : Int) > 401 then (if 401 ≤ (l0.length : Int) then (some (l0.take 401)) else (none)) else (some l0)) = some r := by rw [if_neg (show ¬ (false = true) by decide)] at H; exact H
        clear H
        have H := H1
        clear H1
        by_cases c7 : (l0.length : Int) > 401
        · rw [if_pos c7] at H
          have c7b0 : decide (401 < (l0.length : Int)) = true := decide_eq_true c7
          have c7b1 : decide (401 < l0.length) = true := decide_eq_true (by omega)
          clear c7
          by_cases c8 : 401 ≤ (l0.length : Int)
          · rw [if_pos c8] at H
            have c8b0 := eq_true c8
            have c8b1 : decide (401 ≤ (l0.length : Int)) = true := decide_eq_true c8
            clear c8
            obtain ⟨y158, hy158⟩ : ∃ y_ : List (S87), y_ = (l0.take 401) := ⟨_, rfl⟩
            replace H : (some y158) = some r := by first | (rw [hy158]; with_reducible exact H) | (have H2_ := (Option.bind_some _ _).symm.trans H; rw [hy158]; with_reducible exact H2_) | (have H2_ := (Option.bind_some _ _).symm.trans H; with_reducible exact H2_) | with_reducible exact H | (rw [hy158]; exact H) | exact H
            have Ny158 := Aside0.mk hy158
            clear hy158
            obtain rfl := Option.some.inj H
            have q9 : (401 : Int) ≤ ((l0.length : Int) : Int) := of_decide_eq_true (by first | (with_reducible assumption) | assumption)
            obtain ⟨i09, hi09, _, hsz9, _⟩ := info_parts info87
            have hroom9 : l0.length ≤ c0 := (Kd.V_reads' HO_0.out).2.1
            have hC9 : Kd.F k87 _ _ A0 l0.length l0 := (Kd.V_at (base := w.heap.size) HO_0.out).2.2
            have hcut9 := cut_to (P := Try.prog) 29 87 .i64 Try.underlying29 hi09 A0 l0.length c0 401 (by omega) q9 hroom9
            have hr9 := Kd.F_take (m := 401) hC9 (by omega)
            have hy9 : y158.length = (401 : Int).toNat := (by rw [Ny158.out, List.length_take]; omega)
            rw [← Ny158.out] at hr9
            rw [← hy9] at hcut9
            have HO162 := Aside0.mk (show Kd.V k87 87 _ w.heap.size _ (.slice A0 y158.length c0) y158 from Kd.V_mk (by omega) hr9)
            have HC162 := Aside0.mk (show y158.length ≤ c0 from by omega)
            clear hr9 hC9 hroom9 hi09 hsz9
            have KY9 := Aside0.mk hy9
            clear hy9
            replace q9 := eq_true q9
            go_wp2
            go_ret
            exact ⟨_, by first | rfl | (simp [errW_none, errW_some] <;> rfl) | (simp [*, errW_none, errW_some] <;> rfl), by (with_reducible repeat (first | apply Kd.V_alloc | apply Kd.V_drewN | apply Kd.V_drew)); exact HO162.out, by repeat (first | (with_reducible first | exact HB.out | apply below_alloc | apply pw_below_drewN | apply below_drew1) | exact HB.out)⟩
          · rw [if_neg c8] at H
            exact absurd H (by simp)
        · rw [if_neg c7] at H
          have c7b0 : decide (401 < (l0.length : Int)) = false := decide_eq_false c7
          have c7b1 : decide (401 < l0.length) = false := decide_eq_false (by omega)
          clear c7
          obtain rfl := Option.some.inj H
          go_wp2
          go_ret
          exact ⟨_, by first | rfl | (simp [errW_none, errW_some] <;> rfl) | (simp [*, errW_none, errW_some] <;> rfl), by (with_reducible repeat (first | apply Kd.V_alloc | apply Kd.V_drewN | apply Kd.V_drew)); exact HO_0.out, by repeat (first | (with_reducible first | exact HB.out | apply below_alloc | apply pw_below_drewN | apply below_drew1) | exact HB.out)⟩

end Go.Proofs.Ytahppppkepcbkaa.Fn
