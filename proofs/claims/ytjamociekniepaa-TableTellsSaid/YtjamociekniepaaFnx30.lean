-- Written by program (a turned copy of the kit's print) for this seat: functions, contracts. Lean checks it.
import Derived.Test.YtjamociekniepaaFnx0
namespace Go.Proofs.Ytjamociekniepaa.Fn
open Go.RowKit Go.Proofs.YtjamociekniepaaW.PrintWords Go.Proofs.YtjamociekniepaaW.PrintLast Go.Proofs.YtjamociekniepaaW.PrintMore
attribute [local go_sem] max2_int min2_int max_two min_two max_three min_three max_four min_four   -- for this text's walks alone
set_option linter.unusedVariables false
set_option linter.unusedSimpArgs false

/-! ### tattleref06_Up: function 41 -/
def tattleref06_Up.l0 : Nat → List (S26) → List Int → Int → Option (List Int)
  | 0, _, _, _ => none
  | k + 1, x0, x3, x4 => if x4 < (x0.length : Int) then (if 0 ≤ x4 then (if ((rd_T26 x0 x4).f1) = 0 then (if x3.length < 17592186044416 then (tattleref06_Up.l0 k x0 (x3 ++ [x4]) (wrap64 (x4 + 1))) else (none)) else (if ((rd_T26 x0 x4).f1) = 1 then (if x3.length < 17592186044416 then (tattleref06_Up.l0 k x0 (x3 ++ [x4]) (wrap64 (x4 + 1))) else (none)) else (tattleref06_Up.l0 k x0 x3 (wrap64 (x4 + 1))))) else (none)) else (some x3)
def tattleref06_Up.f (k : Nat) (l0 : List (S26)) : Option (List Int) := tattleref06_Up.l0 k l0 ([] : List Int) 0
theorem tattleref06_Up.mono_l : ∀ k, (∀ y0 y1 y2, LeO (tattleref06_Up.l0 k y0 y1 y2) (tattleref06_Up.l0 (k + 1) y0 y1 y2))
  | 0 => fun _ _ _ r h => by simp [tattleref06_Up.l0] at h
  | k + 1 => by
    have ih0 := tattleref06_Up.mono_l k
    · intro y0 y1 y2
      unfold tattleref06_Up.l0
      repeat' first
      | (with_reducible exact ih0 _ _ _)
      | (with_reducible exact LeO.refl _)
      | (with_reducible exact LeO.none _)
      | (with_reducible refine LeO.ite ?_ ?_)
      | (with_reducible refine LeO.bind ?_ (fun _ => ?_))
      | exact ih0 _ _ _
      | exact LeO.none _
      | refine LeO.ite ?_ ?_
      | refine LeO.bind ?_ (fun _ => ?_)
theorem tattleref06_Up.mono : ∀ a0 k, LeO (tattleref06_Up.f k a0) (tattleref06_Up.f (k + 1) a0) := by
  intro a0 k
  have ih0 := tattleref06_Up.mono_l k
  unfold tattleref06_Up.f
  repeat' first
      | (with_reducible exact ih0 _ _ _)
      | (with_reducible exact LeO.refl _)
      | (with_reducible exact LeO.none _)
      | (with_reducible refine LeO.ite ?_ ?_)
      | (with_reducible refine LeO.bind ?_ (fun _ => ?_))
      | exact ih0 _ _ _
      | exact LeO.none _
      | refine LeO.ite ?_ ?_
      | refine LeO.bind ?_ (fun _ => ?_)
set_option maxHeartbeats 8000000 in
set_option maxRecDepth 100000 in
theorem tattleref06_Up.calls (k : Nat) (A0 : Option Addr) (c0 : Nat) (l0 : List (S26)) (r : List Int) (w : World) (hr0 : Kd.C k26 w A0 l0.length l0) (hc0 : l0.length ≤ c0) (h : tattleref06_Up.f k l0 = some r) :
    Calls Try.prog 41 #[.slice A0 l0.length c0] w fun e w' => ∃ v0_ : Value, e = .returned (v0_) ∧ Kd.R (Kd.int .i64) 3 w' w.heap.size (fun _ => True) v0_ r ∧ Below w.heap.size w w' := by
  have HR0 := Aside0.mk hr0
  have HC0 := Aside0.mk hc0
  clear hr0 hc0
  have HB := Aside0.mk (Below.refl w.heap.size w)
  have H : (tattleref06_Up.l0 k l0 ([] : List Int) 0) = some r := h
  clear h
  have H' := Aside0.mk H
  clear H
  go_enter Try.func41, Try.ntmps41
  go_wp2
  go_loopg [3, 4] k (fun kq v3 v4 w' => ∃ (x3_1 : List Int) (x4_1 : Int), v4 = .int .i64 x4_1 ∧ Aside0 (tattleref06_Up.l0 kq l0 x3_1 x4_1 = some r) ∧ Aside0 (kq ≤ k) ∧ Aside0 (Kd.R (Kd.int .i64) 3 w' w.heap.size (fun _ => True) v3 x3_1) ∧ Aside0 (Below w.heap.size w w'))
  case atStart => exact ⟨(([] : List Int)), (0), (by first | rfl | (simp; done) | (simp [*]; done)), H', ⟨Nat.le_refl _⟩, ⟨by first | exact Kd.R_nil _ _ _ _ _ | exact Kd.N_nil _ _ _ _ _ | exact Kd.V_nil _ _ _ _ _ | exact Kd.Q_nil _ _ _ _ _ | exact Kd.S_nil _ _ _ _ _⟩, ⟨by repeat (first | (with_reducible first | exact HB.out | apply below_alloc | apply pw_below_drewN | apply below_drew1) | exact HB.out)⟩⟩
  case round =>
    clear H'
    obtain ⟨x3_1, x4_1, rfl, HA, HK1, HO_3, HB⟩ := hrel
    cases gk with
    | zero => exact absurd HA.out (by simp [tattleref06_Up.l0])
    | succ k1 =>
      have H := HA.out
      clear HA
      simp only [tattleref06_Up.l0] at H
      by_cases c2 : x4_1 < (l0.length : Int)
      · rw [if_pos c2] at H
        have c2b0 : decide (x4_1 < (l0.length : Int)) = true := decide_eq_true c2
        clear c2
        by_cases c3 : 0 ≤ x4_1
        · rw [if_pos c3] at H
          have c3b0 : decide (0 ≤ x4_1) = true := decide_eq_true c3
          clear c3
          by_cases c4 : ((rd_T26 l0 x4_1).f1) = 0
          · rw [if_pos c4] at H
            have c4b0 : (((rd_T26 l0 x4_1).f1) == 0) = true := beq_iff_eq.mpr c4
            have c4b1 : (((rd_T26 l0 x4_1).f1) != 0) = false := bne_eq_false_iff_eq.mpr c4
            clear c4
            by_cases c5 : x3_1.length < 17592186044416
            · rw [if_pos c5] at H
              have LMc5 := Aside0.mk c5
              clear c5
              obtain ⟨y573, hy573⟩ : ∃ y_ : List Int, y_ = (x3_1 ++ [x4_1]) := ⟨_, rfl⟩
              replace H : (tattleref06_Up.l0 k1 l0 y573 (wrap64 (x4_1 + 1))) = some r := by first | (rw [hy573]; with_reducible exact H) | (have H2_ := (Option.bind_some _ _).symm.trans H; rw [hy573]; with_reducible exact H2_) | (have H2_ := (Option.bind_some _ _).symm.trans H; with_reducible exact H2_) | with_reducible exact H | (rw [hy573]; exact H) | exact H
              have Ny573 := Aside0.mk hy573
              clear hy573
              have H' := Aside0.mk H
              clear H
              have p572 : 0 ≤ (x4_1 : Int) := of_decide_eq_true (by first | (with_reducible assumption) | assumption)
              have q572 : x4_1 < (l0.length : Int) := of_decide_eq_true (by first | (with_reducible assumption) | assumption)
              obtain ⟨ad572, e572, hx572_0, hx572_1⟩ := at_T26 HR0.out x4_1 p572 q572
              cases e572
              replace hx572_0 := (HB.out.cell (World.block_lt_of_cell? w _ hx572_0)).trans hx572_0
              replace hx572_1 := (HB.out.cell (World.block_lt_of_cell? w _ hx572_1)).trans hx572_1
              replace p572 := eq_true p572
              replace q572 := eq_true q572
              go_wp2_with (first | ((with_reducible refine gate_builtin (b := .append) (xs := #[.tmp 25, .tmp 27]) rfl ?_); at_builtin; refine Kd.R_append (Kd.int .i64) (w0 := w) w.heap.size rfl (.tmp 25) (.tmp 27) 53 3 (.int .i64 0) 8 rfl Try.underlying53 info3 rfl (by decide) (by omega) u3 x3_1 x4_1 [.int .i64 x4_1] (fun _ => True) (fun _ => False) rfl rfl ?aP (fun _ hk => hk.elim) ?aF ?aO ?aB ?aS ?aL ?_; (case aP => exact rfl); (case aB => exact (by repeat (first | (with_reducible first | exact HB.out | apply below_alloc | apply pw_below_drewN | apply below_drew1) | exact HB.out))); (case aF => exact (fun _ _ => trivial)); (case aO => exact (by (with_reducible repeat (first | apply Kd.R_alloc | apply Kd.R_drewN | apply Kd.R_drew)); exact HO_3.out)); (case aS => exact (below_size (by repeat (first | (with_reducible first | exact HB.out | apply below_alloc | apply pw_below_drewN | apply below_drew1) | exact HB.out)))); (case aL => have := LMc5.out; omega); intro v574 w6 ho hb hg hat; rw [← Ny573.out] at ho; have n0_ := Aside0.mk (hb); have n1_ := Aside0.mk (ho); clear HB; clear HO_3; have HB := n0_; have HO575 := n1_; clear n0_ n1_; clear ho hb hg hat))
              go_roundg k1
              case measure => have := HK1.out; omega
              case rel => exact ⟨(y573), (wrap64 (x4_1 + 1)), (by first | rfl | (simp; done) | (simp [*]; done)), H', ⟨by have := HK1.out; omega⟩, ⟨by (with_reducible repeat (first | apply Kd.R_alloc | apply Kd.R_drewN | apply Kd.R_drew)); exact HO575.out⟩, ⟨by repeat (first | (with_reducible first | exact HB.out | apply below_alloc | apply pw_below_drewN | apply below_drew1) | exact HB.out)⟩⟩
            · rw [if_neg c5] at H
              exact absurd H (by simp)
          · rw [if_neg c4] at H
            have c4b0 : (((rd_T26 l0 x4_1).f1) == 0) = false := beq_eq_false_iff_ne.mpr c4
            have c4b1 : (((rd_T26 l0 x4_1).f1) != 0) = true := bne_iff_ne.mpr c4
            by_cases c7 : ((rd_T26 l0 x4_1).f1) = 1
            · rw [if_pos c7] at H
              have c7b0 : (((rd_T26 l0 x4_1).f1) == 1) = true := beq_iff_eq.mpr c7
              have c7b1 : (((rd_T26 l0 x4_1).f1) != 1) = false := bne_eq_false_iff_eq.mpr c7
              clear c7
              by_cases c8 : x3_1.length < 17592186044416
              · rw [if_pos c8] at H
                have LMc8 := Aside0.mk c8
                clear c8
                obtain ⟨y577, hy577⟩ : ∃ y_ : List Int, y_ = (x3_1 ++ [x4_1]) := ⟨_, rfl⟩
                replace H : (tattleref06_Up.l0 k1 l0 y577 (wrap64 (x4_1 + 1))) = some r := by first | (rw [hy577]; with_reducible exact H) | (have H2_ := (Option.bind_some _ _).symm.trans H; rw [hy577]; with_reducible exact H2_) | (have H2_ := (Option.bind_some _ _).symm.trans H; with_reducible exact H2_) | with_reducible exact H | (rw [hy577]; exact H) | exact H
                have Ny577 := Aside0.mk hy577
                clear hy577
                have H' := Aside0.mk H
                clear H
                have p572 : 0 ≤ (x4_1 : Int) := of_decide_eq_true (by first | (with_reducible assumption) | assumption)
                have q572 : x4_1 < (l0.length : Int) := of_decide_eq_true (by first | (with_reducible assumption) | assumption)
                obtain ⟨ad572, e572, hx572_0, hx572_1⟩ := at_T26 HR0.out x4_1 p572 q572
                cases e572
                replace hx572_0 := (HB.out.cell (World.block_lt_of_cell? w _ hx572_0)).trans hx572_0
                replace hx572_1 := (HB.out.cell (World.block_lt_of_cell? w _ hx572_1)).trans hx572_1
                replace p572 := eq_true p572
                replace q572 := eq_true q572
                have p576 : 0 ≤ (x4_1 : Int) := of_decide_eq_true (by first | (with_reducible assumption) | assumption)
                have q576 : x4_1 < (l0.length : Int) := of_decide_eq_true (by first | (with_reducible assumption) | assumption)
                obtain ⟨ad576, e576, hx576_0, hx576_1⟩ := at_T26 HR0.out x4_1 p576 q576
                obtain rfl : ad572 = ad576 := (by injection e576)
                replace hx576_0 := (HB.out.cell (World.block_lt_of_cell? w _ hx576_0)).trans hx576_0
                replace hx576_1 := (HB.out.cell (World.block_lt_of_cell? w _ hx576_1)).trans hx576_1
                replace p576 := eq_true p576
                replace q576 := eq_true q576
                go_wp2_with (first | ((with_reducible refine gate_builtin (b := .append) (xs := #[.tmp 25, .tmp 27]) rfl ?_); at_builtin; refine Kd.R_append (Kd.int .i64) (w0 := w) w.heap.size rfl (.tmp 25) (.tmp 27) 53 3 (.int .i64 0) 8 rfl Try.underlying53 info3 rfl (by decide) (by omega) u3 x3_1 x4_1 [.int .i64 x4_1] (fun _ => True) (fun _ => False) rfl rfl ?aP (fun _ hk => hk.elim) ?aF ?aO ?aB ?aS ?aL ?_; (case aP => exact rfl); (case aB => exact (by repeat (first | (with_reducible first | exact HB.out | apply below_alloc | apply pw_below_drewN | apply below_drew1) | exact HB.out))); (case aF => exact (fun _ _ => trivial)); (case aO => exact (by (with_reducible repeat (first | apply Kd.R_alloc | apply Kd.R_drewN | apply Kd.R_drew)); exact HO_3.out)); (case aS => exact (below_size (by repeat (first | (with_reducible first | exact HB.out | apply below_alloc | apply pw_below_drewN | apply below_drew1) | exact HB.out)))); (case aL => have := LMc8.out; omega); intro v578 w9 ho hb hg hat; rw [← Ny577.out] at ho; have n0_ := Aside0.mk (hb); have n1_ := Aside0.mk (ho); clear HB; clear HO_3; have HB := n0_; have HO579 := n1_; clear n0_ n1_; clear ho hb hg hat))
                go_roundg k1
                case measure => have := HK1.out; omega
                case rel => exact ⟨(y577), (wrap64 (x4_1 + 1)), (by first | rfl | (simp; done) | (simp [*]; done)), H', ⟨by have := HK1.out; omega⟩, ⟨by (with_reducible repeat (first | apply Kd.R_alloc | apply Kd.R_drewN | apply Kd.R_drew)); exact HO579.out⟩, ⟨by repeat (first | (with_reducible first | exact HB.out | apply below_alloc | apply pw_below_drewN | apply below_drew1) | exact HB.out)⟩⟩
              · rw [if_neg c8] at H
                exact absurd H (by simp)
            · rw [if_neg c7] at H
              have c7b0 : (((rd_T26 l0 x4_1).f1) == 1) = false := beq_eq_false_iff_ne.mpr c7
              have c7b1 : (((rd_T26 l0 x4_1).f1) != 1) = true := bne_iff_ne.mpr c7
              have H' := Aside0.mk H
              clear H
              have p572 : 0 ≤ (x4_1 : Int) := of_decide_eq_true (by first | (with_reducible assumption) | assumption)
              have q572 : x4_1 < (l0.length : Int) := of_decide_eq_true (by first | (with_reducible assumption) | assumption)
              obtain ⟨ad572, e572, hx572_0, hx572_1⟩ := at_T26 HR0.out x4_1 p572 q572
              cases e572
              replace hx572_0 := (HB.out.cell (World.block_lt_of_cell? w _ hx572_0)).trans hx572_0
              replace hx572_1 := (HB.out.cell (World.block_lt_of_cell? w _ hx572_1)).trans hx572_1
              replace p572 := eq_true p572
              replace q572 := eq_true q572
              have p576 : 0 ≤ (x4_1 : Int) := of_decide_eq_true (by first | (with_reducible assumption) | assumption)
              have q576 : x4_1 < (l0.length : Int) := of_decide_eq_true (by first | (with_reducible assumption) | assumption)
              obtain ⟨ad576, e576, hx576_0, hx576_1⟩ := at_T26 HR0.out x4_1 p576 q576
              obtain rfl : ad572 = ad576 := (by injection e576)
              replace hx576_0 := (HB.out.cell (World.block_lt_of_cell? w _ hx576_0)).trans hx576_0
              replace hx576_1 := (HB.out.cell (World.block_lt_of_cell? w _ hx576_1)).trans hx576_1
              replace p576 := eq_true p576
              replace q576 := eq_true q576
              go_wp2
              go_roundg k1
              case measure => have := HK1.out; omega
              case rel => exact ⟨(x3_1), (wrap64 (x4_1 + 1)), (by first | rfl | (simp; done) | (simp [*]; done)), H', ⟨by have := HK1.out; omega⟩, ⟨by (with_reducible repeat (first | apply Kd.R_alloc | apply Kd.R_drewN | apply Kd.R_drew)); exact HO_3.out⟩, ⟨by repeat (first | (with_reducible first | exact HB.out | apply below_alloc | apply pw_below_drewN | apply below_drew1) | exact HB.out)⟩⟩
        · rw [if_neg c3] at H
          exact absurd H (by simp)
      · rw [if_neg c2] at H
        have c2b0 : decide (x4_1 < (l0.length : Int)) = false := decide_eq_false c2
        clear c2
        obtain rfl := Option.some.inj H
        go_wp2
        go_ret
        exact ⟨_, by first | rfl | (simp [errW_none, errW_some] <;> rfl) | (simp [*, errW_none, errW_some] <;> rfl), by (with_reducible repeat (first | apply Kd.R_alloc | apply Kd.R_drewN | apply Kd.R_drew)); exact HO_3.out, by repeat (first | (with_reducible first | exact HB.out | apply below_alloc | apply pw_below_drewN | apply below_drew1) | exact HB.out)⟩

end Go.Proofs.Ytjamociekniepaa.Fn
