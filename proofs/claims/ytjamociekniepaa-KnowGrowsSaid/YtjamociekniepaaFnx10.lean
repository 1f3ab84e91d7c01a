-- Written by program (a turned copy of the kit's print) for this seat: functions, contracts. Lean checks it.
import Derived.Test.YtjamociekniepaaFnx0
import Derived.Test.YtjamociekniepaaFnx1
import Derived.Test.YtjamociekniepaaFnx2
import Derived.Test.YtjamociekniepaaFnx3
import Derived.Test.YtjamociekniepaaFnx4
import Derived.Test.YtjamociekniepaaAw18
namespace Go.Proofs.Ytjamociekniepaa.Fn
open Go.RowKit Go.Proofs.YtjamociekniepaaW.PrintWords Go.Proofs.YtjamociekniepaaW.PrintLast Go.Proofs.YtjamociekniepaaW.PrintMore
attribute [local go_sem] max2_int min2_int max_two min_two max_three min_three max_four min_four   -- for this text's walks alone
set_option linter.unusedVariables false
set_option linter.unusedSimpArgs false

attribute [local go_sem high] eqA26
/-! ### tattlelaw05_KnowGrows: function 6 -/
mutual
def tattlelaw05_KnowGrows.j0 : Nat → List (S26) → List Int → Bool → Option (Bool)
  | 0, _, _, _ => none
  | k + 1, x0, x1, x23 => if x23 = true then ((tattlelaw05_awakeT.f).bind fun t227 => (some t227)) else ((know_Join.f k x0).bind fun bt228 => (tattlelaw05_KnowGrows.l0 k x0 x1 bt228.2.2 0 bt228.1 bt228.2.1 0 0))
def tattlelaw05_KnowGrows.l0 : Nat → List (S26) → List Int → Int → Int → Int → Int → Int → Int → Option (Bool)
  | 0, _, _, _, _, _, _, _, _ => none
  | k + 1, x0, x1, x6, x8, x232000, x232001, x233000, x233001 => if x8 < (x1.length : Int) then (tattlelaw05_KnowGrows.j2 k x0 x1 x6 x8 (decide (x8 < 60)) x232000 x232001 x233000 x233001) else (tattlelaw05_KnowGrows.j2 k x0 x1 x6 x8 false x232000 x232001 x233000 x233001)
def tattlelaw05_KnowGrows.j2 : Nat → List (S26) → List Int → Int → Int → Bool → Int → Int → Int → Int → Option (Bool)
  | 0, _, _, _, _, _, _, _, _, _ => none
  | k + 1, x0, x1, x6, x8, x38, x232000, x232001, x233000, x233001 => if x38 = true then (if 0 ≤ x8 then (if x8 < (x1.length : Int) then (if (x0.length : Int) = 0 then (none) else (if 0 ≤ (Int.tmod (wrap64 (rd x1 x8)) (x0.length : Int)) then (if (Int.tmod (wrap64 (rd x1 x8)) (x0.length : Int)) < (x0.length : Int) then ((know_Join.f k (([(⟨x233000, x233001⟩ : S26), (⟨(rd_T26 x0 (Int.tmod (wrap64 (rd x1 x8)) (x0.length : Int))).f0, (rd_T26 x0 (Int.tmod (wrap64 (rd x1 x8)) (x0.length : Int))).f1⟩ : S26)] : List (S26)))).bind fun bt238 => (if bt238.2.2 = 0 then ((know_Beats.f k x233000 x233001 bt238.1 bt238.2.1).bind fun t242 => (if t242 = true then (some false) else (tattlelaw05_KnowGrows.l0 k x0 x1 x6 (wrap64 (x8 + 1)) x232000 x232001 bt238.1 bt238.2.1))) else (some false))) else (none)) else (none))) else (none)) else (none)) else (tattlelaw05_KnowGrows.l1 k x0 x6 (wrap64 ((x0.length : Int) - 1)) x232000 x232001 x233000 x233001)
def tattlelaw05_KnowGrows.l1 : Nat → List (S26) → Int → Int → Int → Int → Int → Int → Option (Bool)
  | 0, _, _, _, _, _, _, _ => none
  | k + 1, x0, x6, x11, x232000, x232001, x233000, x233001 => if x11 ≥ 0 then (if 0 ≤ x11 then (if x11 < (x0.length : Int) then ((know_Join.f k (([(⟨(rd_T26 x0 x11).f0, (rd_T26 x0 x11).f1⟩ : S26), (⟨x233000, x233001⟩ : S26)] : List (S26)))).bind fun bt247 => (if bt247.2.2 = 0 then (tattlelaw05_KnowGrows.l1 k x0 x6 (wrap64 (x11 - 1)) x232000 x232001 bt247.1 bt247.2.1) else (some false))) else (none)) else (none)) else (if x6 = 0 then (if (x233000 == x232000 && (x233001 == x232001)) = true then ((tattlelaw05_awakeT.f).bind fun t251 => (some t251)) else (some false)) else (some false))
end
def tattlelaw05_KnowGrows.f (k : Nat) (l0 : List (S26)) (l1 : List Int) : Option (Bool) := (tattlelaw05_few.f l0).bind fun t223 => ((know_Check.f k t223).bind fun t226 => (if t226 = 0 then (tattlelaw05_KnowGrows.j0 k t223 l1 ((t223.length : Int) == 0)) else (tattlelaw05_KnowGrows.j0 k t223 l1 true)))
theorem tattlelaw05_KnowGrows.mono_l : ∀ k, (∀ y0 y1 y2, LeO (tattlelaw05_KnowGrows.j0 k y0 y1 y2) (tattlelaw05_KnowGrows.j0 (k + 1) y0 y1 y2)) ∧ (∀ y0 y1 y2 y3 y4 y5 y6 y7, LeO (tattlelaw05_KnowGrows.l0 k y0 y1 y2 y3 y4 y5 y6 y7) (tattlelaw05_KnowGrows.l0 (k + 1) y0 y1 y2 y3 y4 y5 y6 y7)) ∧ (∀ y0 y1 y2 y3 y4 y5 y6 y7 y8, LeO (tattlelaw05_KnowGrows.j2 k y0 y1 y2 y3 y4 y5 y6 y7 y8) (tattlelaw05_KnowGrows.j2 (k + 1) y0 y1 y2 y3 y4 y5 y6 y7 y8)) ∧ (∀ y0 y1 y2 y3 y4 y5 y6, LeO (tattlelaw05_KnowGrows.l1 k y0 y1 y2 y3 y4 y5 y6) (tattlelaw05_KnowGrows.l1 (k + 1) y0 y1 y2 y3 y4 y5 y6))
  | 0 => ⟨fun _ _ _ r h => by simp [tattlelaw05_KnowGrows.j0] at h, fun _ _ _ _ _ _ _ _ r h => by simp [tattlelaw05_KnowGrows.l0] at h, fun _ _ _ _ _ _ _ _ _ r h => by simp [tattlelaw05_KnowGrows.j2] at h, fun _ _ _ _ _ _ _ r h => by simp [tattlelaw05_KnowGrows.l1] at h⟩
  | k + 1 => by
    obtain ⟨ih0, ih1, ih2, ih3⟩ := tattlelaw05_KnowGrows.mono_l k
    refine ⟨?_, ?_, ?_, ?_⟩
    · intro y0 y1 y2
      unfold tattlelaw05_KnowGrows.j0
      repeat' first
      | (with_reducible exact ih0 _ _ _)
      | (with_reducible exact ih1 _ _ _ _ _ _ _ _)
      | (with_reducible exact ih2 _ _ _ _ _ _ _ _ _)
      | (with_reducible exact ih3 _ _ _ _ _ _ _)
      | (with_reducible exact know_Beats.mono _ _ _ _ _)
      | (with_reducible exact know_Check.mono _ _)
      | (with_reducible exact know_Join.mono _ _)
      | (with_reducible exact LeO.refl _)
      | (with_reducible exact LeO.none _)
      | (with_reducible refine LeO.ite ?_ ?_)
      | (with_reducible refine LeO.bind ?_ (fun _ => ?_))
      | exact ih0 _ _ _
      | exact ih1 _ _ _ _ _ _ _ _
      | exact ih2 _ _ _ _ _ _ _ _ _
      | exact ih3 _ _ _ _ _ _ _
      | exact know_Beats.mono _ _ _ _ _
      | exact know_Check.mono _ _
      | exact know_Join.mono _ _
      | exact LeO.none _
      | refine LeO.ite ?_ ?_
      | refine LeO.bind ?_ (fun _ => ?_)
    · intro y0 y1 y2 y3 y4 y5 y6 y7
      unfold tattlelaw05_KnowGrows.l0
      repeat' first
      | (with_reducible exact ih0 _ _ _)
      | (with_reducible exact ih1 _ _ _ _ _ _ _ _)
      | (with_reducible exact ih2 _ _ _ _ _ _ _ _ _)
      | (with_reducible exact ih3 _ _ _ _ _ _ _)
      | (with_reducible exact know_Beats.mono _ _ _ _ _)
      | (with_reducible exact know_Check.mono _ _)
      | (with_reducible exact know_Join.mono _ _)
      | (with_reducible exact LeO.refl _)
      | (with_reducible exact LeO.none _)
      | (with_reducible refine LeO.ite ?_ ?_)
      | (with_reducible refine LeO.bind ?_ (fun _ => ?_))
      | exact ih0 _ _ _
      | exact ih1 _ _ _ _ _ _ _ _
      | exact ih2 _ _ _ _ _ _ _ _ _
      | exact ih3 _ _ _ _ _ _ _
      | exact know_Beats.mono _ _ _ _ _
      | exact know_Check.mono _ _
      | exact know_Join.mono _ _
      | exact LeO.none _
      | refine LeO.ite ?_ ?_
      | refine LeO.bind ?_ (fun _ => ?_)
    · intro y0 y1 y2 y3 y4 y5 y6 y7 y8
      unfold tattlelaw05_KnowGrows.j2
      repeat' first
      | (with_reducible exact ih0 _ _ _)
      | (with_reducible exact ih1 _ _ _ _ _ _ _ _)
      | (with_reducible exact ih2 _ _ _ _ _ _ _ _ _)
      | (with_reducible exact ih3 _ _ _ _ _ _ _)
      | (with_reducible exact know_Beats.mono _ _ _ _ _)
      | (with_reducible exact know_Check.mono _ _)
      | (with_reducible exact know_Join.mono _ _)
      | (with_reducible exact LeO.refl _)
      | (with_reducible exact LeO.none _)
      | (with_reducible refine LeO.ite ?_ ?_)
      | (with_reducible refine LeO.bind ?_ (fun _ => ?_))
      | exact ih0 _ _ _
      | exact ih1 _ _ _ _ _ _ _ _
      | exact ih2 _ _ _ _ _ _ _ _ _
      | exact ih3 _ _ _ _ _ _ _
      | exact know_Beats.mono _ _ _ _ _
      | exact know_Check.mono _ _
      | exact know_Join.mono _ _
      | exact LeO.none _
      | refine LeO.ite ?_ ?_
      | refine LeO.bind ?_ (fun _ => ?_)
    · intro y0 y1 y2 y3 y4 y5 y6
      unfold tattlelaw05_KnowGrows.l1
      repeat' first
      | (with_reducible exact ih0 _ _ _)
      | (with_reducible exact ih1 _ _ _ _ _ _ _ _)
      | (with_reducible exact ih2 _ _ _ _ _ _ _ _ _)
      | (with_reducible exact ih3 _ _ _ _ _ _ _)
      | (with_reducible exact know_Beats.mono _ _ _ _ _)
      | (with_reducible exact know_Check.mono _ _)
      | (with_reducible exact know_Join.mono _ _)
      | (with_reducible exact LeO.refl _)
      | (with_reducible exact LeO.none _)
      | (with_reducible refine LeO.ite ?_ ?_)
      | (with_reducible refine LeO.bind ?_ (fun _ => ?_))
      | exact ih0 _ _ _
      | exact ih1 _ _ _ _ _ _ _ _
      | exact ih2 _ _ _ _ _ _ _ _ _
      | exact ih3 _ _ _ _ _ _ _
      | exact know_Beats.mono _ _ _ _ _
      | exact know_Check.mono _ _
      | exact know_Join.mono _ _
      | exact LeO.none _
      | refine LeO.ite ?_ ?_
      | refine LeO.bind ?_ (fun _ => ?_)
theorem tattlelaw05_KnowGrows.mono : ∀ a0 a1 k, LeO (tattlelaw05_KnowGrows.f k a0 a1) (tattlelaw05_KnowGrows.f (k + 1) a0 a1) := by
  intro a0 a1 k
  obtain ⟨ih0, ih1, ih2, ih3⟩ := tattlelaw05_KnowGrows.mono_l k
  unfold tattlelaw05_KnowGrows.f
  repeat' first
      | (with_reducible exact ih0 _ _ _)
      | (with_reducible exact ih1 _ _ _ _ _ _ _ _)
      | (with_reducible exact ih2 _ _ _ _ _ _ _ _ _)
      | (with_reducible exact ih3 _ _ _ _ _ _ _)
      | (with_reducible exact know_Beats.mono _ _ _ _ _)
      | (with_reducible exact know_Check.mono _ _)
      | (with_reducible exact know_Join.mono _ _)
      | (with_reducible exact LeO.refl _)
      | (with_reducible exact LeO.none _)
      | (with_reducible refine LeO.ite ?_ ?_)
      | (with_reducible refine LeO.bind ?_ (fun _ => ?_))
      | exact ih0 _ _ _
      | exact ih1 _ _ _ _ _ _ _ _
      | exact ih2 _ _ _ _ _ _ _ _ _
      | exact ih3 _ _ _ _ _ _ _
      | exact know_Beats.mono _ _ _ _ _
      | exact know_Check.mono _ _
      | exact know_Join.mono _ _
      | exact LeO.none _
      | refine LeO.ite ?_ ?_
      | refine LeO.bind ?_ (fun _ => ?_)
def tattlelaw05_KnowGrows.T9 : Bool × List (List Nat × List Nat) := (true, [([], []), ([], []), ([], []), ([], []), ([2, 3], [2, 3]), ([4], [4]), ([5], [5]), ([], []), ([7], [7]), ([6, 8], [6, 8]), ([1, 9], [1, 9]), ([10], [10]), ([0, 11], [0, 11]), ([12], [12]), ([13], [13]), ([14], [14]), ([14], [14]), ([], []), ([17, 15, 13, 0, 1, 2, 3, 4, 5, 6, 7, 8, 9, 10, 11, 12, 13, 14, 15, 17], [15, 17]), ([16, 18, 0, 1, 2, 3, 4, 5, 6, 7, 8, 9, 10, 11, 12, 13, 14, 15, 16, 17, 18], [16])])
def tattlelaw05_KnowGrows.B9 : List Nat := [0, 0, 0, 0, 12, 28, 60, 0, 128, 508, 1022, 2046, 4095, 8191, 16383, 32767, 32767, 0, 196607, 524287]
theorem tattlelaw05_KnowGrows.tab9 : rtab .any (opsOf Try.f6 9) = tattlelaw05_KnowGrows.T9 := by kernel_rfl
theorem tattlelaw05_KnowGrows.bits9 : waitsOk tattlelaw05_KnowGrows.T9.2 tattlelaw05_KnowGrows.B9 = true := by kernel_rfl
def tattlelaw05_KnowGrows.T16 : Bool × List (List Nat × List Nat) := (true, [([], []), ([], []), ([0, 1], [0, 1]), ([2], [2]), ([], []), ([3, 4], [3, 4]), ([5], [5]), ([6], [6]), ([7], [7]), ([7], [7]), ([], []), ([10, 8, 6, 0, 1, 2, 3, 4, 5, 6, 7, 8, 10], [8, 10]), ([9, 11, 0, 1, 2, 3, 4, 5, 6, 7, 8, 9, 10, 11], [9])])
def tattlelaw05_KnowGrows.B16 : List Nat := [0, 0, 3, 7, 0, 31, 63, 127, 255, 255, 0, 1535, 4095]
theorem tattlelaw05_KnowGrows.tab16 : rtab .any (opsOf Try.f6 16) = tattlelaw05_KnowGrows.T16 := by kernel_rfl
theorem tattlelaw05_KnowGrows.bits16 : waitsOk tattlelaw05_KnowGrows.T16.2 tattlelaw05_KnowGrows.B16 = true := by kernel_rfl
set_option maxHeartbeats 8000000 in
set_option maxRecDepth 100000 in
theorem tattlelaw05_KnowGrows.calls (k : Nat) (A0 : Option Addr) (c0 : Nat) (l0 : List (S26)) (A1 : Option Addr) (c1 : Nat) (l1 : List Int) (r : Bool) (w : World) (hr0 : Kd.C k26 w A0 l0.length l0) (hc0 : l0.length ≤ c0) (hr1 : Kd.C (Kd.int .u8) w A1 l1.length l1) (hc1 : l1.length ≤ c1) (hrt : Aside0 (r = true)) (h : tattlelaw05_KnowGrows.f k l0 l1 = some r) :
    Calls Try.prog 6 #[.slice A0 l0.length c0, .slice A1 l1.length c1] w fun e w' => e = .returned (.bool r) ∧ Below w.heap.size w w' := by
  have hu26 := Try.underlying26
  have HR0 := Aside0.mk hr0
  have HC0 := Aside0.mk hc0
  clear hr0 hc0
  have HR1 := Aside0.mk hr1
  have HC1 := Aside0.mk hc1
  clear hr1 hc1
  have HB := Aside0.mk (Below.refl w.heap.size w)
  have H : ((tattlelaw05_few.f l0).bind fun t223 => ((know_Check.f k t223).bind fun t226 => (if t226 = 0 then (tattlelaw05_KnowGrows.j0 k t223 l1 ((t223.length : Int) == 0)) else (tattlelaw05_KnowGrows.j0 k t223 l1 true)))) = some r := h
  clear h
  replace H := Option.bind_eq_some_iff.mp H
  obtain ⟨t223, A30, H⟩ := H
  replace H : ((know_Check.f k t223).bind fun t226 => (if t226 = 0 then (tattlelaw05_KnowGrows.j0 k t223 l1 ((t223.length : Int) == 0)) else (tattlelaw05_KnowGrows.j0 k t223 l1 true))) = some r := H
  have A3 := Aside0.mk A30
  clear A30
  have HC4 := Aside0.mk H
  clear H
  go_enter Try.func6, Try.ntmps6
  go_upto_region 2 with (first | ((with_reducible refine gate_callee (f := 15) rfl ?_); refine goesL_ (some 15) rfl rfl Try.func15 (by kernel_rfl) rfl #[.slice A0 l0.length c0] rfl (by (try simp only [List.map_toArray, List.map_cons, List.map_nil]); first | done | rfl | (simp only [List.length_drop, List.length_take]; rfl)) ?_; (with_reducible refine (tattlelaw05_few.calls (fun k_ => k_ < w.heap.size) _ _ l0 t223 _ ?side1 A3.out).mono ?_); (case side1 => exact Kd.V_mk HC0.out (Kd.F_below (Kd.C_F k26_heap HR0.out) (by repeat (first | (with_reducible first | exact HB.out | apply below_alloc | apply pw_below_drewN | apply below_drew1) | exact HB.out)))); rintro e w5 ⟨v224, rfl, ho0, hb⟩; refine ⟨_, rfl, ?_⟩; have n0_ := Aside0.mk (Kd.V_lower (Kd.V_mono (ok' := fun k_ => True) ho0 (fun k_ hk_ => trivial)) (below_size (by repeat (first | (with_reducible first | exact HB.out | apply below_alloc | apply pw_below_drewN | apply below_drew1) | exact HB.out)))); have n1_ := Aside0.mk (below_step (by repeat (first | (with_reducible first | exact HB.out | apply below_alloc | apply pw_below_drewN | apply below_drew1) | exact HB.out)) hb); clear HB; have HO225 := n0_; have HB := n1_; clear n0_ n1_; (try clear hb); (try clear hb2); (try clear hk); (try clear hi); (try clear ho0)))
  (try simp only [Act.put, List.setIfInBounds_toArray, List.set_cons_zero, List.set_cons_succ])
  go_cut [23] (fun v23 wc => ∃ (kq : Nat) (x23_3 : Bool), v23 = .bool x23_3 ∧ Aside0 (tattlelaw05_KnowGrows.j0 kq t223 l1 x23_3 = some r) ∧ Aside0 (kq ≤ k) ∧ Aside0 (Kd.V k26 26 wc w.heap.size (fun _ => True) v224 t223) ∧ Aside0 (Below w.heap.size w wc))
  case first =>
    have H := HC4.out
    clear HC4
    replace H := Option.bind_eq_some_iff.mp H
    obtain ⟨t226, A60, H⟩ := H
    replace H : (if t226 = 0 then (tattlelaw05_KnowGrows.j0 k t223 l1 ((t223.length : Int) == 0)) else (tattlelaw05_KnowGrows.j0 k t223 l1 true)) = some r := H
    have A6 := Aside0.mk A60
    clear A60
    by_cases c7 : t226 = 0
    · rw [if_pos c7] at H
      have c7b0 : (t226 == 0) = true := beq_iff_eq.mpr c7
      have c7b1 : (t226 != 0) = false := bne_eq_false_iff_eq.mpr c7
      clear c7
      (first | rw [c7b0] | (simp only [i64_w, i32_w]; rw [c7b0]) | skip)
      have H' := Aside0.mk H
      clear H
      obtain ⟨Ao8, co8, eo8⟩ := Kd.V_slice HO225.out
      subst eo8
      go_wp2_with (first | ((with_reducible refine gate_callee (f := 20) rfl ?_); refine goesL_ (some 17) rfl rfl Try.func20 (by kernel_rfl) rfl #[.slice Ao8 t223.length co8] rfl (by (try simp only [List.map_toArray, List.map_cons, List.map_nil]); first | done | rfl | (simp only [List.length_drop, List.length_take]; rfl)) ?_; (with_reducible refine (know_Check.calls k _ _ t223 t226 _ ?side1 ?side2 A6.out).mono ?_); (case side1 => repeat (first | exact (Kd.V_reads' HO225.out).2.2 | (with_reducible refine Kd.C_alloc ?_ _) | (with_reducible refine Kd.C_drewN ?_ _) | (with_reducible refine Kd.C_drew ?_))); (case side2 => exact (Kd.V_reads' HO225.out).2.1); rintro e w9 ⟨rfl, hb⟩; refine ⟨_, rfl, ?_⟩; have n0_ := Aside0.mk (Kd.V_below (by (with_reducible repeat (first | apply Kd.V_alloc | apply Kd.V_drewN | apply Kd.V_drew)); exact HO225.out) hb); have n1_ := Aside0.mk (below_step (by repeat (first | (with_reducible first | exact HB.out | apply below_alloc | apply pw_below_drewN | apply below_drew1) | exact HB.out)) hb); clear HO225; clear HB; have HO225 := n0_; have HB := n1_; clear n0_ n1_; (try clear hb); (try clear hb2); (try clear hk); (try clear hi)))
      go_meet
      case rel => exact ⟨_, (((t223.length : Int) == 0)), (by first | rfl | (simp; done) | (simp [*]; done)), H', ⟨by first | omega | exact Nat.le_refl _⟩, ⟨by (with_reducible repeat (first | apply Kd.V_alloc | apply Kd.V_drewN | apply Kd.V_drew)); exact HO225.out⟩, ⟨by repeat (first | (with_reducible first | exact HB.out | apply below_alloc | apply pw_below_drewN | apply below_drew1) | exact HB.out)⟩⟩
    · rw [if_neg c7] at H
      have c7b0 : (t226 == 0) = false := beq_eq_false_iff_ne.mpr c7
      have c7b1 : (t226 != 0) = true := bne_iff_ne.mpr c7
      (first | rw [c7b0] | (simp only [i64_w, i32_w]; rw [c7b0]) | skip)
      have H' := Aside0.mk H
      clear H
      obtain ⟨Ao10, co10, eo10⟩ := Kd.V_slice HO225.out
      subst eo10
      go_wp2_with (first | ((with_reducible refine gate_callee (f := 20) rfl ?_); refine goesL_ (some 17) rfl rfl Try.func20 (by kernel_rfl) rfl #[.slice Ao10 t223.length co10] rfl (by (try simp only [List.map_toArray, List.map_cons, List.map_nil]); first | done | rfl | (simp only [List.length_drop, List.length_take]; rfl)) ?_; (with_reducible refine (know_Check.calls k _ _ t223 t226 _ ?side1 ?side2 A6.out).mono ?_); (case side1 => repeat (first | exact (Kd.V_reads' HO225.out).2.2 | (with_reducible refine Kd.C_alloc ?_ _) | (with_reducible refine Kd.C_drewN ?_ _) | (with_reducible refine Kd.C_drew ?_))); (case side2 => exact (Kd.V_reads' HO225.out).2.1); rintro e w11 ⟨rfl, hb⟩; refine ⟨_, rfl, ?_⟩; have n0_ := Aside0.mk (Kd.V_below (by (with_reducible repeat (first | apply Kd.V_alloc | apply Kd.V_drewN | apply Kd.V_drew)); exact HO225.out) hb); have n1_ := Aside0.mk (below_step (by repeat (first | (with_reducible first | exact HB.out | apply below_alloc | apply pw_below_drewN | apply below_drew1) | exact HB.out)) hb); clear HO225; clear HB; have HO225 := n0_; have HB := n1_; clear n0_ n1_; (try clear hb); (try clear hb2); (try clear hk); (try clear hi)))
      go_meet
      case rel => exact ⟨_, (true), (by first | rfl | (simp; done) | (simp [*]; done)), H', ⟨by first | omega | exact Nat.le_refl _⟩, ⟨by (with_reducible repeat (first | apply Kd.V_alloc | apply Kd.V_drewN | apply Kd.V_drew)); exact HO225.out⟩, ⟨by repeat (first | (with_reducible first | exact HB.out | apply below_alloc | apply pw_below_drewN | apply below_drew1) | exact HB.out)⟩⟩
  case rest =>
    clear HC4
    try clear c1
    try clear c2
    try clear p2
    try clear c6
    try clear c7
    try clear c7b0
    try clear c7b1
    obtain ⟨kq, x23_3, rfl, HA, HJ3, HO_0, HB⟩ := hcut
    cases kq with
    | zero => exact absurd HA.out (by simp [tattlelaw05_KnowGrows.j0])
    | succ kj3 =>
      have H := HA.out
      clear HA
      simp only [tattlelaw05_KnowGrows.j0] at H
      by_cases c12 : x23_3 = true
      · subst c12
        have H1 : ((tattlelaw05_awakeT.f).bind fun t227 => (some t227)) = some r := by rw [if_pos rfl] at H; exact H
        clear H
        have H := H1
        clear H1
        replace H := Option.bind_eq_some_iff.mp H
        obtain ⟨t227, A130, H⟩ := H
        replace H : (some t227) = some r := H
        have A13 := Aside0.mk A130
        clear A130
        obtain rfl := Option.some.inj H
        go_wp2_with (first | ((with_reducible refine gate_callee (f := 18) rfl ?_); refine goesL_ (some 24) rfl rfl Try.func18 (by kernel_rfl) rfl #[] rfl (by (try simp only [List.map_toArray, List.map_cons, List.map_nil]); first | done | rfl | (simp only [List.length_drop, List.length_take]; rfl)) ?_; (with_reducible refine (tattlelaw05_awakeT.calls  t227 _ A13.out).mono ?_); rintro e w14 ⟨rfl, hb⟩; refine ⟨_, rfl, ?_⟩; have n0_ := Aside0.mk (below_step (by repeat (first | (with_reducible first | exact HB.out | apply below_alloc | apply pw_below_drewN | apply below_drew1) | exact HB.out)) hb); clear HB; have HB := n0_; clear n0_; (try clear hb); (try clear hb2); (try clear hk); (try clear hi)))
        go_ret
        exact ⟨by first | rfl | (simp [errW_none, errW_some] <;> rfl) | (simp [*, errW_none, errW_some] <;> rfl), by repeat (first | (with_reducible first | exact HB.out | apply below_alloc | apply pw_below_drewN | apply below_drew1) | exact HB.out)⟩
      · replace c12 := Bool.eq_false_iff.mpr c12
        subst c12
        have H1 : ((know_Join.f kj3 t223).bind fun bt228 => (tattlelaw05_KnowGrows.l0 kj3 t223 l1 bt228.2.2 0 bt228.1 bt228.2.1 0 0)) = some r := by rw [if_neg (show ¬ (false = true) by decide)] at H; exact H
        clear H
        have H := H1
        clear H1
        replace H := Option.bind_eq_some_iff.mp H
        obtain ⟨⟨t228, t229, t230⟩, A150, H⟩ := H
        replace H : (tattlelaw05_KnowGrows.l0 kj3 t223 l1 t230 0 t228 t229 0 0) = some r := H
        have A15 := Aside0.mk A150
        clear A150
        have H' := Aside0.mk H
        clear H
        obtain ⟨Ao16, co16, eo16⟩ := Kd.V_slice HO_0.out
        subst eo16
        go_wp2_with (first | ((with_reducible refine gate_callee (f := 16) rfl ?_); refine goesL_ (some 27) rfl rfl Try.func16 (by kernel_rfl) rfl #[.slice Ao16 t223.length co16] rfl (by (try simp only [List.map_toArray, List.map_cons, List.map_nil]); first | done | rfl | (simp only [List.length_drop, List.length_take]; rfl)) ?_; (with_reducible refine (know_Join.calls kj3 _ _ t223 t228 t229 t230 _ ?side1 ?side2 A15.out).mono ?_); (case side1 => repeat (first | exact (Kd.V_reads' HO_0.out).2.2 | (with_reducible refine Kd.C_alloc ?_ _) | (with_reducible refine Kd.C_drewN ?_ _) | (with_reducible refine Kd.C_drew ?_))); (case side2 => exact (Kd.V_reads' HO_0.out).2.1); rintro e w17 ⟨rfl, hb⟩; refine ⟨_, rfl, ?_⟩; have n0_ := Aside0.mk (Kd.V_below (by (with_reducible repeat (first | apply Kd.V_alloc | apply Kd.V_drewN | apply Kd.V_drew)); exact HO_0.out) hb); have n1_ := Aside0.mk (below_step (by repeat (first | (with_reducible first | exact HB.out | apply below_alloc | apply pw_below_drewN | apply below_drew1) | exact HB.out)) hb); clear HO_0; clear HB; have HO_0 := n0_; have HB := n1_; clear n0_ n1_; (try clear hb); (try clear hb2); (try clear hk); (try clear hi)) | ((with_reducible refine gate_dst (N := 5) rfl ?_); (try (refine gate_guard (by rfl) ?_; dsimp only)); refine box_event ?hg (N := 5) ?hd (cs := #[.int .u64 0, .int .i64 0]) (t := 26) ?hr ?_; (case hd => rfl); (case hg => rfl); (case hr => first | (go_simp; done) | (go_simp; rfl)); intro gb231 hg w18 hbox hb; have n0_ := Aside0.mk (Kd.V_below (Kd.V_elderB (by (with_reducible repeat (first | apply Kd.V_alloc | apply Kd.V_drewN | apply Kd.V_drew)); exact HO_0.out) gb231 (Nat.le_of_eq hg.symm)) hb); have n1_ := Aside0.mk (below_step (by repeat (first | (with_reducible first | exact HB.out | apply below_alloc | apply pw_below_drewN | apply below_drew1) | exact HB.out)) hb); have n2_ := Aside0.mk (hbox); have n3_ := Aside0.mk ((by rw [hg]; exact (below_size (by repeat (first | (with_reducible first | exact HB.out | apply below_alloc | apply pw_below_drewN | apply below_drew1) | exact HB.out))) : w.heap.size ≤ gb231)); have n4_ := Aside0.mk ((by rw [hg]; exact (below_size (by repeat (first | (with_reducible first | exact HB.out | apply below_alloc | apply pw_below_drewN | apply below_drew1) | exact HB.out))) : w.heap.size ≤ gb231)); clear HO_0; clear HB; have HO_0 := n0_; have HB := n1_; have BK231 := n2_; have GW231 := n3_; have GE231 := n4_; clear n0_ n1_ n2_ n3_ n4_; clear hb hbox hg; have hcz19_0 : w18.cell? ⟨gb231, 0, none⟩ = some (.int .u64 0) := (blk_cell BK231.out 0).trans rfl; have hcz19_1 : w18.cell? ⟨gb231, 1, none⟩ = some (.int .i64 0) := (blk_cell BK231.out 1).trans rfl; have hfz19_0 := blk_frozen BK231.out 0; have hfz19_1 := blk_frozen BK231.out 1) | ((with_reducible refine gate_dst (N := 7) rfl ?_); (try (refine gate_guard (by rfl) ?_; dsimp only)); refine box_event ?hg (N := 7) ?hd (cs := #[.int .u64 0, .int .i64 0]) (t := 26) ?hr ?_; (case hd => rfl); (case hg => rfl); (case hr => first | (go_simp; done) | (go_simp; rfl)); intro gb232 hg w20 hbox hb; have n0_ := Aside0.mk (Kd.V_below (Kd.V_elderB (by (with_reducible repeat (first | apply Kd.V_alloc | apply Kd.V_drewN | apply Kd.V_drew)); exact (Kd.V_mono (Kd.V_far (p := ⟨gb231, 1, none⟩) (Kd.V_far (p := ⟨gb231, 0, none⟩) (Kd.V_mono HO_0.out (fun k_ hk => (⟨hk, hk.2⟩ : _ ∧ k_ ≠ gb231))) (fun _ hk => hk.2) (.int .u64 t228)) (fun _ hk => hk.2) (.int .i64 t229)) (fun _ h_ => h_.1))) gb232 (Nat.le_of_eq hg.symm)) hb); have n1_ := Aside0.mk (blk_below (g := gb231) (o := .cells #[.int .u64 t228, .int .i64 t229] 26 (0, 0)) (by (with_reducible repeat (first | refine blk_drewN ?_ _ | refine blk_drew ?_ | refine blk_alloc ?_ _)); refine blk_put (cs := #[.int .u64 t228, .int .i64 0]) ?_ 1 _ rfl; (with_reducible repeat (first | refine blk_drewN ?_ _ | refine blk_drew ?_ | refine blk_alloc ?_ _)); refine blk_put (cs := #[.int .u64 0, .int .i64 0]) ?_ 0 _ rfl; (with_reducible repeat (first | refine blk_drewN ?_ _ | refine blk_drew ?_ | refine blk_alloc ?_ _)); exact BK231.out) hb); have n2_ := Aside0.mk (below_step (by repeat (first | (with_reducible first | exact HB.out | apply below_alloc | apply pw_below_drewN | apply below_drew1 | refine below_set ?_ GE231.out) | exact HB.out)) hb); have n3_ := Aside0.mk (hbox); have n4_ := Aside0.mk ((by rw [hg]; exact (below_size (by repeat (first | (with_reducible first | exact HB.out | apply below_alloc | apply pw_below_drewN | apply below_drew1 | refine below_set ?_ GE231.out) | exact HB.out))) : w.heap.size ≤ gb232)); have n5_ := Aside0.mk ((by rw [hg]; exact (below_size (by repeat (first | (with_reducible first | exact HB.out | apply below_alloc | apply pw_below_drewN | apply below_drew1 | refine below_set ?_ GE231.out) | exact HB.out))) : w.heap.size ≤ gb232)); have n6_ := Aside0.mk ((by rw [hg]; exact Nat.ne_of_lt (blk_lt (g := gb231) (o := .cells #[.int .u64 t228, .int .i64 t229] 26 (0, 0)) (by (with_reducible repeat (first | refine blk_drewN ?_ _ | refine blk_drew ?_ | refine blk_alloc ?_ _)); refine blk_put (cs := #[.int .u64 t228, .int .i64 0]) ?_ 1 _ rfl; (with_reducible repeat (first | refine blk_drewN ?_ _ | refine blk_drew ?_ | refine blk_alloc ?_ _)); refine blk_put (cs := #[.int .u64 0, .int .i64 0]) ?_ 0 _ rfl; (with_reducible repeat (first | refine blk_drewN ?_ _ | refine blk_drew ?_ | refine blk_alloc ?_ _)); exact BK231.out)) : gb231 ≠ gb232)); have n7_ := Aside0.mk ((by rw [hg]; exact Nat.ne_of_gt (blk_lt (g := gb231) (o := .cells #[.int .u64 t228, .int .i64 t229] 26 (0, 0)) (by (with_reducible repeat (first | refine blk_drewN ?_ _ | refine blk_drew ?_ | refine blk_alloc ?_ _)); refine blk_put (cs := #[.int .u64 t228, .int .i64 0]) ?_ 1 _ rfl; (with_reducible repeat (first | refine blk_drewN ?_ _ | refine blk_drew ?_ | refine blk_alloc ?_ _)); refine blk_put (cs := #[.int .u64 0, .int .i64 0]) ?_ 0 _ rfl; (with_reducible repeat (first | refine blk_drewN ?_ _ | refine blk_drew ?_ | refine blk_alloc ?_ _)); exact BK231.out)) : gb232 ≠ gb231)); clear HO_0; clear BK231; clear HB; have HO_0 := n0_; have BK231 := n1_; have HB := n2_; have BK232 := n3_; have GW232 := n4_; have GE232 := n5_; have NB231_232 := n6_; have NB232_231 := n7_; clear n0_ n1_ n2_ n3_ n4_ n5_ n6_ n7_; clear hb hbox hg; have hnb21 := NB232_231.out; have hnc21 := NB231_232.out; have hcz22_0 : w20.cell? ⟨gb232, 0, none⟩ = some (.int .u64 0) := (blk_cell BK232.out 0).trans rfl; have hcz22_1 : w20.cell? ⟨gb232, 1, none⟩ = some (.int .i64 0) := (blk_cell BK232.out 1).trans rfl; have hfz22_0 := blk_frozen BK232.out 0; have hfz22_1 := blk_frozen BK232.out 1))
        go_loopg [8] kj3 (fun kq v8 w' => ∃ (x8_2 : Int) (x233000_2 : Int) (x233001_2 : Int), v8 = .int .i64 x8_2 ∧ Aside0 (tattlelaw05_KnowGrows.l0 kq t223 l1 t230 x8_2 t228 t229 x233000_2 x233001_2 = some r) ∧ Aside0 (kq ≤ kj3) ∧ Aside0 (Kd.V k26 26 w' w.heap.size (fun k_ => k_ ≠ gb231 ∧ k_ ≠ gb232) (.slice Ao16 t223.length co16) t223) ∧ Aside0 (w'.heap[gb231]? = some (.cells #[.int .u64 t228, .int .i64 t229] 26 (0, 0))) ∧ Aside0 (w'.heap[gb232]? = some (.cells #[.int .u64 x233000_2, .int .i64 x233001_2] 26 (0, 0))) ∧ Aside0 (Below w.heap.size w w'))
        case atStart => exact ⟨(0), (0), (0), (by first | rfl | (simp; done) | (simp [*]; done)), H', ⟨Nat.le_refl _⟩, ⟨by (with_reducible repeat (first | apply Kd.V_alloc | apply Kd.V_drewN | apply Kd.V_drew)); exact Kd.V_mono (Kd.V_far (p := ⟨gb232, 1, none⟩) (Kd.V_far (p := ⟨gb232, 0, none⟩) (Kd.V_mono HO_0.out (fun k_ hk => (⟨hk, hk.2⟩ : _ ∧ k_ ≠ gb232))) (fun _ hk => hk.2) (.int .u64 0)) (fun _ hk => hk.2) (.int .i64 0)) (fun _ hk => ⟨hk.1.1.2, hk.1.2⟩)⟩, ⟨by (with_reducible repeat (first | refine blk_drewN ?_ _ | refine blk_drew ?_ | refine blk_alloc ?_ _)); refine blk_far ?_ NB231_232.out _; (with_reducible repeat (first | refine blk_drewN ?_ _ | refine blk_drew ?_ | refine blk_alloc ?_ _)); refine blk_far ?_ NB231_232.out _; (with_reducible repeat (first | refine blk_drewN ?_ _ | refine blk_drew ?_ | refine blk_alloc ?_ _)); exact BK231.out⟩, ⟨by (with_reducible repeat (first | refine blk_drewN ?_ _ | refine blk_drew ?_ | refine blk_alloc ?_ _)); refine blk_put (cs := #[.int .u64 0, .int .i64 0]) ?_ 1 _ rfl; (with_reducible repeat (first | refine blk_drewN ?_ _ | refine blk_drew ?_ | refine blk_alloc ?_ _)); refine blk_put (cs := #[.int .u64 0, .int .i64 0]) ?_ 0 _ rfl; (with_reducible repeat (first | refine blk_drewN ?_ _ | refine blk_drew ?_ | refine blk_alloc ?_ _)); exact BK232.out⟩, ⟨by repeat (first | (with_reducible first | exact HB.out | apply below_alloc | apply pw_below_drewN | apply below_drew1 | refine below_set ?_ GE231.out | refine below_set ?_ GE232.out) | exact HB.out)⟩⟩
        case round =>
          clear H'
          try clear c1
          try clear c2
          try clear p2
          try clear c6
          try clear c7
          try clear c7b0
          try clear c7b1
          try clear c12
          try clear c15
          try clear c16
          try clear c18
          try clear c20
          try clear c21
          try clear hcz19_0
          try clear hcz19_1
          try clear hcz22_0
          try clear hcz22_1
          try clear hfz19_0
          try clear hfz19_1
          try clear hfz22_0
          try clear hfz22_1
          try clear p2
          obtain ⟨x8_2, x233000_2, x233001_2, rfl, HA, HK2, HO_0, BK231, BK232, HB⟩ := hrel
          cases gk with
          | zero => exact absurd HA.out (by simp [tattlelaw05_KnowGrows.l0])
          | succ k2 =>
            have H := HA.out
            clear HA
            simp only [tattlelaw05_KnowGrows.l0] at H
            have HC23 := Aside0.mk H
            clear H
            go_upto_region 7 with (fail)
            go_cut [38] (fun v38 wc => ∃ (kq : Nat) (x38_22 : Bool), v38 = .bool x38_22 ∧ Aside0 (tattlelaw05_KnowGrows.j2 kq t223 l1 t230 x8_2 x38_22 t228 t229 x233000_2 x233001_2 = some r) ∧ Aside0 (kq ≤ k2) ∧ Aside0 (Kd.V k26 26 wc w.heap.size (fun k_ => k_ ≠ gb231 ∧ k_ ≠ gb232) (.slice Ao16 t223.length co16) t223) ∧ Aside0 (wc.heap[gb231]? = some (.cells #[.int .u64 t228, .int .i64 t229] 26 (0, 0))) ∧ Aside0 (wc.heap[gb232]? = some (.cells #[.int .u64 x233000_2, .int .i64 x233001_2] 26 (0, 0))) ∧ Aside0 (Below w.heap.size w wc))
            case first =>
              have H := HC23.out
              clear HC23
              by_cases c24 : x8_2 < (l1.length : Int)
              · rw [if_pos c24] at H
                have c24b0 : decide (x8_2 < (l1.length : Int)) = true := decide_eq_true c24
                clear c24
                (first | rw [c24b0] | (simp only [i64_w, i32_w]; rw [c24b0]) | skip)
                have H' := Aside0.mk H
                clear H
                go_wp2
                go_meet
                case rel => exact ⟨_, (decide (x8_2 < 60)), (by first | rfl | (simp; done) | (simp [*]; done)), H', ⟨by have := HJ3.out; have := HK2.out; first | omega | exact Nat.le_refl _⟩, ⟨by (with_reducible repeat (first | apply Kd.V_alloc | apply Kd.V_drewN | apply Kd.V_drew)); exact HO_0.out⟩, ⟨by (with_reducible repeat (first | refine blk_drewN ?_ _ | refine blk_drew ?_ | refine blk_alloc ?_ _)); exact BK231.out⟩, ⟨by (with_reducible repeat (first | refine blk_drewN ?_ _ | refine blk_drew ?_ | refine blk_alloc ?_ _)); exact BK232.out⟩, ⟨by repeat (first | (with_reducible first | exact HB.out | apply below_alloc | apply pw_below_drewN | apply below_drew1 | refine below_set ?_ GE231.out | refine below_set ?_ GE232.out) | exact HB.out)⟩⟩
              · rw [if_neg c24] at H
                have c24b0 : decide (x8_2 < (l1.length : Int)) = false := decide_eq_false c24
                clear c24
                (first | rw [c24b0] | (simp only [i64_w, i32_w]; rw [c24b0]) | skip)
                have H' := Aside0.mk H
                clear H
                go_wp2
                go_meet
                case rel => exact ⟨_, (false), (by first | rfl | (simp; done) | (simp [*]; done)), H', ⟨by have := HJ3.out; have := HK2.out; first | omega | exact Nat.le_refl _⟩, ⟨by (with_reducible repeat (first | apply Kd.V_alloc | apply Kd.V_drewN | apply Kd.V_drew)); exact HO_0.out⟩, ⟨by (with_reducible repeat (first | refine blk_drewN ?_ _ | refine blk_drew ?_ | refine blk_alloc ?_ _)); exact BK231.out⟩, ⟨by (with_reducible repeat (first | refine blk_drewN ?_ _ | refine blk_drew ?_ | refine blk_alloc ?_ _)); exact BK232.out⟩, ⟨by repeat (first | (with_reducible first | exact HB.out | apply below_alloc | apply pw_below_drewN | apply below_drew1 | refine below_set ?_ GE231.out | refine below_set ?_ GE232.out) | exact HB.out)⟩⟩
            case rest =>
              clear HC23
              try clear c1
              try clear c2
              try clear p2
              try clear c6
              try clear c7
              try clear c7b0
              try clear c7b1
              try clear c12
              try clear c15
              try clear c16
              try clear c18
              try clear c20
              try clear c21
              try clear c24
              try clear c24b0
              try clear hcz19_0
              try clear hcz19_1
              try clear hcz22_0
              try clear hcz22_1
              try clear hfz19_0
              try clear hfz19_1
              try clear hfz22_0
              try clear hfz22_1
              try clear p2
              obtain ⟨kq, x38_22, rfl, HA, HJ22, HO_0, BK231, BK232, HB⟩ := hcut
              cases kq with
              | zero => exact absurd HA.out (by simp [tattlelaw05_KnowGrows.j2])
              | succ kj22 =>
                have H := HA.out
                clear HA
                simp only [tattlelaw05_KnowGrows.j2] at H
                by_cases c25 : x38_22 = true
                · subst c25
                  have H1 : (if 0 ≤ x8_2 then (if x8_2 < (l1.length : Int) then (if (t223.length : Int) = 0 then (none) else (if 0 ≤ (Int.tmod (wrap64 (rd l1 x8_2)) (t223.length : Int)) then (if (Int.tmod (wrap64 (rd l1 x8_2)) (t223.length : Int)) < (t223.length : Int) then ((know_Join.f kj22 (([(⟨x233000_2, x233001_2⟩ : S26), (⟨(rd_T26 t223 (Int.tmod (wrap64 (rd l1 x8_2)) (t223.length : Int))).f0, (rd_T26 t223 (Int.tmod (wrap64 (rd l1 x8_2)) (t223.length : Int))).f1⟩ : S26)] : List (S26)))).bind fun bt238 => (if bt238.2.2 = 0 then ((know_Beats.f kj22 x233000_2 x233001_2 bt238.1 bt238.2.1).bind fun t242 => (if t242 = true then (some false) else (tattlelaw05_KnowGrows.l0 kj22 t223 l1 t230 (wrap64 (x8_2 + 1)) t228 t229 bt238.1 bt238.2.1))) else (some false))) else (none)) else (none))) else (none)) else (none)) = some r := by rw [if_pos rfl] at H; exact H
                  clear H
                  have H := H1
                  clear H1
                  by_cases c26 : 0 ≤ x8_2
                  · rw [if_pos c26] at H
                    have c26b0 : decide (0 ≤ x8_2) = true := decide_eq_true c26
                    clear c26
                    by_cases c27 : x8_2 < (l1.length : Int)
                    · rw [if_pos c27] at H
                      have c27b0 : decide (x8_2 < (l1.length : Int)) = true := decide_eq_true c27
                      clear c27
                      by_cases c28 : (t223.length : Int) = 0
                      · rw [if_pos c28] at H
                        exact absurd H (by simp)
                      · rw [if_neg c28] at H
                        have c28b0 : ((t223.length : Int) == 0) = false := beq_eq_false_iff_ne.mpr c28
                        have c28b1 : ((t223.length : Int) != 0) = true := bne_iff_ne.mpr c28
                        have c28b2 : ¬ (t223 = []) := fun h_ => c28 (by rw [h_]; rfl)
                        obtain ⟨ji29, hji29⟩ : ∃ j_ : Int, (Int.tmod (wrap64 (rd l1 x8_2)) (t223.length : Int)) = j_ := ⟨_, rfl⟩
                        replace H : (if 0 ≤ (ji29) then (if (ji29) < (t223.length : Int) then ((know_Join.f kj22 (([(⟨x233000_2, x233001_2⟩ : S26), (⟨(rd_T26 t223 (ji29)).f0, (rd_T26 t223 (ji29)).f1⟩ : S26)] : List (S26)))).bind fun bt238 => (if bt238.2.2 = 0 then ((know_Beats.f kj22 x233000_2 x233001_2 bt238.1 bt238.2.1).bind fun t242 => (if t242 = true then (some false) else (tattlelaw05_KnowGrows.l0 kj22 t223 l1 t230 (wrap64 (x8_2 + 1)) t228 t229 bt238.1 bt238.2.1))) else (some false))) else (none)) else (none)) = some r := by first | (rw [hji29] at H; exact H) | (simp only [hji29] at H ⊢; exact H)
                        by_cases c30 : 0 ≤ (ji29)
                        · rw [if_pos c30] at H
                          have c30b0 : decide (0 ≤ (ji29)) = true := decide_eq_true c30
                          clear c30
                          by_cases c31 : (ji29) < (t223.length : Int)
                          · rw [if_pos c31] at H
                            have c31b0 : decide ((ji29) < (t223.length : Int)) = true := decide_eq_true c31
                            clear c31
                            obtain ⟨y235, hy235⟩ : ∃ y_ : List (S26), y_ = (([(⟨x233000_2, x233001_2⟩ : S26), (⟨(rd_T26 t223 (ji29)).f0, (rd_T26 t223 (ji29)).f1⟩ : S26)] : List (S26))) := ⟨_, rfl⟩
                            replace H : ((know_Join.f kj22 y235).bind fun bt238 => (if bt238.2.2 = 0 then ((know_Beats.f kj22 x233000_2 x233001_2 bt238.1 bt238.2.1).bind fun t242 => (if t242 = true then (some false) else (tattlelaw05_KnowGrows.l0 kj22 t223 l1 t230 (wrap64 (x8_2 + 1)) t228 t229 bt238.1 bt238.2.1))) else (some false))) = some r := by first | (rw [hy235]; with_reducible exact H) | (have H2_ := (Option.bind_some _ _).symm.trans H; rw [hy235]; with_reducible exact H2_) | (have H2_ := (Option.bind_some _ _).symm.trans H; with_reducible exact H2_) | with_reducible exact H | (rw [hy235]; exact H) | exact H
                            have Ny235 := Aside0.mk hy235
                            clear hy235
                            replace H := Option.bind_eq_some_iff.mp H
                            obtain ⟨⟨t238, t239, t240⟩, A320, H⟩ := H
                            replace H : (if t240 = 0 then ((know_Beats.f kj22 x233000_2 x233001_2 t238 t239).bind fun t242 => (if t242 = true then (some false) else (tattlelaw05_KnowGrows.l0 kj22 t223 l1 t230 (wrap64 (x8_2 + 1)) t228 t229 t238 t239))) else (some false)) = some r := H
                            have A32 := Aside0.mk A320
                            clear A320
                            by_cases c33 : t240 = 0
                            · rw [if_pos c33] at H
                              have c33b0 : (t240 == 0) = true := beq_iff_eq.mpr c33
                              have c33b1 : (t240 != 0) = false := bne_eq_false_iff_eq.mpr c33
                              clear c33
                              replace H := Option.bind_eq_some_iff.mp H
                              obtain ⟨t242, A340, H⟩ := H
                              replace H : (if t242 = true then (some false) else (tattlelaw05_KnowGrows.l0 kj22 t223 l1 t230 (wrap64 (x8_2 + 1)) t228 t229 t238 t239)) = some r := H
                              have A34 := Aside0.mk A340
                              clear A340
                              by_cases c35 : t242 = true
                              · subst c35
                                have H1 : (some false) = some r := by rw [if_pos rfl] at H; exact H
                                clear H
                                have H := H1
                                clear H1
                                exact absurd ((Option.some.inj H).trans hrt.out) (by decide)
                              · replace c35 := Bool.eq_false_iff.mpr c35
                                subst c35
                                have H1 : (tattlelaw05_KnowGrows.l0 kj22 t223 l1 t230 (wrap64 (x8_2 + 1)) t228 t229 t238 t239) = some r := by rw [if_neg (show ¬ (false = true) by decide)] at H; exact H
                                clear H
                                have H := H1
                                clear H1
                                have H' := Aside0.mk H
                                clear H
                                try go_wp2
                                have n0_ := Aside0.mk (Kd.V_drew HO_0.out)
                                have n1_ := Aside0.mk (blk_drew BK231.out)
                                have n2_ := Aside0.mk (blk_drew BK232.out)
                                have n3_ := Aside0.mk (below_drew1 HB.out)
                                clear HO_0
                                clear BK231
                                clear BK232
                                clear HB
                                have HO_0 := n0_
                                have BK231 := n1_
                                have BK232 := n2_
                                have HB := n3_
                                clear n0_ n1_ n2_ n3_
                                have p233 : 0 ≤ (x8_2 : Int) := of_decide_eq_true (by first | (with_reducible assumption) | assumption)
                                have q233 : x8_2 < (l1.length : Int) := of_decide_eq_true (by first | (with_reducible assumption) | assumption)
                                obtain ⟨ad233, e233, hx233_0⟩ := Kd.at_int HR1.out x8_2 p233 q233
                                have hw233_0 := hx233_0
                                cases e233
                                replace hx233_0 := (HB.out.cell (World.block_lt_of_cell? w _ hx233_0)).trans hx233_0
                                replace p233 := eq_true p233
                                replace q233 := eq_true q233
                                have p234 : 0 ≤ ((ji29) : Int) := of_decide_eq_true (by first | (with_reducible assumption) | assumption)
                                have q234 : (ji29) < (t223.length : Int) := of_decide_eq_true (by first | (with_reducible assumption) | assumption)
                                obtain ⟨ad234, e234, hx234_0, hx234_1⟩ := at_T26 (Kd.V_reads' HO_0.out).2.2 (ji29) p234 q234
                                cases e234
                                replace p234 := eq_true p234
                                replace q234 := eq_true q234
                                refine start_ (n := 20) (S := fun w' => w'.cell? ⟨gb232, 0, none⟩ = some (.int .u64 x233000_2) ∧ w'.cell? ⟨gb232, 1, none⟩ = some (.int .i64 x233001_2) ∧ w'.cell? (ad233.add (x8_2).toNat) = some (.int .u8 (rd l1 x8_2)) ∧ w'.cell? (ad234.add (((ji29)).toNat * 2)) = some (.int .u64 ((rd_T26 t223 (ji29)).f0)) ∧ w'.cell? ⟨(ad234.add (((ji29)).toNat * 2)).block, (ad234.add (((ji29)).toNat * 2)).off + 1, none⟩ = some (.int .i64 ((rd_T26 t223 (ji29)).f1))) (ds := []) #[false, false, false, false, false, false, false, false, false, false, false, false, false, false, false, false, false, false, false, false] (by kernel_rfl) rfl rfl ⟨(blk_cell BK232.out 0).trans rfl, (blk_cell BK232.out 1).trans rfl, ((HB.out.cell (World.block_lt_of_cell? w _ hw233_0)).trans hw233_0), hx234_0, hx234_1⟩ (fun hHeld => ?_); refine with_tabW tattlelaw05_KnowGrows.tab9 tattlelaw05_KnowGrows.bits9 (fun HT_ HW_ => ?_)
                                generalize wc.drew = w36 at HO_0 BK231 BK232 HB hx233_0 hx234_0 hx234_1 hHeld ⊢
                                refine pure_ (i := 1) (N := some 43) (v := ?_) (a' := ?_) #[false, true, false, false, false, false, false, false, false, false, false, false, false, false, false, false, false, false, false, false] rfl rfl (any_of HT_.out (by kernel_rfl)) (fun _ _ _ h => h) (Or.inl ⟨by rfl, ?_⟩) ?_ ?_
                                rotate_left
                                · intro w'
                                  go_simp
                                  with_reducible rfl
                                rotate_left
                                · simp only [Act.put, List.setIfInBounds_toArray, List.set_cons_zero, List.set_cons_succ, i64_w, i32_w]
                                  rfl
                                refine pure_ (i := 2) (N := some 44) (v := ?_) (a' := ?_) #[false, true, true, false, false, false, false, false, false, false, false, false, false, false, false, false, false, false, false, false] rfl rfl (any_of HT_.out (by kernel_rfl)) (fun _ _ _ h => h) (Or.inl ⟨by rfl, ?_⟩) ?_ ?_
                                rotate_left
                                · intro w'
                                  go_simp
                                  with_reducible rfl
                                rotate_left
                                · simp only [Act.put, List.setIfInBounds_toArray, List.set_cons_zero, List.set_cons_succ, i64_w, i32_w]
                                  rfl
                                refine pure_ (i := 3) (N := some 45) (v := ?_) (a' := ?_) #[false, true, true, true, false, false, false, false, false, false, false, false, false, false, false, false, false, false, false, false] rfl rfl (any_of HT_.out (by kernel_rfl)) (fun _ _ _ h => h) (Or.inl ⟨by rfl, ?_⟩) ?_ ?_
                                rotate_left
                                · intro w'
                                  go_simp
                                  with_reducible rfl
                                rotate_left
                                · simp only [Act.put, List.setIfInBounds_toArray, List.set_cons_zero, List.set_cons_succ, i64_w, i32_w]
                                  rfl
                                refine pure_ (i := 4) (N := some 46) (v := ?_) (a' := ?_) #[false, true, true, true, true, false, false, false, false, false, false, false, false, false, false, false, false, false, false, false] rfl rfl (any_of HT_.out (by kernel_rfl)) (fun _ _ _ h => h) (Or.inl ⟨by rfl, ?_⟩) ?_ ?_
                                rotate_left
                                · intro w'
                                  go_simp
                                  with_reducible rfl
                                rotate_left
                                · simp only [Act.put, List.setIfInBounds_toArray, List.set_cons_zero, List.set_cons_succ, i64_w, i32_w]
                                  rfl
                                refine pure_ (i := 7) (N := some 49) (v := ?_) (a' := ?_) #[false, true, true, true, true, false, false, true, false, false, false, false, false, false, false, false, false, false, false, false] rfl rfl (any_of HT_.out (by kernel_rfl)) (fun _ _ _ h => h) (Or.inl ⟨by rfl, ?_⟩) ?_ ?_
                                rotate_left
                                · intro w'
                                  go_simp
                                  with_reducible rfl
                                rotate_left
                                · simp only [Act.put, List.setIfInBounds_toArray, List.set_cons_zero, List.set_cons_succ, i64_w, i32_w]
                                  rfl
                                refine pure_ (i := 8) (N := some 50) (v := ?_) (a' := ?_) #[false, true, true, true, true, false, false, true, true, false, false, false, false, false, false, false, false, false, false, false] rfl rfl (any_of HT_.out (by kernel_rfl)) (fun _ _ _ h => h) (Or.inl ⟨by rfl, ?_⟩) ?_ ?_
                                rotate_left
                                · intro w'
                                  go_simp
                                  with_reducible rfl
                                rotate_left
                                · simp only [Act.put, List.setIfInBounds_toArray, List.set_cons_zero, List.set_cons_succ, i64_w, i32_w]
                                  rfl
                                refine take_ (i := 0) (N := some 42) (v := ?_) (a' := ?_) #[true, true, true, true, true, false, false, true, true, false, false, false, false, false, false, false, false, false, false, false] rfl rfl (take_ofW HT_.out HW_.out (by kernel_rfl)) (fun _ _ _ h => h) (Or.inl ⟨by rfl, ?_⟩) hHeld ?_ ?_
                                rotate_left
                                · rintro w' ⟨s0, s1, s2, s3, s4⟩
                                  go_simp
                                  with_reducible rfl
                                rotate_left
                                · simp only [Act.put, List.setIfInBounds_toArray, List.set_cons_zero, List.set_cons_succ, i64_w, i32_w]
                                  rfl
                                refine take_ (i := 5) (N := some 47) (v := ?_) (a' := ?_) #[true, true, true, true, true, true, false, true, true, false, false, false, false, false, false, false, false, false, false, false] rfl rfl (take_ofW HT_.out HW_.out (by kernel_rfl)) (fun _ _ _ h => h) (Or.inl ⟨by rfl, ?_⟩) hHeld ?_ ?_
                                rotate_left
                                · rintro w' ⟨s0, s1, s2, s3, s4⟩
                                  go_simp
                                  with_reducible rfl
                                rotate_left
                                · simp only [Act.put, List.setIfInBounds_toArray, List.set_cons_zero, List.set_cons_succ, i64_w, i32_w]
                                  rfl
                                refine pure_ (i := 6) (N := some 48) (v := ?_) (a' := ?_) #[true, true, true, true, true, true, true, true, true, false, false, false, false, false, false, false, false, false, false, false] rfl rfl (any_of HT_.out (by kernel_rfl)) (fun _ _ _ h => h) (Or.inl ⟨by rfl, ?_⟩) ?_ ?_
                                rotate_left
                                · intro w'
                                  go_simp
                                  with_reducible rfl
                                rotate_left
                                · simp only [Act.put, List.setIfInBounds_toArray, List.set_cons_zero, List.set_cons_succ, i64_w, i32_w]
                                  rfl
                                refine pure_ (i := 9) (N := some 51) (v := ?_) (a' := ?_) #[true, true, true, true, true, true, true, true, true, true, false, false, false, false, false, false, false, false, false, false] rfl rfl (any_of HT_.out (by kernel_rfl)) (fun _ _ _ h => h) (Or.inl ⟨by rfl, ?_⟩) ?_ ?_
                                rotate_left
                                · intro w'
                                  go_simp
                                  with_reducible rfl
                                rotate_left
                                · simp only [Act.put, List.setIfInBounds_toArray, List.set_cons_zero, List.set_cons_succ, i64_w, i32_w]
                                  rfl
                                refine pure_ (i := 10) (N := some 52) (v := ?_) (a' := ?_) #[true, true, true, true, true, true, true, true, true, true, true, false, false, false, false, false, false, false, false, false] rfl rfl (any_of HT_.out (by kernel_rfl)) (fun _ _ _ h => h) (Or.inl ⟨by rfl, ?_⟩) ?_ ?_
                                rotate_left
                                · intro w'
                                  go_simp
                                  with_reducible rfl
                                rotate_left
                                · simp only [Act.put, List.setIfInBounds_toArray, List.set_cons_zero, List.set_cons_succ, i64_w, i32_w]
                                  rfl
                                refine take_ (i := 11) (N := some 53) (v := ?_) (a' := ?_) #[true, true, true, true, true, true, true, true, true, true, true, true, false, false, false, false, false, false, false, false] rfl rfl (take_ofW HT_.out HW_.out (by kernel_rfl)) (fun _ _ _ h => h) (Or.inl ⟨by rfl, ?_⟩) hHeld ?_ ?_
                                rotate_left
                                · rintro w' ⟨s0, s1, s2, s3, s4⟩
                                  go_simp
                                  with_reducible rfl
                                rotate_left
                                · simp only [Act.put, List.setIfInBounds_toArray, List.set_cons_zero, List.set_cons_succ, i64_w, i32_w]
                                  rfl
                                refine join_ (σ := Value × Nat) 2 #[true, true, true, true, true, true, true, true, true, true, true, true, true, true, true, true, true, true, false, false] (fun s_ => [(54, s_.1), (55, .tuple #[.agg #[.int .u64 t238, .int .i64 t239], .int .i64 t240]), (9, .pointer (some ⟨s_.2, 0, none⟩)), (41, .tuple #[.agg #[.int .u64 t238, .int .i64 t239], .int .i64 t240]), (56, .agg #[.int .u64 t238, .int .i64 t239]), (57, .int .i64 t240)]) (fun s_ w' => (w'.cell? ⟨gb232, 0, none⟩ = some (.int .u64 x233000_2) ∧ w'.cell? ⟨gb232, 1, none⟩ = some (.int .i64 x233001_2) ∧ w'.cell? (ad233.add (x8_2).toNat) = some (.int .u8 (rd l1 x8_2)) ∧ w'.cell? (ad234.add (((ji29)).toNat * 2)) = some (.int .u64 ((rd_T26 t223 (ji29)).f0)) ∧ w'.cell? ⟨(ad234.add (((ji29)).toNat * 2)).block, (ad234.add (((ji29)).toNat * 2)).off + 1, none⟩ = some (.int .i64 ((rd_T26 t223 (ji29)).f1))) ∧ (Kd.R k26 26 w' w.heap.size (fun k_ => k_ ≠ gb231 ∧ k_ ≠ gb232 ∧ k_ ≠ s_.2) s_.1 y235) ∧ (Kd.V k26 26 w' w.heap.size (fun k_ => some k_ ≠ (s_.1 : Value).ownBlock ∧ k_ ≠ gb231 ∧ k_ ≠ gb232 ∧ k_ ≠ s_.2) (.slice (some ad234) t223.length co16) t223) ∧ (w'.heap[gb231]? = some (.cells #[.int .u64 t228, .int .i64 t229] 26 (0, 0))) ∧ (w'.heap[gb232]? = some (.cells #[.int .u64 x233000_2, .int .i64 x233001_2] 26 (0, 0))) ∧ (w'.heap[s_.2]? = some (.cells #[.int .u64 0, .int .i64 0] 26 (0, 0))) ∧ (w.heap.size ≤ s_.2) ∧ (w.heap.size ≤ s_.2) ∧ (gb231 ≠ s_.2) ∧ (s_.2 ≠ gb231) ∧ (gb232 ≠ s_.2) ∧ (s_.2 ≠ gb232) ∧ (Below w.heap.size w w')) ?_ ?_
                                rotate_left
                                · intro hCont
                                  refine two_ (i := 12) (j := 17) (Ni := some 54) (Nj := some 9) #[true, true, true, true, true, true, true, true, true, true, true, true, true, false, false, false, false, false, false, false] #[true, true, true, true, true, true, true, true, true, true, true, true, false, false, false, false, false, true, false, false] rfl rfl rfl rfl (two_of HT_.out (by kernel_rfl)) (by decide) (by decide) (fun K hK => ?_) (fun K hK => ?_)
                                  · skip
                                    refine Kd.R_lit_step k26 _ 26 ?hg (N := 54) ?hd (xs := ([(⟨x233000_2, x233001_2⟩ : S26), (⟨(rd_T26 t223 (ji29)).f0, (rd_T26 t223 (ji29)).f1⟩ : S26)] : List (S26))) (inner := [.int .u64 x233000_2, .int .i64 x233001_2, .int .u64 ((rd_T26 t223 (ji29)).f0), .int .i64 ((rd_T26 t223 (ji29)).f1)]) (ok := fun _ => True) (okp := fun _ => True) ?hr ?hp (fun _ hk => hk) trivial (Below.refl _ _) (Nat.le_refl _) (by simp) ?_; (case hd => rfl); (case hg => rfl); (case hr => first | (go_simp; done) | (go_simp; rfl)); (case hp => exact (Reps.c2 (show Kd.M k26 _ _ _ (⟨x233000_2, x233001_2⟩ : S26) [.int .u64 x233000_2, .int .i64 x233001_2] from (k26_mkM _ _ _ (⟨x233000_2, x233001_2⟩ : S26) )) (Reps.c2 (show Kd.M k26 _ _ _ (⟨(rd_T26 t223 (ji29)).f0, (rd_T26 t223 (ji29)).f1⟩ : S26) [.int .u64 ((rd_T26 t223 (ji29)).f0), .int .i64 ((rd_T26 t223 (ji29)).f1)] from (k26_mkM _ _ _ (⟨(rd_T26 t223 (ji29)).f0, (rd_T26 t223 (ji29)).f1⟩ : S26) )) (Reps.none _ _))))
                                    intro v236 w37 ho38 hb hg_ hnew_
                                    have HS3_ := (hb.cell (World.block_lt_of_cell? _ _ (hHeld.2.2.2.1))).trans (hHeld.2.2.2.1)
                                    have HS4_ := (hb.cell (World.block_lt_of_cell? _ _ (hHeld.2.2.2.2))).trans (hHeld.2.2.2.2)
                                    clear hg_ hnew_
                                    (first | rw [← Ny235.out] at ho38 | (simp only [Int.reduceToNat] at ho38; rw [← Ny235.out] at ho38))
                                    have n0_ := Aside0.mk (Kd.V_elder' (by (with_reducible repeat (first | apply Kd.V_alloc | apply Kd.V_drewN | apply Kd.V_drew)); exact HO_0.out) (Kd.R_base ho38) hb)
                                    have n1_ := Aside0.mk (Kd.R_lower (Kd.R_newB (Kd.R_newB ho38 (g := gb231) (o := .cells #[.int .u64 t228, .int .i64 t229] 26 (0, 0)) (by (with_reducible repeat (first | refine blk_drewN ?_ _ | refine blk_drew ?_ | refine blk_alloc ?_ _)); exact BK231.out)) (g := gb232) (o := .cells #[.int .u64 x233000_2, .int .i64 x233001_2] 26 (0, 0)) (by (with_reducible repeat (first | refine blk_drewN ?_ _ | refine blk_drew ?_ | refine blk_alloc ?_ _)); exact BK232.out)) (below_size (by repeat (first | (with_reducible first | exact HB.out | apply below_alloc | apply pw_below_drewN | apply below_drew1 | refine below_set ?_ GE231.out | refine below_set ?_ GE232.out) | exact HB.out))))
                                    have n2_ := Aside0.mk (blk_below (g := gb231) (o := .cells #[.int .u64 t228, .int .i64 t229] 26 (0, 0)) (by (with_reducible repeat (first | refine blk_drewN ?_ _ | refine blk_drew ?_ | refine blk_alloc ?_ _)); exact BK231.out) hb)
                                    have n3_ := Aside0.mk (blk_below (g := gb232) (o := .cells #[.int .u64 x233000_2, .int .i64 x233001_2] 26 (0, 0)) (by (with_reducible repeat (first | refine blk_drewN ?_ _ | refine blk_drew ?_ | refine blk_alloc ?_ _)); exact BK232.out) hb)
                                    have n4_ := Aside0.mk (below_step (by repeat (first | (with_reducible first | exact HB.out | apply below_alloc | apply pw_below_drewN | apply below_drew1 | refine below_set ?_ GE231.out | refine below_set ?_ GE232.out) | exact HB.out)) hb)
                                    clear HO_0
                                    clear BK231
                                    clear BK232
                                    clear HB
                                    have HO_0 := n0_
                                    have HO237 := n1_
                                    have BK231 := n2_
                                    have BK232 := n3_
                                    have HB := n4_
                                    clear n0_ n1_ n2_ n3_ n4_
                                    clear hb ho38
                                    obtain ⟨Ao39, co39, eo39⟩ := Kd.R_slice HO237.out
                                    (first | subst eo39 | (injection eo39 with f1_ f2_ f3_; have f4_ := f1_.symm; have f5_ := f3_.symm; clear f1_ f2_ f3_; subst f4_; subst f5_))
                                    refine hK.out _ _ ⟨(blk_cell BK232.out 0).trans rfl, (blk_cell BK232.out 1).trans rfl, ((HB.out.cell (World.block_lt_of_cell? w _ hw233_0)).trans hw233_0), HS3_, HS4_⟩ (fun hHeld => ?_)
                                    clear hK K
                                    refine norm_ (a' := ?_) ?_ ?_
                                    rotate_left
                                    · show Act.put _ (some 54) _ = _
                                      simp only [Act.put, List.setIfInBounds_toArray, List.set_cons_zero, List.set_cons_succ, i64_w, i32_w]
                                      rfl
                                    refine two_ (i := 13) (j := 17) (Ni := some 55) (Nj := some 9) #[true, true, true, true, true, true, true, true, true, true, true, true, true, true, false, false, false, false, false, false] #[true, true, true, true, true, true, true, true, true, true, true, true, true, false, false, false, false, true, false, false] rfl rfl rfl rfl (two_of HT_.out (by kernel_rfl)) (by decide) (by decide) (fun K hK => ?_) (fun K hK => ?_)
                                    · skip
                                      refine goes_ Try.func16 (by kernel_rfl) rfl #[.slice Ao39 y235.length co39] (by rfl) rfl rfl (by (try simp only [List.map_toArray, List.map_cons, List.map_nil]); first | done | rfl | (simp only [List.length_drop, List.length_take]; rfl)) ?_
                                      with_reducible refine (know_Join.calls kj22 _ _ y235 t238 t239 t240 _ ?side1 ?side2 A32.out).mono ?_
                                      (case side1 => repeat (first | exact (Kd.R_reads' HO237.out).2.2 | (with_reducible refine Kd.C_alloc ?_ _) | (with_reducible refine Kd.C_drewN ?_ _) | (with_reducible refine Kd.C_drew ?_)))
                                      (case side2 => exact (Kd.R_reads' HO237.out).2.1)
                                      rintro e w40 ⟨rfl, hb⟩
                                      have HS3_ := (hb.cell (World.block_lt_of_cell? _ _ (hHeld.2.2.2.1))).trans (hHeld.2.2.2.1)
                                      have HS4_ := (hb.cell (World.block_lt_of_cell? _ _ (hHeld.2.2.2.2))).trans (hHeld.2.2.2.2)
                                      refine ⟨_, rfl, ?_⟩
                                      have n0_ := Aside0.mk (Kd.V_below (by (with_reducible repeat (first | apply Kd.V_alloc | apply Kd.V_drewN | apply Kd.V_drew)); exact HO_0.out) hb)
                                      have n1_ := Aside0.mk (Kd.R_below (by (with_reducible repeat (first | apply Kd.R_alloc | apply Kd.R_drewN | apply Kd.R_drew)); exact HO237.out) hb)
                                      have n2_ := Aside0.mk (blk_below (g := gb231) (o := .cells #[.int .u64 t228, .int .i64 t229] 26 (0, 0)) (by (with_reducible repeat (first | refine blk_drewN ?_ _ | refine blk_drew ?_ | refine blk_alloc ?_ _)); exact BK231.out) hb)
                                      have n3_ := Aside0.mk (blk_below (g := gb232) (o := .cells #[.int .u64 x233000_2, .int .i64 x233001_2] 26 (0, 0)) (by (with_reducible repeat (first | refine blk_drewN ?_ _ | refine blk_drew ?_ | refine blk_alloc ?_ _)); exact BK232.out) hb)
                                      have n4_ := Aside0.mk (below_step (by repeat (first | (with_reducible first | exact HB.out | apply below_alloc | apply pw_below_drewN | apply below_drew1 | refine below_set ?_ GE231.out | refine below_set ?_ GE232.out) | exact HB.out)) hb)
                                      clear HO_0
                                      clear HO237
                                      clear BK231
                                      clear BK232
                                      clear HB
                                      have HO_0 := n0_
                                      have HO237 := n1_
                                      have BK231 := n2_
                                      have BK232 := n3_
                                      have HB := n4_
                                      clear n0_ n1_ n2_ n3_ n4_
                                      (try clear hb)
                                      (try clear hb2)
                                      (try clear hk)
                                      (try clear hi)
                                      refine hK.out _ _ ⟨(blk_cell BK232.out 0).trans rfl, (blk_cell BK232.out 1).trans rfl, ((HB.out.cell (World.block_lt_of_cell? w _ hw233_0)).trans hw233_0), HS3_, HS4_⟩ (fun hHeld => ?_)
                                      clear hK K
                                      refine norm_ (a' := ?_) ?_ ?_
                                      rotate_left
                                      · show Act.put _ (some 55) _ = _
                                        simp only [Act.put, List.setIfInBounds_toArray, List.set_cons_zero, List.set_cons_succ, i64_w, i32_w]
                                        rfl
                                      refine pure_ (i := 14) (N := some 41) (v := ?_) (a' := ?_) #[true, true, true, true, true, true, true, true, true, true, true, true, true, true, true, false, false, false, false, false] rfl rfl (any_of HT_.out (by kernel_rfl)) (fun _ _ _ h => h) (Or.inl ⟨by rfl, ?_⟩) ?_ ?_
                                      rotate_left
                                      · intro w'
                                        go_simp
                                        with_reducible rfl
                                      rotate_left
                                      · simp only [Act.put, List.setIfInBounds_toArray, List.set_cons_zero, List.set_cons_succ, i64_w, i32_w]
                                        rfl
                                      refine pure_ (i := 15) (N := some 56) (v := ?_) (a' := ?_) #[true, true, true, true, true, true, true, true, true, true, true, true, true, true, true, true, false, false, false, false] rfl rfl (any_of HT_.out (by kernel_rfl)) (fun _ _ _ h => h) (Or.inl ⟨by rfl, ?_⟩) ?_ ?_
                                      rotate_left
                                      · intro w'
                                        go_simp
                                        with_reducible rfl
                                      rotate_left
                                      · simp only [Act.put, List.setIfInBounds_toArray, List.set_cons_zero, List.set_cons_succ, i64_w, i32_w]
                                        rfl
                                      refine pure_ (i := 16) (N := some 57) (v := ?_) (a' := ?_) #[true, true, true, true, true, true, true, true, true, true, true, true, true, true, true, true, true, false, false, false] rfl rfl (any_of HT_.out (by kernel_rfl)) (fun _ _ _ h => h) (Or.inl ⟨by rfl, ?_⟩) ?_ ?_
                                      rotate_left
                                      · intro w'
                                        go_simp
                                        with_reducible rfl
                                      rotate_left
                                      · simp only [Act.put, List.setIfInBounds_toArray, List.set_cons_zero, List.set_cons_succ, i64_w, i32_w]
                                        rfl
                                      refine one_ (i := 17) (N := some 9) #[true, true, true, true, true, true, true, true, true, true, true, true, true, true, true, true, true, true, false, false] rfl rfl (one_of HT_.out (by kernel_rfl)) (by decide) (fun K hK => ?_)
                                      refine box_step ?hg (N := 9) ?hd (cs := #[.int .u64 0, .int .i64 0]) (t := 26) ?hr ?_; (case hd => rfl); (case hg => rfl); (case hr => first | (go_simp; done) | (go_simp; rfl))
                                      intro gb241 hg w41 hbox hb
                                      have HS3_ := (hb.cell (World.block_lt_of_cell? _ _ (hHeld.2.2.2.1))).trans (hHeld.2.2.2.1)
                                      have HS4_ := (hb.cell (World.block_lt_of_cell? _ _ (hHeld.2.2.2.2))).trans (hHeld.2.2.2.2)
                                      have n0_ := Aside0.mk (Kd.V_below (Kd.V_elderB (by (with_reducible repeat (first | apply Kd.V_alloc | apply Kd.V_drewN | apply Kd.V_drew)); exact HO_0.out) gb241 (Nat.le_of_eq hg.symm)) hb)
                                      have n1_ := Aside0.mk (Kd.R_below (Kd.R_elderB (by (with_reducible repeat (first | apply Kd.R_alloc | apply Kd.R_drewN | apply Kd.R_drew)); exact HO237.out) gb241 (Nat.le_of_eq hg.symm)) hb)
                                      have n2_ := Aside0.mk (blk_below (g := gb231) (o := .cells #[.int .u64 t228, .int .i64 t229] 26 (0, 0)) (by (with_reducible repeat (first | refine blk_drewN ?_ _ | refine blk_drew ?_ | refine blk_alloc ?_ _)); exact BK231.out) hb)
                                      have n3_ := Aside0.mk (blk_below (g := gb232) (o := .cells #[.int .u64 x233000_2, .int .i64 x233001_2] 26 (0, 0)) (by (with_reducible repeat (first | refine blk_drewN ?_ _ | refine blk_drew ?_ | refine blk_alloc ?_ _)); exact BK232.out) hb)
                                      have n4_ := Aside0.mk (below_step (by repeat (first | (with_reducible first | exact HB.out | apply below_alloc | apply pw_below_drewN | apply below_drew1 | refine below_set ?_ GE231.out | refine below_set ?_ GE232.out) | exact HB.out)) hb)
                                      have n5_ := Aside0.mk (hbox)
                                      have n6_ := Aside0.mk ((by rw [hg]; exact (below_size (by repeat (first | (with_reducible first | exact HB.out | apply below_alloc | apply pw_below_drewN | apply below_drew1 | refine below_set ?_ GE231.out | refine below_set ?_ GE232.out) | exact HB.out))) : w.heap.size ≤ gb241))
                                      have n7_ := Aside0.mk ((by rw [hg]; exact (below_size (by repeat (first | (with_reducible first | exact HB.out | apply below_alloc | apply pw_below_drewN | apply below_drew1 | refine below_set ?_ GE231.out | refine below_set ?_ GE232.out) | exact HB.out))) : w.heap.size ≤ gb241))
                                      have n8_ := Aside0.mk ((by rw [hg]; exact Nat.ne_of_lt (blk_lt (g := gb231) (o := .cells #[.int .u64 t228, .int .i64 t229] 26 (0, 0)) (by (with_reducible repeat (first | refine blk_drewN ?_ _ | refine blk_drew ?_ | refine blk_alloc ?_ _)); exact BK231.out)) : gb231 ≠ gb241))
                                      have n9_ := Aside0.mk ((by rw [hg]; exact Nat.ne_of_gt (blk_lt (g := gb231) (o := .cells #[.int .u64 t228, .int .i64 t229] 26 (0, 0)) (by (with_reducible repeat (first | refine blk_drewN ?_ _ | refine blk_drew ?_ | refine blk_alloc ?_ _)); exact BK231.out)) : gb241 ≠ gb231))
                                      have n10_ := Aside0.mk ((by rw [hg]; exact Nat.ne_of_lt (blk_lt (g := gb232) (o := .cells #[.int .u64 x233000_2, .int .i64 x233001_2] 26 (0, 0)) (by (with_reducible repeat (first | refine blk_drewN ?_ _ | refine blk_drew ?_ | refine blk_alloc ?_ _)); exact BK232.out)) : gb232 ≠ gb241))
                                      have n11_ := Aside0.mk ((by rw [hg]; exact Nat.ne_of_gt (blk_lt (g := gb232) (o := .cells #[.int .u64 x233000_2, .int .i64 x233001_2] 26 (0, 0)) (by (with_reducible repeat (first | refine blk_drewN ?_ _ | refine blk_drew ?_ | refine blk_alloc ?_ _)); exact BK232.out)) : gb241 ≠ gb232))
                                      clear HO_0
                                      clear HO237
                                      clear BK231
                                      clear BK232
                                      clear HB
                                      have HO_0 := n0_
                                      have HO237 := n1_
                                      have BK231 := n2_
                                      have BK232 := n3_
                                      have HB := n4_
                                      have BK241 := n5_
                                      have GW241 := n6_
                                      have GE241 := n7_
                                      have NB231_241 := n8_
                                      have NB241_231 := n9_
                                      have NB232_241 := n10_
                                      have NB241_232 := n11_
                                      clear n0_ n1_ n2_ n3_ n4_ n5_ n6_ n7_ n8_ n9_ n10_ n11_
                                      clear hb hbox hg
                                      refine hK.out _ _ ⟨(blk_cell BK232.out 0).trans rfl, (blk_cell BK232.out 1).trans rfl, ((HB.out.cell (World.block_lt_of_cell? w _ hw233_0)).trans hw233_0), HS3_, HS4_⟩ (fun hHeld => ?_)
                                      clear hK K
                                      refine norm_ (a' := ?_) ?_ ?_
                                      rotate_left
                                      · show Act.put _ (some 9) _ = _
                                        simp only [Act.put, List.setIfInBounds_toArray, List.set_cons_zero, List.set_cons_succ, i64_w, i32_w]
                                        rfl
                                      exact norm_ (by simp only [putAll, Act.put, List.setIfInBounds_toArray, List.set_cons_zero, List.set_cons_succ]) (hCont (.slice Ao39 y235.length co39, gb241) _ ⟨hHeld, (by (with_reducible repeat (first | apply Kd.R_alloc | apply Kd.R_drewN | apply Kd.R_drew)); exact Kd.R_mono HO237.out (fun _ hk => ⟨hk.1.1.2, ⟨hk.1.2, hk.2⟩⟩)), (by (with_reducible repeat (first | apply Kd.V_alloc | apply Kd.V_drewN | apply Kd.V_drew)); exact Kd.V_mono HO_0.out (fun _ hk => ⟨hk.1.2, ⟨hk.1.1.1, ⟨hk.1.1.2, hk.2⟩⟩⟩)), (by (with_reducible repeat (first | refine blk_drewN ?_ _ | refine blk_drew ?_ | refine blk_alloc ?_ _)); exact BK231.out), (by (with_reducible repeat (first | refine blk_drewN ?_ _ | refine blk_drew ?_ | refine blk_alloc ?_ _)); exact BK232.out), (by (with_reducible repeat (first | refine blk_drewN ?_ _ | refine blk_drew ?_ | refine blk_alloc ?_ _)); exact BK241.out), GW241.out, GE241.out, NB231_241.out, NB241_231.out, NB232_241.out, NB241_232.out, (by repeat (first | (with_reducible first | exact HB.out | apply below_alloc | apply pw_below_drewN | apply below_drew1 | refine below_set ?_ GE231.out | refine below_set ?_ GE232.out | refine below_set ?_ GE241.out) | exact HB.out))⟩)
                                    · skip
                                      refine box_step ?hg (N := 9) ?hd (cs := #[.int .u64 0, .int .i64 0]) (t := 26) ?hr ?_; (case hd => rfl); (case hg => rfl); (case hr => first | (go_simp; done) | (go_simp; rfl))
                                      intro gb241 hg w39 hbox hb
                                      have HS3_ := (hb.cell (World.block_lt_of_cell? _ _ (hHeld.2.2.2.1))).trans (hHeld.2.2.2.1)
                                      have HS4_ := (hb.cell (World.block_lt_of_cell? _ _ (hHeld.2.2.2.2))).trans (hHeld.2.2.2.2)
                                      have n0_ := Aside0.mk (Kd.V_below (Kd.V_elderB (by (with_reducible repeat (first | apply Kd.V_alloc | apply Kd.V_drewN | apply Kd.V_drew)); exact HO_0.out) gb241 (Nat.le_of_eq hg.symm)) hb)
                                      have n1_ := Aside0.mk (Kd.R_below (Kd.R_elderB (by (with_reducible repeat (first | apply Kd.R_alloc | apply Kd.R_drewN | apply Kd.R_drew)); exact HO237.out) gb241 (Nat.le_of_eq hg.symm)) hb)
                                      have n2_ := Aside0.mk (blk_below (g := gb231) (o := .cells #[.int .u64 t228, .int .i64 t229] 26 (0, 0)) (by (with_reducible repeat (first | refine blk_drewN ?_ _ | refine blk_drew ?_ | refine blk_alloc ?_ _)); exact BK231.out) hb)
                                      have n3_ := Aside0.mk (blk_below (g := gb232) (o := .cells #[.int .u64 x233000_2, .int .i64 x233001_2] 26 (0, 0)) (by (with_reducible repeat (first | refine blk_drewN ?_ _ | refine blk_drew ?_ | refine blk_alloc ?_ _)); exact BK232.out) hb)
                                      have n4_ := Aside0.mk (below_step (by repeat (first | (with_reducible first | exact HB.out | apply below_alloc | apply pw_below_drewN | apply below_drew1 | refine below_set ?_ GE231.out | refine below_set ?_ GE232.out) | exact HB.out)) hb)
                                      have n5_ := Aside0.mk (hbox)
                                      have n6_ := Aside0.mk ((by rw [hg]; exact (below_size (by repeat (first | (with_reducible first | exact HB.out | apply below_alloc | apply pw_below_drewN | apply below_drew1 | refine below_set ?_ GE231.out | refine below_set ?_ GE232.out) | exact HB.out))) : w.heap.size ≤ gb241))
                                      have n7_ := Aside0.mk ((by rw [hg]; exact (below_size (by repeat (first | (with_reducible first | exact HB.out | apply below_alloc | apply pw_below_drewN | apply below_drew1 | refine below_set ?_ GE231.out | refine below_set ?_ GE232.out) | exact HB.out))) : w.heap.size ≤ gb241))
                                      have n8_ := Aside0.mk ((by rw [hg]; exact Nat.ne_of_lt (blk_lt (g := gb231) (o := .cells #[.int .u64 t228, .int .i64 t229] 26 (0, 0)) (by (with_reducible repeat (first | refine blk_drewN ?_ _ | refine blk_drew ?_ | refine blk_alloc ?_ _)); exact BK231.out)) : gb231 ≠ gb241))
                                      have n9_ := Aside0.mk ((by rw [hg]; exact Nat.ne_of_gt (blk_lt (g := gb231) (o := .cells #[.int .u64 t228, .int .i64 t229] 26 (0, 0)) (by (with_reducible repeat (first | refine blk_drewN ?_ _ | refine blk_drew ?_ | refine blk_alloc ?_ _)); exact BK231.out)) : gb241 ≠ gb231))
                                      have n10_ := Aside0.mk ((by rw [hg]; exact Nat.ne_of_lt (blk_lt (g := gb232) (o := .cells #[.int .u64 x233000_2, .int .i64 x233001_2] 26 (0, 0)) (by (with_reducible repeat (first | refine blk_drewN ?_ _ | refine blk_drew ?_ | refine blk_alloc ?_ _)); exact BK232.out)) : gb232 ≠ gb241))
                                      have n11_ := Aside0.mk ((by rw [hg]; exact Nat.ne_of_gt (blk_lt (g := gb232) (o := .cells #[.int .u64 x233000_2, .int .i64 x233001_2] 26 (0, 0)) (by (with_reducible repeat (first | refine blk_drewN ?_ _ | refine blk_drew ?_ | refine blk_alloc ?_ _)); exact BK232.out)) : gb241 ≠ gb232))
                                      clear HO_0
                                      clear HO237
                                      clear BK231
                                      clear BK232
                                      clear HB
                                      have HO_0 := n0_
                                      have HO237 := n1_
                                      have BK231 := n2_
                                      have BK232 := n3_
                                      have HB := n4_
                                      have BK241 := n5_
                                      have GW241 := n6_
                                      have GE241 := n7_
                                      have NB231_241 := n8_
                                      have NB241_231 := n9_
                                      have NB232_241 := n10_
                                      have NB241_232 := n11_
                                      clear n0_ n1_ n2_ n3_ n4_ n5_ n6_ n7_ n8_ n9_ n10_ n11_
                                      clear hb hbox hg
                                      obtain ⟨Ao40, co40, eo40⟩ := Kd.R_slice HO237.out
                                      (first | subst eo40 | (injection eo40 with f1_ f2_ f3_; have f4_ := f1_.symm; have f5_ := f3_.symm; clear f1_ f2_ f3_; subst f4_; subst f5_))
                                      refine hK.out _ _ ⟨(blk_cell BK232.out 0).trans rfl, (blk_cell BK232.out 1).trans rfl, ((HB.out.cell (World.block_lt_of_cell? w _ hw233_0)).trans hw233_0), HS3_, HS4_⟩ (fun hHeld => ?_)
                                      clear hK K
                                      refine norm_ (a' := ?_) ?_ ?_
                                      rotate_left
                                      · show Act.put _ (some 9) _ = _
                                        simp only [Act.put, List.setIfInBounds_toArray, List.set_cons_zero, List.set_cons_succ, i64_w, i32_w]
                                        rfl
                                      refine one_ (i := 13) (N := some 55) #[true, true, true, true, true, true, true, true, true, true, true, true, true, true, false, false, false, true, false, false] rfl rfl (one_of HT_.out (by kernel_rfl)) (by decide) (fun K hK => ?_)
                                      refine goes_ Try.func16 (by kernel_rfl) rfl #[.slice Ao40 y235.length co40] (by rfl) rfl rfl (by (try simp only [List.map_toArray, List.map_cons, List.map_nil]); first | done | rfl | (simp only [List.length_drop, List.length_take]; rfl)) ?_
                                      with_reducible refine (know_Join.calls kj22 _ _ y235 t238 t239 t240 _ ?side1 ?side2 A32.out).mono ?_
                                      (case side1 => repeat (first | exact (Kd.R_reads' HO237.out).2.2 | (with_reducible refine Kd.C_alloc ?_ _) | (with_reducible refine Kd.C_drewN ?_ _) | (with_reducible refine Kd.C_drew ?_)))
                                      (case side2 => exact (Kd.R_reads' HO237.out).2.1)
                                      rintro e w41 ⟨rfl, hb⟩
                                      have HS3_ := (hb.cell (World.block_lt_of_cell? _ _ (hHeld.2.2.2.1))).trans (hHeld.2.2.2.1)
                                      have HS4_ := (hb.cell (World.block_lt_of_cell? _ _ (hHeld.2.2.2.2))).trans (hHeld.2.2.2.2)
                                      refine ⟨_, rfl, ?_⟩
                                      have n0_ := Aside0.mk (Kd.V_below (by (with_reducible repeat (first | apply Kd.V_alloc | apply Kd.V_drewN | apply Kd.V_drew)); exact HO_0.out) hb)
                                      have n1_ := Aside0.mk (Kd.R_below (by (with_reducible repeat (first | apply Kd.R_alloc | apply Kd.R_drewN | apply Kd.R_drew)); exact HO237.out) hb)
                                      have n2_ := Aside0.mk (blk_below (g := gb231) (o := .cells #[.int .u64 t228, .int .i64 t229] 26 (0, 0)) (by (with_reducible repeat (first | refine blk_drewN ?_ _ | refine blk_drew ?_ | refine blk_alloc ?_ _)); exact BK231.out) hb)
                                      have n3_ := Aside0.mk (blk_below (g := gb232) (o := .cells #[.int .u64 x233000_2, .int .i64 x233001_2] 26 (0, 0)) (by (with_reducible repeat (first | refine blk_drewN ?_ _ | refine blk_drew ?_ | refine blk_alloc ?_ _)); exact BK232.out) hb)
                                      have n4_ := Aside0.mk (blk_below (g := gb241) (o := .cells #[.int .u64 0, .int .i64 0] 26 (0, 0)) (by (with_reducible repeat (first | refine blk_drewN ?_ _ | refine blk_drew ?_ | refine blk_alloc ?_ _)); exact BK241.out) hb)
                                      have n5_ := Aside0.mk (below_step (by repeat (first | (with_reducible first | exact HB.out | apply below_alloc | apply pw_below_drewN | apply below_drew1 | refine below_set ?_ GE231.out | refine below_set ?_ GE232.out | refine below_set ?_ GE241.out) | exact HB.out)) hb)
                                      clear HO_0
                                      clear HO237
                                      clear BK231
                                      clear BK232
                                      clear BK241
                                      clear HB
                                      have HO_0 := n0_
                                      have HO237 := n1_
                                      have BK231 := n2_
                                      have BK232 := n3_
                                      have BK241 := n4_
                                      have HB := n5_
                                      clear n0_ n1_ n2_ n3_ n4_ n5_
                                      (try clear hb)
                                      (try clear hb2)
                                      (try clear hk)
                                      (try clear hi)
                                      refine hK.out _ _ ⟨(blk_cell BK232.out 0).trans rfl, (blk_cell BK232.out 1).trans rfl, ((HB.out.cell (World.block_lt_of_cell? w _ hw233_0)).trans hw233_0), HS3_, HS4_⟩ (fun hHeld => ?_)
                                      clear hK K
                                      refine norm_ (a' := ?_) ?_ ?_
                                      rotate_left
                                      · show Act.put _ (some 55) _ = _
                                        simp only [Act.put, List.setIfInBounds_toArray, List.set_cons_zero, List.set_cons_succ, i64_w, i32_w]
                                        rfl
                                      refine pure_ (i := 14) (N := some 41) (v := ?_) (a' := ?_) #[true, true, true, true, true, true, true, true, true, true, true, true, true, true, true, false, false, true, false, false] rfl rfl (any_of HT_.out (by kernel_rfl)) (fun _ _ _ h => h) (Or.inl ⟨by rfl, ?_⟩) ?_ ?_
                                      rotate_left
                                      · intro w'
                                        go_simp
                                        with_reducible rfl
                                      rotate_left
                                      · simp only [Act.put, List.setIfInBounds_toArray, List.set_cons_zero, List.set_cons_succ, i64_w, i32_w]
                                        rfl
                                      refine pure_ (i := 15) (N := some 56) (v := ?_) (a' := ?_) #[true, true, true, true, true, true, true, true, true, true, true, true, true, true, true, true, false, true, false, false] rfl rfl (any_of HT_.out (by kernel_rfl)) (fun _ _ _ h => h) (Or.inl ⟨by rfl, ?_⟩) ?_ ?_
                                      rotate_left
                                      · intro w'
                                        go_simp
                                        with_reducible rfl
                                      rotate_left
                                      · simp only [Act.put, List.setIfInBounds_toArray, List.set_cons_zero, List.set_cons_succ, i64_w, i32_w]
                                        rfl
                                      refine pure_ (i := 16) (N := some 57) (v := ?_) (a' := ?_) #[true, true, true, true, true, true, true, true, true, true, true, true, true, true, true, true, true, true, false, false] rfl rfl (any_of HT_.out (by kernel_rfl)) (fun _ _ _ h => h) (Or.inl ⟨by rfl, ?_⟩) ?_ ?_
                                      rotate_left
                                      · intro w'
                                        go_simp
                                        with_reducible rfl
                                      rotate_left
                                      · simp only [Act.put, List.setIfInBounds_toArray, List.set_cons_zero, List.set_cons_succ, i64_w, i32_w]
                                        rfl
                                      exact norm_ (by simp only [putAll, Act.put, List.setIfInBounds_toArray, List.set_cons_zero, List.set_cons_succ]) (hCont (.slice Ao40 y235.length co40, gb241) _ ⟨hHeld, (by (with_reducible repeat (first | apply Kd.R_alloc | apply Kd.R_drewN | apply Kd.R_drew)); exact Kd.R_mono HO237.out (fun _ hk => ⟨hk.1.1.2, ⟨hk.1.2, hk.2⟩⟩)), (by (with_reducible repeat (first | apply Kd.V_alloc | apply Kd.V_drewN | apply Kd.V_drew)); exact Kd.V_mono HO_0.out (fun _ hk => ⟨hk.1.2, ⟨hk.1.1.1, ⟨hk.1.1.2, hk.2⟩⟩⟩)), (by (with_reducible repeat (first | refine blk_drewN ?_ _ | refine blk_drew ?_ | refine blk_alloc ?_ _)); exact BK231.out), (by (with_reducible repeat (first | refine blk_drewN ?_ _ | refine blk_drew ?_ | refine blk_alloc ?_ _)); exact BK232.out), (by (with_reducible repeat (first | refine blk_drewN ?_ _ | refine blk_drew ?_ | refine blk_alloc ?_ _)); exact BK241.out), GW241.out, GE241.out, NB231_241.out, NB241_231.out, NB232_241.out, NB241_232.out, (by repeat (first | (with_reducible first | exact HB.out | apply below_alloc | apply pw_below_drewN | apply below_drew1 | refine below_set ?_ GE231.out | refine below_set ?_ GE232.out | refine below_set ?_ GE241.out) | exact HB.out))⟩)
                                  · skip
                                    refine box_step ?hg (N := 9) ?hd (cs := #[.int .u64 0, .int .i64 0]) (t := 26) ?hr ?_; (case hd => rfl); (case hg => rfl); (case hr => first | (go_simp; done) | (go_simp; rfl))
                                    intro gb241 hg w37 hbox hb
                                    have HS3_ := (hb.cell (World.block_lt_of_cell? _ _ (hHeld.2.2.2.1))).trans (hHeld.2.2.2.1)
                                    have HS4_ := (hb.cell (World.block_lt_of_cell? _ _ (hHeld.2.2.2.2))).trans (hHeld.2.2.2.2)
                                    have n0_ := Aside0.mk (Kd.V_below (Kd.V_elderB (by (with_reducible repeat (first | apply Kd.V_alloc | apply Kd.V_drewN | apply Kd.V_drew)); exact HO_0.out) gb241 (Nat.le_of_eq hg.symm)) hb)
                                    have n1_ := Aside0.mk (blk_below (g := gb231) (o := .cells #[.int .u64 t228, .int .i64 t229] 26 (0, 0)) (by (with_reducible repeat (first | refine blk_drewN ?_ _ | refine blk_drew ?_ | refine blk_alloc ?_ _)); exact BK231.out) hb)
                                    have n2_ := Aside0.mk (blk_below (g := gb232) (o := .cells #[.int .u64 x233000_2, .int .i64 x233001_2] 26 (0, 0)) (by (with_reducible repeat (first | refine blk_drewN ?_ _ | refine blk_drew ?_ | refine blk_alloc ?_ _)); exact BK232.out) hb)
                                    have n3_ := Aside0.mk (below_step (by repeat (first | (with_reducible first | exact HB.out | apply below_alloc | apply pw_below_drewN | apply below_drew1 | refine below_set ?_ GE231.out | refine below_set ?_ GE232.out) | exact HB.out)) hb)
                                    have n4_ := Aside0.mk (hbox)
                                    have n5_ := Aside0.mk ((by rw [hg]; exact (below_size (by repeat (first | (with_reducible first | exact HB.out | apply below_alloc | apply pw_below_drewN | apply below_drew1 | refine below_set ?_ GE231.out | refine below_set ?_ GE232.out) | exact HB.out))) : w.heap.size ≤ gb241))
                                    have n6_ := Aside0.mk ((by rw [hg]; exact (below_size (by repeat (first | (with_reducible first | exact HB.out | apply below_alloc | apply pw_below_drewN | apply below_drew1 | refine below_set ?_ GE231.out | refine below_set ?_ GE232.out) | exact HB.out))) : w.heap.size ≤ gb241))
                                    have n7_ := Aside0.mk ((by rw [hg]; exact Nat.ne_of_lt (blk_lt (g := gb231) (o := .cells #[.int .u64 t228, .int .i64 t229] 26 (0, 0)) (by (with_reducible repeat (first | refine blk_drewN ?_ _ | refine blk_drew ?_ | refine blk_alloc ?_ _)); exact BK231.out)) : gb231 ≠ gb241))
                                    have n8_ := Aside0.mk ((by rw [hg]; exact Nat.ne_of_gt (blk_lt (g := gb231) (o := .cells #[.int .u64 t228, .int .i64 t229] 26 (0, 0)) (by (with_reducible repeat (first | refine blk_drewN ?_ _ | refine blk_drew ?_ | refine blk_alloc ?_ _)); exact BK231.out)) : gb241 ≠ gb231))
                                    have n9_ := Aside0.mk ((by rw [hg]; exact Nat.ne_of_lt (blk_lt (g := gb232) (o := .cells #[.int .u64 x233000_2, .int .i64 x233001_2] 26 (0, 0)) (by (with_reducible repeat (first | refine blk_drewN ?_ _ | refine blk_drew ?_ | refine blk_alloc ?_ _)); exact BK232.out)) : gb232 ≠ gb241))
                                    have n10_ := Aside0.mk ((by rw [hg]; exact Nat.ne_of_gt (blk_lt (g := gb232) (o := .cells #[.int .u64 x233000_2, .int .i64 x233001_2] 26 (0, 0)) (by (with_reducible repeat (first | refine blk_drewN ?_ _ | refine blk_drew ?_ | refine blk_alloc ?_ _)); exact BK232.out)) : gb241 ≠ gb232))
                                    clear HO_0
                                    clear BK231
                                    clear BK232
                                    clear HB
                                    have HO_0 := n0_
                                    have BK231 := n1_
                                    have BK232 := n2_
                                    have HB := n3_
                                    have BK241 := n4_
                                    have GW241 := n5_
                                    have GE241 := n6_
                                    have NB231_241 := n7_
                                    have NB241_231 := n8_
                                    have NB232_241 := n9_
                                    have NB241_232 := n10_
                                    clear n0_ n1_ n2_ n3_ n4_ n5_ n6_ n7_ n8_ n9_ n10_
                                    clear hb hbox hg
                                    refine hK.out _ _ ⟨(blk_cell BK232.out 0).trans rfl, (blk_cell BK232.out 1).trans rfl, ((HB.out.cell (World.block_lt_of_cell? w _ hw233_0)).trans hw233_0), HS3_, HS4_⟩ (fun hHeld => ?_)
                                    clear hK K
                                    refine norm_ (a' := ?_) ?_ ?_
                                    rotate_left
                                    · show Act.put _ (some 9) _ = _
                                      simp only [Act.put, List.setIfInBounds_toArray, List.set_cons_zero, List.set_cons_succ, i64_w, i32_w]
                                      rfl
                                    refine one_ (i := 12) (N := some 54) #[true, true, true, true, true, true, true, true, true, true, true, true, true, false, false, false, false, true, false, false] rfl rfl (one_of HT_.out (by kernel_rfl)) (by decide) (fun K hK => ?_)
                                    refine Kd.R_lit_step k26 _ 26 ?hg (N := 54) ?hd (xs := ([(⟨x233000_2, x233001_2⟩ : S26), (⟨(rd_T26 t223 (ji29)).f0, (rd_T26 t223 (ji29)).f1⟩ : S26)] : List (S26))) (inner := [.int .u64 x233000_2, .int .i64 x233001_2, .int .u64 ((rd_T26 t223 (ji29)).f0), .int .i64 ((rd_T26 t223 (ji29)).f1)]) (ok := fun _ => True) (okp := fun _ => True) ?hr ?hp (fun _ hk => hk) trivial (Below.refl _ _) (Nat.le_refl _) (by simp) ?_; (case hd => rfl); (case hg => rfl); (case hr => first | (go_simp; done) | (go_simp; rfl)); (case hp => exact (Reps.c2 (show Kd.M k26 _ _ _ (⟨x233000_2, x233001_2⟩ : S26) [.int .u64 x233000_2, .int .i64 x233001_2] from (k26_mkM _ _ _ (⟨x233000_2, x233001_2⟩ : S26) )) (Reps.c2 (show Kd.M k26 _ _ _ (⟨(rd_T26 t223 (ji29)).f0, (rd_T26 t223 (ji29)).f1⟩ : S26) [.int .u64 ((rd_T26 t223 (ji29)).f0), .int .i64 ((rd_T26 t223 (ji29)).f1)] from (k26_mkM _ _ _ (⟨(rd_T26 t223 (ji29)).f0, (rd_T26 t223 (ji29)).f1⟩ : S26) )) (Reps.none _ _))))
                                    intro v236 w38 ho39 hb hg_ hnew_
                                    have HS3_ := (hb.cell (World.block_lt_of_cell? _ _ (hHeld.2.2.2.1))).trans (hHeld.2.2.2.1)
                                    have HS4_ := (hb.cell (World.block_lt_of_cell? _ _ (hHeld.2.2.2.2))).trans (hHeld.2.2.2.2)
                                    clear hg_ hnew_
                                    (first | rw [← Ny235.out] at ho39 | (simp only [Int.reduceToNat] at ho39; rw [← Ny235.out] at ho39))
                                    have n0_ := Aside0.mk (Kd.V_elder' (by (with_reducible repeat (first | apply Kd.V_alloc | apply Kd.V_drewN | apply Kd.V_drew)); exact HO_0.out) (Kd.R_base ho39) hb)
                                    have n1_ := Aside0.mk (Kd.R_lower (Kd.R_newB (Kd.R_newB (Kd.R_newB ho39 (g := gb231) (o := .cells #[.int .u64 t228, .int .i64 t229] 26 (0, 0)) (by (with_reducible repeat (first | refine blk_drewN ?_ _ | refine blk_drew ?_ | refine blk_alloc ?_ _)); exact BK231.out)) (g := gb232) (o := .cells #[.int .u64 x233000_2, .int .i64 x233001_2] 26 (0, 0)) (by (with_reducible repeat (first | refine blk_drewN ?_ _ | refine blk_drew ?_ | refine blk_alloc ?_ _)); exact BK232.out)) (g := gb241) (o := .cells #[.int .u64 0, .int .i64 0] 26 (0, 0)) (by (with_reducible repeat (first | refine blk_drewN ?_ _ | refine blk_drew ?_ | refine blk_alloc ?_ _)); exact BK241.out)) (below_size (by repeat (first | (with_reducible first | exact HB.out | apply below_alloc | apply pw_below_drewN | apply below_drew1 | refine below_set ?_ GE231.out | refine below_set ?_ GE232.out | refine below_set ?_ GE241.out) | exact HB.out))))
                                    have n2_ := Aside0.mk (blk_below (g := gb231) (o := .cells #[.int .u64 t228, .int .i64 t229] 26 (0, 0)) (by (with_reducible repeat (first | refine blk_drewN ?_ _ | refine blk_drew ?_ | refine blk_alloc ?_ _)); exact BK231.out) hb)
                                    have n3_ := Aside0.mk (blk_below (g := gb232) (o := .cells #[.int .u64 x233000_2, .int .i64 x233001_2] 26 (0, 0)) (by (with_reducible repeat (first | refine blk_drewN ?_ _ | refine blk_drew ?_ | refine blk_alloc ?_ _)); exact BK232.out) hb)
                                    have n4_ := Aside0.mk (blk_below (g := gb241) (o := .cells #[.int .u64 0, .int .i64 0] 26 (0, 0)) (by (with_reducible repeat (first | refine blk_drewN ?_ _ | refine blk_drew ?_ | refine blk_alloc ?_ _)); exact BK241.out) hb)
                                    have n5_ := Aside0.mk (below_step (by repeat (first | (with_reducible first | exact HB.out | apply below_alloc | apply pw_below_drewN | apply below_drew1 | refine below_set ?_ GE231.out | refine below_set ?_ GE232.out | refine below_set ?_ GE241.out) | exact HB.out)) hb)
                                    clear HO_0
                                    clear BK231
                                    clear BK232
                                    clear BK241
                                    clear HB
                                    have HO_0 := n0_
                                    have HO237 := n1_
                                    have BK231 := n2_
                                    have BK232 := n3_
                                    have BK241 := n4_
                                    have HB := n5_
                                    clear n0_ n1_ n2_ n3_ n4_ n5_
                                    clear hb ho39
                                    obtain ⟨Ao40, co40, eo40⟩ := Kd.R_slice HO237.out
                                    (first | subst eo40 | (injection eo40 with f1_ f2_ f3_; have f4_ := f1_.symm; have f5_ := f3_.symm; clear f1_ f2_ f3_; subst f4_; subst f5_))
                                    refine hK.out _ _ ⟨(blk_cell BK232.out 0).trans rfl, (blk_cell BK232.out 1).trans rfl, ((HB.out.cell (World.block_lt_of_cell? w _ hw233_0)).trans hw233_0), HS3_, HS4_⟩ (fun hHeld => ?_)
                                    clear hK K
                                    refine norm_ (a' := ?_) ?_ ?_
                                    rotate_left
                                    · show Act.put _ (some 54) _ = _
                                      simp only [Act.put, List.setIfInBounds_toArray, List.set_cons_zero, List.set_cons_succ, i64_w, i32_w]
                                      rfl
                                    refine one_ (i := 13) (N := some 55) #[true, true, true, true, true, true, true, true, true, true, true, true, true, true, false, false, false, true, false, false] rfl rfl (one_of HT_.out (by kernel_rfl)) (by decide) (fun K hK => ?_)
                                    refine goes_ Try.func16 (by kernel_rfl) rfl #[.slice Ao40 y235.length co40] (by rfl) rfl rfl (by (try simp only [List.map_toArray, List.map_cons, List.map_nil]); first | done | rfl | (simp only [List.length_drop, List.length_take]; rfl)) ?_
                                    with_reducible refine (know_Join.calls kj22 _ _ y235 t238 t239 t240 _ ?side1 ?side2 A32.out).mono ?_
                                    (case side1 => repeat (first | exact (Kd.R_reads' HO237.out).2.2 | (with_reducible refine Kd.C_alloc ?_ _) | (with_reducible refine Kd.C_drewN ?_ _) | (with_reducible refine Kd.C_drew ?_)))
                                    (case side2 => exact (Kd.R_reads' HO237.out).2.1)
                                    rintro e w41 ⟨rfl, hb⟩
                                    have HS3_ := (hb.cell (World.block_lt_of_cell? _ _ (hHeld.2.2.2.1))).trans (hHeld.2.2.2.1)
                                    have HS4_ := (hb.cell (World.block_lt_of_cell? _ _ (hHeld.2.2.2.2))).trans (hHeld.2.2.2.2)
                                    refine ⟨_, rfl, ?_⟩
                                    have n0_ := Aside0.mk (Kd.V_below (by (with_reducible repeat (first | apply Kd.V_alloc | apply Kd.V_drewN | apply Kd.V_drew)); exact HO_0.out) hb)
                                    have n1_ := Aside0.mk (Kd.R_below (by (with_reducible repeat (first | apply Kd.R_alloc | apply Kd.R_drewN | apply Kd.R_drew)); exact HO237.out) hb)
                                    have n2_ := Aside0.mk (blk_below (g := gb231) (o := .cells #[.int .u64 t228, .int .i64 t229] 26 (0, 0)) (by (with_reducible repeat (first | refine blk_drewN ?_ _ | refine blk_drew ?_ | refine blk_alloc ?_ _)); exact BK231.out) hb)
                                    have n3_ := Aside0.mk (blk_below (g := gb232) (o := .cells #[.int .u64 x233000_2, .int .i64 x233001_2] 26 (0, 0)) (by (with_reducible repeat (first | refine blk_drewN ?_ _ | refine blk_drew ?_ | refine blk_alloc ?_ _)); exact BK232.out) hb)
                                    have n4_ := Aside0.mk (blk_below (g := gb241) (o := .cells #[.int .u64 0, .int .i64 0] 26 (0, 0)) (by (with_reducible repeat (first | refine blk_drewN ?_ _ | refine blk_drew ?_ | refine blk_alloc ?_ _)); exact BK241.out) hb)
                                    have n5_ := Aside0.mk (below_step (by repeat (first | (with_reducible first | exact HB.out | apply below_alloc | apply pw_below_drewN | apply below_drew1 | refine below_set ?_ GE231.out | refine below_set ?_ GE232.out | refine below_set ?_ GE241.out) | exact HB.out)) hb)
                                    clear HO_0
                                    clear HO237
                                    clear BK231
                                    clear BK232
                                    clear BK241
                                    clear HB
                                    have HO_0 := n0_
                                    have HO237 := n1_
                                    have BK231 := n2_
                                    have BK232 := n3_
                                    have BK241 := n4_
                                    have HB := n5_
                                    clear n0_ n1_ n2_ n3_ n4_ n5_
                                    (try clear hb)
                                    (try clear hb2)
                                    (try clear hk)
                                    (try clear hi)
                                    refine hK.out _ _ ⟨(blk_cell BK232.out 0).trans rfl, (blk_cell BK232.out 1).trans rfl, ((HB.out.cell (World.block_lt_of_cell? w _ hw233_0)).trans hw233_0), HS3_, HS4_⟩ (fun hHeld => ?_)
                                    clear hK K
                                    refine norm_ (a' := ?_) ?_ ?_
                                    rotate_left
                                    · show Act.put _ (some 55) _ = _
                                      simp only [Act.put, List.setIfInBounds_toArray, List.set_cons_zero, List.set_cons_succ, i64_w, i32_w]
                                      rfl
                                    refine pure_ (i := 14) (N := some 41) (v := ?_) (a' := ?_) #[true, true, true, true, true, true, true, true, true, true, true, true, true, true, true, false, false, true, false, false] rfl rfl (any_of HT_.out (by kernel_rfl)) (fun _ _ _ h => h) (Or.inl ⟨by rfl, ?_⟩) ?_ ?_
                                    rotate_left
                                    · intro w'
                                      go_simp
                                      with_reducible rfl
                                    rotate_left
                                    · simp only [Act.put, List.setIfInBounds_toArray, List.set_cons_zero, List.set_cons_succ, i64_w, i32_w]
                                      rfl
                                    refine pure_ (i := 15) (N := some 56) (v := ?_) (a' := ?_) #[true, true, true, true, true, true, true, true, true, true, true, true, true, true, true, true, false, true, false, false] rfl rfl (any_of HT_.out (by kernel_rfl)) (fun _ _ _ h => h) (Or.inl ⟨by rfl, ?_⟩) ?_ ?_
                                    rotate_left
                                    · intro w'
                                      go_simp
                                      with_reducible rfl
                                    rotate_left
                                    · simp only [Act.put, List.setIfInBounds_toArray, List.set_cons_zero, List.set_cons_succ, i64_w, i32_w]
                                      rfl
                                    refine pure_ (i := 16) (N := some 57) (v := ?_) (a' := ?_) #[true, true, true, true, true, true, true, true, true, true, true, true, true, true, true, true, true, true, false, false] rfl rfl (any_of HT_.out (by kernel_rfl)) (fun _ _ _ h => h) (Or.inl ⟨by rfl, ?_⟩) ?_ ?_
                                    rotate_left
                                    · intro w'
                                      go_simp
                                      with_reducible rfl
                                    rotate_left
                                    · simp only [Act.put, List.setIfInBounds_toArray, List.set_cons_zero, List.set_cons_succ, i64_w, i32_w]
                                      rfl
                                    exact norm_ (by simp only [putAll, Act.put, List.setIfInBounds_toArray, List.set_cons_zero, List.set_cons_succ]) (hCont (.slice Ao40 y235.length co40, gb241) _ ⟨hHeld, (by (with_reducible repeat (first | apply Kd.R_alloc | apply Kd.R_drewN | apply Kd.R_drew)); exact Kd.R_mono HO237.out (fun _ hk => ⟨hk.1.1.2, ⟨hk.1.2, hk.2⟩⟩)), (by (with_reducible repeat (first | apply Kd.V_alloc | apply Kd.V_drewN | apply Kd.V_drew)); exact Kd.V_mono HO_0.out (fun _ hk => ⟨hk.2, ⟨hk.1.1.1, ⟨hk.1.1.2, hk.1.2⟩⟩⟩)), (by (with_reducible repeat (first | refine blk_drewN ?_ _ | refine blk_drew ?_ | refine blk_alloc ?_ _)); exact BK231.out), (by (with_reducible repeat (first | refine blk_drewN ?_ _ | refine blk_drew ?_ | refine blk_alloc ?_ _)); exact BK232.out), (by (with_reducible repeat (first | refine blk_drewN ?_ _ | refine blk_drew ?_ | refine blk_alloc ?_ _)); exact BK241.out), GW241.out, GE241.out, NB231_241.out, NB241_231.out, NB232_241.out, NB241_232.out, (by repeat (first | (with_reducible first | exact HB.out | apply below_alloc | apply pw_below_drewN | apply below_drew1 | refine below_set ?_ GE231.out | refine below_set ?_ GE232.out | refine below_set ?_ GE241.out) | exact HB.out))⟩)
                                rintro ⟨v236, gb241⟩ w42 ⟨hS_, h0_, h1_, h2_, h3_, h4_, h5_, h6_, h7_, h8_, h9_, h10_, h11_⟩
                                have n0_ : Aside0 (Kd.R k26 26 w42 w.heap.size (fun k_ => k_ ≠ gb231 ∧ k_ ≠ gb232 ∧ k_ ≠ gb241) v236 y235) := ⟨h0_⟩
                                have n1_ : Aside0 (Kd.V k26 26 w42 w.heap.size (fun k_ => some k_ ≠ (v236 : Value).ownBlock ∧ k_ ≠ gb231 ∧ k_ ≠ gb232 ∧ k_ ≠ gb241) (.slice (some ad234) t223.length co16) t223) := ⟨h1_⟩
                                have n2_ : Aside0 (w42.heap[gb231]? = some (.cells #[.int .u64 t228, .int .i64 t229] 26 (0, 0))) := ⟨h2_⟩
                                have n3_ : Aside0 (w42.heap[gb232]? = some (.cells #[.int .u64 x233000_2, .int .i64 x233001_2] 26 (0, 0))) := ⟨h3_⟩
                                have n4_ : Aside0 (w42.heap[gb241]? = some (.cells #[.int .u64 0, .int .i64 0] 26 (0, 0))) := ⟨h4_⟩
                                have n5_ : Aside0 (w.heap.size ≤ gb241) := ⟨h5_⟩
                                have n6_ : Aside0 (w.heap.size ≤ gb241) := ⟨h6_⟩
                                have n7_ : Aside0 (gb231 ≠ gb241) := ⟨h7_⟩
                                have n8_ : Aside0 (gb241 ≠ gb231) := ⟨h8_⟩
                                have n9_ : Aside0 (gb232 ≠ gb241) := ⟨h9_⟩
                                have n10_ : Aside0 (gb241 ≠ gb232) := ⟨h10_⟩
                                have n11_ : Aside0 (Below w.heap.size w w42) := ⟨h11_⟩
                                clear HO_0
                                clear BK231
                                clear BK232
                                clear HB
                                clear h0_ h1_ h2_ h3_ h4_ h5_ h6_ h7_ h8_ h9_ h10_ h11_
                                have HO237 := n0_
                                have HO_0 := n1_
                                have BK231 := n2_
                                have BK232 := n3_
                                have BK241 := n4_
                                have GW241 := n5_
                                have GE241 := n6_
                                have NB231_241 := n7_
                                have NB241_231 := n8_
                                have NB232_241 := n9_
                                have NB241_232 := n10_
                                have HB := n11_
                                clear n0_ n1_ n2_ n3_ n4_ n5_ n6_ n7_ n8_ n9_ n10_ n11_
                                have hHeld : w42.cell? ⟨gb232, 0, none⟩ = some (.int .u64 x233000_2) ∧ w42.cell? ⟨gb232, 1, none⟩ = some (.int .i64 x233001_2) ∧ w42.cell? (ad233.add (x8_2).toNat) = some (.int .u8 (rd l1 x8_2)) ∧ w42.cell? (ad234.add (((ji29)).toNat * 2)) = some (.int .u64 ((rd_T26 t223 (ji29)).f0)) ∧ w42.cell? ⟨(ad234.add (((ji29)).toNat * 2)).block, (ad234.add (((ji29)).toNat * 2)).off + 1, none⟩ = some (.int .i64 ((rd_T26 t223 (ji29)).f1)) := hS_
                                refine norm_ (a' := ?_) ?_ ?_
                                rotate_left
                                · simp only [putAll, Act.put, List.setIfInBounds_toArray, List.set_cons_zero, List.set_cons_succ]
                                  rfl
                                refine one_ (i := 18) (N := none) #[true, true, true, true, true, true, true, true, true, true, true, true, true, true, true, true, true, true, true, false] rfl rfl (one_of HT_.out (by kernel_rfl)) (by decide) (fun K hK => ?_)
                                have hs43 : w42.cell? ⟨gb241, 0, none⟩ = some (.int .u64 0) := (blk_cell BK241.out 0).trans rfl
                                have hfs43 := blk_frozen BK241.out 0
                                have hns43_0 := NB231_241.out
                                have hns43_1 := NB232_241.out
                                have hms43_0 := NB241_231.out
                                have hms43_1 := NB241_232.out
                                have hs44 : w42.cell? ⟨gb241, 1, none⟩ = some (.int .i64 0) := (blk_cell BK241.out 1).trans rfl
                                have hfs44 := blk_frozen BK241.out 1
                                have hns44_0 := NB231_241.out
                                have hns44_1 := NB232_241.out
                                have hms44_0 := NB241_231.out
                                have hms44_1 := NB241_232.out
                                refine skip_ (w1 := ?_) (by rfl) rfl ?_ ?_
                                rotate_left
                                · go_simp
                                  rfl
                                refine hK.out _ _ ⟨((cell_far (p := ⟨gb241, _, none⟩) NB232_241.out _).trans (((cell_far (p := ⟨gb241, _, none⟩) NB232_241.out _).trans (hHeld.1)))), ((cell_far (p := ⟨gb241, _, none⟩) NB232_241.out _).trans (((cell_far (p := ⟨gb241, _, none⟩) NB232_241.out _).trans (hHeld.2.1)))), ((cell_far (p := ⟨gb241, _, none⟩) (by first | exact Nat.ne_of_lt (Nat.lt_of_lt_of_le (by have := World.block_lt_of_cell? _ _ hw233_0; first | rwa [add_block] at this | exact this) GW241.out) | (rw [add_block]; exact Nat.ne_of_lt (Nat.lt_of_lt_of_le (by have := World.block_lt_of_cell? _ _ hw233_0; first | rwa [add_block] at this | exact this) GW241.out)) | (show (Addr.add _ _).block ≠ _; rw [add_block]; exact Nat.ne_of_lt (Nat.lt_of_lt_of_le (by have := World.block_lt_of_cell? _ _ hw233_0; first | rwa [add_block] at this | exact this) GW241.out)) | (dsimp only; exact Nat.ne_of_lt (Nat.lt_of_lt_of_le (by have := World.block_lt_of_cell? _ _ hw233_0; first | rwa [add_block] at this | exact this) GW241.out))) _).trans (((cell_far (p := ⟨gb241, _, none⟩) (by first | exact Nat.ne_of_lt (Nat.lt_of_lt_of_le (by have := World.block_lt_of_cell? _ _ hw233_0; first | rwa [add_block] at this | exact this) GW241.out) | (rw [add_block]; exact Nat.ne_of_lt (Nat.lt_of_lt_of_le (by have := World.block_lt_of_cell? _ _ hw233_0; first | rwa [add_block] at this | exact this) GW241.out)) | (show (Addr.add _ _).block ≠ _; rw [add_block]; exact Nat.ne_of_lt (Nat.lt_of_lt_of_le (by have := World.block_lt_of_cell? _ _ hw233_0; first | rwa [add_block] at this | exact this) GW241.out)) | (dsimp only; exact Nat.ne_of_lt (Nat.lt_of_lt_of_le (by have := World.block_lt_of_cell? _ _ hw233_0; first | rwa [add_block] at this | exact this) GW241.out))) _).trans (hHeld.2.2.1)))), ((cell_far (p := ⟨gb241, _, none⟩) (by first | exact Kd.own_blk (Kd.V_away HO_0.out (Kd.V_pos (by first | exact p234 | exact of_decide_eq_true p234 | exact of_decide_eq_true (by assumption) | omega) (by first | exact q234 | exact of_decide_eq_true q234 | exact of_decide_eq_true (by assumption) | omega)) (by decide) (fun _ hk => hk.2.2.2)) | (rw [add_block]; exact Kd.own_blk (Kd.V_away HO_0.out (Kd.V_pos (by first | exact p234 | exact of_decide_eq_true p234 | exact of_decide_eq_true (by assumption) | omega) (by first | exact q234 | exact of_decide_eq_true q234 | exact of_decide_eq_true (by assumption) | omega)) (by decide) (fun _ hk => hk.2.2.2))) | (show (Addr.add _ _).block ≠ _; rw [add_block]; exact Kd.own_blk (Kd.V_away HO_0.out (Kd.V_pos (by first | exact p234 | exact of_decide_eq_true p234 | exact of_decide_eq_true (by assumption) | omega) (by first | exact q234 | exact of_decide_eq_true q234 | exact of_decide_eq_true (by assumption) | omega)) (by decide) (fun _ hk => hk.2.2.2))) | (dsimp only; exact Kd.own_blk (Kd.V_away HO_0.out (Kd.V_pos (by first | exact p234 | exact of_decide_eq_true p234 | exact of_decide_eq_true (by assumption) | omega) (by first | exact q234 | exact of_decide_eq_true q234 | exact of_decide_eq_true (by assumption) | omega)) (by decide) (fun _ hk => hk.2.2.2)))) _).trans (((cell_far (p := ⟨gb241, _, none⟩) (by first | exact Kd.own_blk (Kd.V_away HO_0.out (Kd.V_pos (by first | exact p234 | exact of_decide_eq_true p234 | exact of_decide_eq_true (by assumption) | omega) (by first | exact q234 | exact of_decide_eq_true q234 | exact of_decide_eq_true (by assumption) | omega)) (by decide) (fun _ hk => hk.2.2.2)) | (rw [add_block]; exact Kd.own_blk (Kd.V_away HO_0.out (Kd.V_pos (by first | exact p234 | exact of_decide_eq_true p234 | exact of_decide_eq_true (by assumption) | omega) (by first | exact q234 | exact of_decide_eq_true q234 | exact of_decide_eq_true (by assumption) | omega)) (by decide) (fun _ hk => hk.2.2.2))) | (show (Addr.add _ _).block ≠ _; rw [add_block]; exact Kd.own_blk (Kd.V_away HO_0.out (Kd.V_pos (by first | exact p234 | exact of_decide_eq_true p234 | exact of_decide_eq_true (by assumption) | omega) (by first | exact q234 | exact of_decide_eq_true q234 | exact of_decide_eq_true (by assumption) | omega)) (by decide) (fun _ hk => hk.2.2.2))) | (dsimp only; exact Kd.own_blk (Kd.V_away HO_0.out (Kd.V_pos (by first | exact p234 | exact of_decide_eq_true p234 | exact of_decide_eq_true (by assumption) | omega) (by first | exact q234 | exact of_decide_eq_true q234 | exact of_decide_eq_true (by assumption) | omega)) (by decide) (fun _ hk => hk.2.2.2)))) _).trans (hHeld.2.2.2.1)))), ((cell_far (p := ⟨gb241, _, none⟩) (by first | exact Kd.own_blk (Kd.V_away HO_0.out (Kd.V_pos (by first | exact p234 | exact of_decide_eq_true p234 | exact of_decide_eq_true (by assumption) | omega) (by first | exact q234 | exact of_decide_eq_true q234 | exact of_decide_eq_true (by assumption) | omega)) (by decide) (fun _ hk => hk.2.2.2)) | (rw [add_block]; exact Kd.own_blk (Kd.V_away HO_0.out (Kd.V_pos (by first | exact p234 | exact of_decide_eq_true p234 | exact of_decide_eq_true (by assumption) | omega) (by first | exact q234 | exact of_decide_eq_true q234 | exact of_decide_eq_true (by assumption) | omega)) (by decide) (fun _ hk => hk.2.2.2))) | (show (Addr.add _ _).block ≠ _; rw [add_block]; exact Kd.own_blk (Kd.V_away HO_0.out (Kd.V_pos (by first | exact p234 | exact of_decide_eq_true p234 | exact of_decide_eq_true (by assumption) | omega) (by first | exact q234 | exact of_decide_eq_true q234 | exact of_decide_eq_true (by assumption) | omega)) (by decide) (fun _ hk => hk.2.2.2))) | (dsimp only; exact Kd.own_blk (Kd.V_away HO_0.out (Kd.V_pos (by first | exact p234 | exact of_decide_eq_true p234 | exact of_decide_eq_true (by assumption) | omega) (by first | exact q234 | exact of_decide_eq_true q234 | exact of_decide_eq_true (by assumption) | omega)) (by decide) (fun _ hk => hk.2.2.2)))) _).trans (((cell_far (p := ⟨gb241, _, none⟩) (by first | exact Kd.own_blk (Kd.V_away HO_0.out (Kd.V_pos (by first | exact p234 | exact of_decide_eq_true p234 | exact of_decide_eq_true (by assumption) | omega) (by first | exact q234 | exact of_decide_eq_true q234 | exact of_decide_eq_true (by assumption) | omega)) (by decide) (fun _ hk => hk.2.2.2)) | (rw [add_block]; exact Kd.own_blk (Kd.V_away HO_0.out (Kd.V_pos (by first | exact p234 | exact of_decide_eq_true p234 | exact of_decide_eq_true (by assumption) | omega) (by first | exact q234 | exact of_decide_eq_true q234 | exact of_decide_eq_true (by assumption) | omega)) (by decide) (fun _ hk => hk.2.2.2))) | (show (Addr.add _ _).block ≠ _; rw [add_block]; exact Kd.own_blk (Kd.V_away HO_0.out (Kd.V_pos (by first | exact p234 | exact of_decide_eq_true p234 | exact of_decide_eq_true (by assumption) | omega) (by first | exact q234 | exact of_decide_eq_true q234 | exact of_decide_eq_true (by assumption) | omega)) (by decide) (fun _ hk => hk.2.2.2))) | (dsimp only; exact Kd.own_blk (Kd.V_away HO_0.out (Kd.V_pos (by first | exact p234 | exact of_decide_eq_true p234 | exact of_decide_eq_true (by assumption) | omega) (by first | exact q234 | exact of_decide_eq_true q234 | exact of_decide_eq_true (by assumption) | omega)) (by decide) (fun _ hk => hk.2.2.2)))) _).trans (hHeld.2.2.2.2))))⟩ (fun hHeld => ?_)
                                clear hK K
                                refine pure_ (i := 19) (N := some 10) (v := ?_) (a' := ?_) #[true, true, true, true, true, true, true, true, true, true, true, true, true, true, true, true, true, true, true, true] rfl rfl (any_of HT_.out (by kernel_rfl)) (fun _ _ _ h => h) (Or.inl ⟨by rfl, ?_⟩) ?_ ?_
                                rotate_left
                                · intro w'
                                  go_simp
                                  with_reducible rfl
                                rotate_left
                                · simp only [Act.put, List.setIfInBounds_toArray, List.set_cons_zero, List.set_cons_succ, i64_w, i32_w]
                                  rfl
                                refine done_ (done_of HT_.out (by kernel_rfl)) ?_
                                have hnb45 := NB232_231.out
                                have hnc45 := NB231_232.out
                                have hnb46 := NB232_241.out
                                have hnc46 := NB241_232.out
                                have hcz47_0 : w42.cell? ⟨gb232, 0, none⟩ = some (.int .u64 x233000_2) := (blk_cell BK232.out 0).trans rfl
                                have hcz47_1 : w42.cell? ⟨gb232, 1, none⟩ = some (.int .i64 x233001_2) := (blk_cell BK232.out 1).trans rfl
                                have hfz47_0 := blk_frozen BK232.out 0
                                have hfz47_1 := blk_frozen BK232.out 1
                                have hnb48 := NB241_231.out
                                have hnc48 := NB231_241.out
                                have hcz49_0 : w42.cell? ⟨gb241, 0, none⟩ = some (.int .u64 0) := (blk_cell BK241.out 0).trans rfl
                                have hcz49_1 : w42.cell? ⟨gb241, 1, none⟩ = some (.int .i64 0) := (blk_cell BK241.out 1).trans rfl
                                have hfz49_0 := blk_frozen BK241.out 0
                                have hfz49_1 := blk_frozen BK241.out 1
                                try go_wp2_with (first | (go_at_call 21; (with_reducible refine (know_Beats.calls kj22 x233000_2 x233001_2 t238 t239 false _ A34.out).mono ?_); rintro e w50 ⟨rfl, hb⟩; have n0_ := Aside0.mk (Kd.V_below (by (with_reducible repeat (first | apply Kd.V_alloc | apply Kd.V_drewN | apply Kd.V_drew)); exact (Kd.V_mono (Kd.V_far (p := ⟨gb241, 1, none⟩) (Kd.V_far (p := ⟨gb241, 0, none⟩) (Kd.V_mono HO_0.out (fun k_ hk => (⟨hk, hk.2.2.2⟩ : _ ∧ k_ ≠ gb241))) (fun _ hk => hk.2) (.int .u64 t238)) (fun _ hk => hk.2) (.int .i64 t239)) (fun _ h_ => h_.1))) hb); have n1_ := Aside0.mk (Kd.R_below (by (with_reducible repeat (first | apply Kd.R_alloc | apply Kd.R_drewN | apply Kd.R_drew)); exact (Kd.R_mono (Kd.R_far (p := ⟨gb241, 1, none⟩) (Kd.R_far (p := ⟨gb241, 0, none⟩) (Kd.R_mono HO237.out (fun k_ hk => (⟨hk, hk.2.2⟩ : _ ∧ k_ ≠ gb241))) (fun _ hk => hk.2) (.int .u64 t238)) (fun _ hk => hk.2) (.int .i64 t239)) (fun _ h_ => h_.1))) hb); have n2_ := Aside0.mk (blk_below (g := gb231) (o := .cells #[.int .u64 t228, .int .i64 t229] 26 (0, 0)) (by (with_reducible repeat (first | refine blk_drewN ?_ _ | refine blk_drew ?_ | refine blk_alloc ?_ _)); refine blk_far ?_ NB231_241.out _; (with_reducible repeat (first | refine blk_drewN ?_ _ | refine blk_drew ?_ | refine blk_alloc ?_ _)); refine blk_far ?_ NB231_241.out _; (with_reducible repeat (first | refine blk_drewN ?_ _ | refine blk_drew ?_ | refine blk_alloc ?_ _)); exact BK231.out) hb); have n3_ := Aside0.mk (blk_below (g := gb232) (o := .cells #[.int .u64 x233000_2, .int .i64 x233001_2] 26 (0, 0)) (by (with_reducible repeat (first | refine blk_drewN ?_ _ | refine blk_drew ?_ | refine blk_alloc ?_ _)); refine blk_far ?_ NB232_241.out _; (with_reducible repeat (first | refine blk_drewN ?_ _ | refine blk_drew ?_ | refine blk_alloc ?_ _)); refine blk_far ?_ NB232_241.out _; (with_reducible repeat (first | refine blk_drewN ?_ _ | refine blk_drew ?_ | refine blk_alloc ?_ _)); exact BK232.out) hb); have n4_ := Aside0.mk (blk_below (g := gb241) (o := .cells #[.int .u64 t238, .int .i64 t239] 26 (0, 0)) (by (with_reducible repeat (first | refine blk_drewN ?_ _ | refine blk_drew ?_ | refine blk_alloc ?_ _)); refine blk_put (cs := #[.int .u64 t238, .int .i64 0]) ?_ 1 _ rfl; (with_reducible repeat (first | refine blk_drewN ?_ _ | refine blk_drew ?_ | refine blk_alloc ?_ _)); refine blk_put (cs := #[.int .u64 0, .int .i64 0]) ?_ 0 _ rfl; (with_reducible repeat (first | refine blk_drewN ?_ _ | refine blk_drew ?_ | refine blk_alloc ?_ _)); exact BK241.out) hb); have n5_ := Aside0.mk (below_step (by repeat (first | (with_reducible first | exact HB.out | apply below_alloc | apply pw_below_drewN | apply below_drew1 | refine below_set ?_ GE231.out | refine below_set ?_ GE232.out | refine below_set ?_ GE241.out) | exact HB.out)) hb); clear HO_0; clear HO237; clear BK231; clear BK232; clear BK241; clear HB; have HO_0 := n0_; have HO237 := n1_; have BK231 := n2_; have BK232 := n3_; have BK241 := n4_; have HB := n5_; clear n0_ n1_ n2_ n3_ n4_ n5_; (try clear hb); (try clear hb2); (try clear hk); (try clear hi); have hcz51_0 : w50.cell? ⟨gb241, 0, none⟩ = some (.int .u64 t238) := (blk_cell BK241.out 0).trans rfl; have hcz51_1 : w50.cell? ⟨gb241, 1, none⟩ = some (.int .i64 t239) := (blk_cell BK241.out 1).trans rfl; have hfz51_0 := blk_frozen BK241.out 0; have hfz51_1 := blk_frozen BK241.out 1; have hcz52_0 : w50.cell? ⟨gb232, 0, none⟩ = some (.int .u64 x233000_2) := (blk_cell BK232.out 0).trans rfl; have hcz52_1 : w50.cell? ⟨gb232, 1, none⟩ = some (.int .i64 x233001_2) := (blk_cell BK232.out 1).trans rfl; have hfz52_0 := blk_frozen BK232.out 0; have hfz52_1 := blk_frozen BK232.out 1))
                                go_roundg kj22
                                case measure => have := HJ3.out; have := HK2.out; have := HJ22.out; omega
                                case rel => exact ⟨(wrap64 (x8_2 + 1)), (t238), (t239), (by first | rfl | (simp; done) | (simp [*]; done)), H', ⟨by have := HJ3.out; have := HK2.out; have := HJ22.out; omega⟩, ⟨by (with_reducible repeat (first | apply Kd.V_alloc | apply Kd.V_drewN | apply Kd.V_drew)); exact Kd.V_mono (Kd.V_far (p := ⟨gb232, 1, none⟩) (Kd.V_far (p := ⟨gb232, 0, none⟩) (Kd.V_mono HO_0.out (fun k_ hk => (⟨hk, hk.2.2.1⟩ : _ ∧ k_ ≠ gb232))) (fun _ hk => hk.2) (.int .u64 t238)) (fun _ hk => hk.2) (.int .i64 t239)) (fun _ hk => ⟨hk.1.2.1, hk.1.2.2.1⟩)⟩, ⟨by (with_reducible repeat (first | refine blk_drewN ?_ _ | refine blk_drew ?_ | refine blk_alloc ?_ _)); refine blk_far ?_ NB231_232.out _; (with_reducible repeat (first | refine blk_drewN ?_ _ | refine blk_drew ?_ | refine blk_alloc ?_ _)); refine blk_far ?_ NB231_232.out _; (with_reducible repeat (first | refine blk_drewN ?_ _ | refine blk_drew ?_ | refine blk_alloc ?_ _)); exact BK231.out⟩, ⟨by (with_reducible repeat (first | refine blk_drewN ?_ _ | refine blk_drew ?_ | refine blk_alloc ?_ _)); refine blk_put (cs := #[.int .u64 t238, .int .i64 x233001_2]) ?_ 1 _ rfl; (with_reducible repeat (first | refine blk_drewN ?_ _ | refine blk_drew ?_ | refine blk_alloc ?_ _)); refine blk_put (cs := #[.int .u64 x233000_2, .int .i64 x233001_2]) ?_ 0 _ rfl; (with_reducible repeat (first | refine blk_drewN ?_ _ | refine blk_drew ?_ | refine blk_alloc ?_ _)); exact BK232.out⟩, ⟨by repeat (first | (with_reducible first | exact HB.out | apply below_alloc | apply pw_below_drewN | apply below_drew1 | refine below_set ?_ GE231.out | refine below_set ?_ GE232.out | refine below_set ?_ GE241.out) | exact HB.out)⟩⟩
                            · rw [if_neg c33] at H
                              have c33b0 : (t240 == 0) = false := beq_eq_false_iff_ne.mpr c33
                              have c33b1 : (t240 != 0) = true := bne_iff_ne.mpr c33
                              exact absurd ((Option.some.inj H).trans hrt.out) (by decide)
                          · rw [if_neg c31] at H
                            exact absurd H (by simp)
                        · rw [if_neg c30] at H
                          exact absurd H (by simp)
                    · rw [if_neg c27] at H
                      exact absurd H (by simp)
                  · rw [if_neg c26] at H
                    exact absurd H (by simp)
                · replace c25 := Bool.eq_false_iff.mpr c25
                  subst c25
                  have H1 : (tattlelaw05_KnowGrows.l1 kj22 t223 t230 (wrap64 ((t223.length : Int) - 1)) t228 t229 x233000_2 x233001_2) = some r := by rw [if_neg (show ¬ (false = true) by decide)] at H; exact H
                  clear H
                  have H := H1
                  clear H1
                  have H' := Aside0.mk H
                  clear H
                  go_wp2
                  go_loopg [11] kj22 (fun kq v11 w' => ∃ (x11_4 : Int) (x233000_4 : Int) (x233001_4 : Int), v11 = .int .i64 x11_4 ∧ Aside0 (tattlelaw05_KnowGrows.l1 kq t223 t230 x11_4 t228 t229 x233000_4 x233001_4 = some r) ∧ Aside0 (kq ≤ kj22) ∧ Aside0 (Kd.V k26 26 w' w.heap.size (fun k_ => k_ ≠ gb231 ∧ k_ ≠ gb232) (.slice Ao16 t223.length co16) t223) ∧ Aside0 (w'.heap[gb231]? = some (.cells #[.int .u64 t228, .int .i64 t229] 26 (0, 0))) ∧ Aside0 (w'.heap[gb232]? = some (.cells #[.int .u64 x233000_4, .int .i64 x233001_4] 26 (0, 0))) ∧ Aside0 (Below w.heap.size w w'))
                  case atStart => exact ⟨(wrap64 ((t223.length : Int) - 1)), (x233000_2), (x233001_2), (by first | rfl | (simp; done) | (simp [*]; done)), H', ⟨Nat.le_refl _⟩, ⟨by (with_reducible repeat (first | apply Kd.V_alloc | apply Kd.V_drewN | apply Kd.V_drew)); exact HO_0.out⟩, ⟨by (with_reducible repeat (first | refine blk_drewN ?_ _ | refine blk_drew ?_ | refine blk_alloc ?_ _)); exact BK231.out⟩, ⟨by (with_reducible repeat (first | refine blk_drewN ?_ _ | refine blk_drew ?_ | refine blk_alloc ?_ _)); exact BK232.out⟩, ⟨by repeat (first | (with_reducible first | exact HB.out | apply below_alloc | apply pw_below_drewN | apply below_drew1 | refine below_set ?_ GE231.out | refine below_set ?_ GE232.out) | exact HB.out)⟩⟩
                  case round =>
                    clear H'
                    try clear c1
                    try clear c2
                    try clear p2
                    try clear q2
                    try clear hx2
                    try clear c3
                    try clear c4
                    try clear p6
                    try clear c16
                    try clear p23
                    try clear q23
                    try clear hx23
                    try clear c25
                    try clear c26
                    try clear c27
                    try clear c30
                    try clear c31
                    try clear c33
                    try clear c33b0
                    try clear c33b1
                    try clear c45
                    try clear c46
                    try clear c48
                    try clear hcz47_0
                    try clear hcz47_1
                    try clear hcz49_0
                    try clear hcz49_1
                    try clear hcz51_0
                    try clear hcz51_1
                    try clear hcz52_0
                    try clear hcz52_1
                    try clear hfz47_0
                    try clear hfz47_1
                    try clear hfz49_0
                    try clear hfz49_1
                    try clear hfz51_0
                    try clear hfz51_1
                    try clear hfz52_0
                    try clear hfz52_1
                    try clear hx233_0
                    try clear hx234_0
                    try clear hx234_1
                    try clear p234
                    try clear q234
                    obtain ⟨x11_4, x233000_4, x233001_4, rfl, HA, HK4, HO_0, BK231, BK232, HB⟩ := hrel
                    cases gk with
                    | zero => exact absurd HA.out (by simp [tattlelaw05_KnowGrows.l1])
                    | succ k4 =>
                      have H := HA.out
                      clear HA
                      simp only [tattlelaw05_KnowGrows.l1] at H
                      by_cases c53 : x11_4 ≥ 0
                      · rw [if_pos c53] at H
                        have c53b0 : decide (0 ≤ x11_4) = true := decide_eq_true c53
                        clear c53
                        by_cases c54 : 0 ≤ x11_4
                        · rw [if_pos c54] at H
                          have c54b0 : decide (0 ≤ x11_4) = true := decide_eq_true c54
                          clear c54
                          by_cases c55 : x11_4 < (t223.length : Int)
                          · rw [if_pos c55] at H
                            have c55b0 : decide (x11_4 < (t223.length : Int)) = true := decide_eq_true c55
                            clear c55
                            obtain ⟨y244, hy244⟩ : ∃ y_ : List (S26), y_ = (([(⟨(rd_T26 t223 x11_4).f0, (rd_T26 t223 x11_4).f1⟩ : S26), (⟨x233000_4, x233001_4⟩ : S26)] : List (S26))) := ⟨_, rfl⟩
                            replace H : ((know_Join.f k4 y244).bind fun bt247 => (if bt247.2.2 = 0 then (tattlelaw05_KnowGrows.l1 k4 t223 t230 (wrap64 (x11_4 - 1)) t228 t229 bt247.1 bt247.2.1) else (some false))) = some r := by first | (rw [hy244]; with_reducible exact H) | (have H2_ := (Option.bind_some _ _).symm.trans H; rw [hy244]; with_reducible exact H2_) | (have H2_ := (Option.bind_some _ _).symm.trans H; with_reducible exact H2_) | with_reducible exact H | (rw [hy244]; exact H) | exact H
                            have Ny244 := Aside0.mk hy244
                            clear hy244
                            replace H := Option.bind_eq_some_iff.mp H
                            obtain ⟨⟨t247, t248, t249⟩, A560, H⟩ := H
                            replace H : (if t249 = 0 then (tattlelaw05_KnowGrows.l1 k4 t223 t230 (wrap64 (x11_4 - 1)) t228 t229 t247 t248) else (some false)) = some r := H
                            have A56 := Aside0.mk A560
                            clear A560
                            by_cases c57 : t249 = 0
                            · rw [if_pos c57] at H
                              have c57b0 : (t249 == 0) = true := beq_iff_eq.mpr c57
                              have c57b1 : (t249 != 0) = false := bne_eq_false_iff_eq.mpr c57
                              clear c57
                              have H' := Aside0.mk H
                              clear H
                              try go_wp2
                              have n0_ := Aside0.mk (Kd.V_drew HO_0.out)
                              have n1_ := Aside0.mk (blk_drew BK231.out)
                              have n2_ := Aside0.mk (blk_drew BK232.out)
                              have n3_ := Aside0.mk (below_drew1 HB.out)
                              clear HO_0
                              clear BK231
                              clear BK232
                              clear HB
                              have HO_0 := n0_
                              have BK231 := n1_
                              have BK232 := n2_
                              have HB := n3_
                              clear n0_ n1_ n2_ n3_
                              have p243 : 0 ≤ (x11_4 : Int) := of_decide_eq_true (by first | (with_reducible assumption) | assumption)
                              have q243 : x11_4 < (t223.length : Int) := of_decide_eq_true (by first | (with_reducible assumption) | assumption)
                              obtain ⟨ad243, e243, hx243_0, hx243_1⟩ := at_T26 (Kd.V_reads' HO_0.out).2.2 x11_4 p243 q243
                              cases e243
                              replace p243 := eq_true p243
                              replace q243 := eq_true q243
                              refine start_ (n := 13) (S := fun w' => w'.cell? ⟨gb232, 0, none⟩ = some (.int .u64 x233000_4) ∧ w'.cell? ⟨gb232, 1, none⟩ = some (.int .i64 x233001_4) ∧ w'.cell? (ad243.add ((x11_4).toNat * 2)) = some (.int .u64 ((rd_T26 t223 x11_4).f0)) ∧ w'.cell? ⟨(ad243.add ((x11_4).toNat * 2)).block, (ad243.add ((x11_4).toNat * 2)).off + 1, none⟩ = some (.int .i64 ((rd_T26 t223 x11_4).f1))) (ds := []) #[false, false, false, false, false, false, false, false, false, false, false, false, false] (by kernel_rfl) rfl rfl ⟨(blk_cell BK232.out 0).trans rfl, (blk_cell BK232.out 1).trans rfl, hx243_0, hx243_1⟩ (fun hHeld => ?_); refine with_tabW tattlelaw05_KnowGrows.tab16 tattlelaw05_KnowGrows.bits16 (fun HT_ HW_ => ?_)
                              generalize wr.drew = w58 at HO_0 BK231 BK232 HB hx243_0 hx243_1 hHeld ⊢
                              refine pure_ (i := 0) (N := some 74) (v := ?_) (a' := ?_) #[true, false, false, false, false, false, false, false, false, false, false, false, false] rfl rfl (any_of HT_.out (by kernel_rfl)) (fun _ _ _ h => h) (Or.inl ⟨by rfl, ?_⟩) ?_ ?_
                              rotate_left
                              · intro w'
                                go_simp
                                with_reducible rfl
                              rotate_left
                              · simp only [Act.put, List.setIfInBounds_toArray, List.set_cons_zero, List.set_cons_succ, i64_w, i32_w]
                                rfl
                              refine pure_ (i := 1) (N := some 75) (v := ?_) (a' := ?_) #[true, true, false, false, false, false, false, false, false, false, false, false, false] rfl rfl (any_of HT_.out (by kernel_rfl)) (fun _ _ _ h => h) (Or.inl ⟨by rfl, ?_⟩) ?_ ?_
                              rotate_left
                              · intro w'
                                go_simp
                                with_reducible rfl
                              rotate_left
                              · simp only [Act.put, List.setIfInBounds_toArray, List.set_cons_zero, List.set_cons_succ, i64_w, i32_w]
                                rfl
                              refine pure_ (i := 2) (N := some 76) (v := ?_) (a' := ?_) #[true, true, true, false, false, false, false, false, false, false, false, false, false] rfl rfl (any_of HT_.out (by kernel_rfl)) (fun _ _ _ h => h) (Or.inl ⟨by rfl, ?_⟩) ?_ ?_
                              rotate_left
                              · intro w'
                                go_simp
                                with_reducible rfl
                              rotate_left
                              · simp only [Act.put, List.setIfInBounds_toArray, List.set_cons_zero, List.set_cons_succ, i64_w, i32_w]
                                rfl
                              refine take_ (i := 3) (N := some 77) (v := ?_) (a' := ?_) #[true, true, true, true, false, false, false, false, false, false, false, false, false] rfl rfl (take_ofW HT_.out HW_.out (by kernel_rfl)) (fun _ _ _ h => h) (Or.inl ⟨by rfl, ?_⟩) hHeld ?_ ?_
                              rotate_left
                              · rintro w' ⟨s0, s1, s2, s3⟩
                                go_simp
                                with_reducible rfl
                              rotate_left
                              · simp only [Act.put, List.setIfInBounds_toArray, List.set_cons_zero, List.set_cons_succ, i64_w, i32_w]
                                rfl
                              refine take_ (i := 4) (N := some 78) (v := ?_) (a' := ?_) #[true, true, true, true, true, false, false, false, false, false, false, false, false] rfl rfl (take_ofW HT_.out HW_.out (by kernel_rfl)) (fun _ _ _ h => h) (Or.inl ⟨by rfl, ?_⟩) hHeld ?_ ?_
                              rotate_left
                              · rintro w' ⟨s0, s1, s2, s3⟩
                                go_simp
                                with_reducible rfl
                              rotate_left
                              · simp only [Act.put, List.setIfInBounds_toArray, List.set_cons_zero, List.set_cons_succ, i64_w, i32_w]
                                rfl
                              refine join_ (σ := Value × Nat) 2 #[true, true, true, true, true, true, true, true, true, true, true, false, false] (fun s_ => [(79, s_.1), (80, .tuple #[.agg #[.int .u64 t247, .int .i64 t248], .int .i64 t249]), (12, .pointer (some ⟨s_.2, 0, none⟩)), (73, .tuple #[.agg #[.int .u64 t247, .int .i64 t248], .int .i64 t249]), (81, .agg #[.int .u64 t247, .int .i64 t248]), (82, .int .i64 t249)]) (fun s_ w' => (w'.cell? ⟨gb232, 0, none⟩ = some (.int .u64 x233000_4) ∧ w'.cell? ⟨gb232, 1, none⟩ = some (.int .i64 x233001_4) ∧ w'.cell? (ad243.add ((x11_4).toNat * 2)) = some (.int .u64 ((rd_T26 t223 x11_4).f0)) ∧ w'.cell? ⟨(ad243.add ((x11_4).toNat * 2)).block, (ad243.add ((x11_4).toNat * 2)).off + 1, none⟩ = some (.int .i64 ((rd_T26 t223 x11_4).f1))) ∧ (Kd.R k26 26 w' w.heap.size (fun k_ => k_ ≠ gb231 ∧ k_ ≠ gb232 ∧ k_ ≠ s_.2) s_.1 y244) ∧ (Kd.V k26 26 w' w.heap.size (fun k_ => some k_ ≠ (s_.1 : Value).ownBlock ∧ k_ ≠ gb231 ∧ k_ ≠ gb232 ∧ k_ ≠ s_.2) (.slice (some ad243) t223.length co16) t223) ∧ (w'.heap[gb231]? = some (.cells #[.int .u64 t228, .int .i64 t229] 26 (0, 0))) ∧ (w'.heap[gb232]? = some (.cells #[.int .u64 x233000_4, .int .i64 x233001_4] 26 (0, 0))) ∧ (w'.heap[s_.2]? = some (.cells #[.int .u64 0, .int .i64 0] 26 (0, 0))) ∧ (w.heap.size ≤ s_.2) ∧ (w.heap.size ≤ s_.2) ∧ (gb231 ≠ s_.2) ∧ (s_.2 ≠ gb231) ∧ (gb232 ≠ s_.2) ∧ (s_.2 ≠ gb232) ∧ (Below w.heap.size w w')) ?_ ?_
                              rotate_left
                              · intro hCont
                                refine two_ (i := 5) (j := 10) (Ni := some 79) (Nj := some 12) #[true, true, true, true, true, true, false, false, false, false, false, false, false] #[true, true, true, true, true, false, false, false, false, false, true, false, false] rfl rfl rfl rfl (two_of HT_.out (by kernel_rfl)) (by decide) (by decide) (fun K hK => ?_) (fun K hK => ?_)
                                · skip
                                  refine Kd.R_lit_step k26 _ 26 ?hg (N := 79) ?hd (xs := ([(⟨(rd_T26 t223 x11_4).f0, (rd_T26 t223 x11_4).f1⟩ : S26), (⟨x233000_4, x233001_4⟩ : S26)] : List (S26))) (inner := [.int .u64 ((rd_T26 t223 x11_4).f0), .int .i64 ((rd_T26 t223 x11_4).f1), .int .u64 x233000_4, .int .i64 x233001_4]) (ok := fun _ => True) (okp := fun _ => True) ?hr ?hp (fun _ hk => hk) trivial (Below.refl _ _) (Nat.le_refl _) (by simp) ?_; (case hd => rfl); (case hg => rfl); (case hr => first | (go_simp; done) | (go_simp; rfl)); (case hp => exact (Reps.c2 (show Kd.M k26 _ _ _ (⟨(rd_T26 t223 x11_4).f0, (rd_T26 t223 x11_4).f1⟩ : S26) [.int .u64 ((rd_T26 t223 x11_4).f0), .int .i64 ((rd_T26 t223 x11_4).f1)] from (k26_mkM _ _ _ (⟨(rd_T26 t223 x11_4).f0, (rd_T26 t223 x11_4).f1⟩ : S26) )) (Reps.c2 (show Kd.M k26 _ _ _ (⟨x233000_4, x233001_4⟩ : S26) [.int .u64 x233000_4, .int .i64 x233001_4] from (k26_mkM _ _ _ (⟨x233000_4, x233001_4⟩ : S26) )) (Reps.none _ _))))
                                  intro v245 w59 ho60 hb hg_ hnew_
                                  have HS2_ := (hb.cell (World.block_lt_of_cell? _ _ (hHeld.2.2.1))).trans (hHeld.2.2.1)
                                  have HS3_ := (hb.cell (World.block_lt_of_cell? _ _ (hHeld.2.2.2))).trans (hHeld.2.2.2)
                                  clear hg_ hnew_
                                  (first | rw [← Ny244.out] at ho60 | (simp only [Int.reduceToNat] at ho60; rw [← Ny244.out] at ho60))
                                  have n0_ := Aside0.mk (Kd.V_elder' (by (with_reducible repeat (first | apply Kd.V_alloc | apply Kd.V_drewN | apply Kd.V_drew)); exact HO_0.out) (Kd.R_base ho60) hb)
                                  have n1_ := Aside0.mk (Kd.R_lower (Kd.R_newB (Kd.R_newB ho60 (g := gb231) (o := .cells #[.int .u64 t228, .int .i64 t229] 26 (0, 0)) (by (with_reducible repeat (first | refine blk_drewN ?_ _ | refine blk_drew ?_ | refine blk_alloc ?_ _)); exact BK231.out)) (g := gb232) (o := .cells #[.int .u64 x233000_4, .int .i64 x233001_4] 26 (0, 0)) (by (with_reducible repeat (first | refine blk_drewN ?_ _ | refine blk_drew ?_ | refine blk_alloc ?_ _)); exact BK232.out)) (below_size (by repeat (first | (with_reducible first | exact HB.out | apply below_alloc | apply pw_below_drewN | apply below_drew1 | refine below_set ?_ GE231.out | refine below_set ?_ GE232.out) | exact HB.out))))
                                  have n2_ := Aside0.mk (blk_below (g := gb231) (o := .cells #[.int .u64 t228, .int .i64 t229] 26 (0, 0)) (by (with_reducible repeat (first | refine blk_drewN ?_ _ | refine blk_drew ?_ | refine blk_alloc ?_ _)); exact BK231.out) hb)
                                  have n3_ := Aside0.mk (blk_below (g := gb232) (o := .cells #[.int .u64 x233000_4, .int .i64 x233001_4] 26 (0, 0)) (by (with_reducible repeat (first | refine blk_drewN ?_ _ | refine blk_drew ?_ | refine blk_alloc ?_ _)); exact BK232.out) hb)
                                  have n4_ := Aside0.mk (below_step (by repeat (first | (with_reducible first | exact HB.out | apply below_alloc | apply pw_below_drewN | apply below_drew1 | refine below_set ?_ GE231.out | refine below_set ?_ GE232.out) | exact HB.out)) hb)
                                  clear HO_0
                                  clear BK231
                                  clear BK232
                                  clear HB
                                  have HO_0 := n0_
                                  have HO246 := n1_
                                  have BK231 := n2_
                                  have BK232 := n3_
                                  have HB := n4_
                                  clear n0_ n1_ n2_ n3_ n4_
                                  clear hb ho60
                                  obtain ⟨Ao61, co61, eo61⟩ := Kd.R_slice HO246.out
                                  (first | subst eo61 | (injection eo61 with f1_ f2_ f3_; have f4_ := f1_.symm; have f5_ := f3_.symm; clear f1_ f2_ f3_; subst f4_; subst f5_))
                                  refine hK.out _ _ ⟨(blk_cell BK232.out 0).trans rfl, (blk_cell BK232.out 1).trans rfl, HS2_, HS3_⟩ (fun hHeld => ?_)
                                  clear hK K
                                  refine norm_ (a' := ?_) ?_ ?_
                                  rotate_left
                                  · show Act.put _ (some 79) _ = _
                                    simp only [Act.put, List.setIfInBounds_toArray, List.set_cons_zero, List.set_cons_succ, i64_w, i32_w]
                                    rfl
                                  refine two_ (i := 6) (j := 10) (Ni := some 80) (Nj := some 12) #[true, true, true, true, true, true, true, false, false, false, false, false, false] #[true, true, true, true, true, true, false, false, false, false, true, false, false] rfl rfl rfl rfl (two_of HT_.out (by kernel_rfl)) (by decide) (by decide) (fun K hK => ?_) (fun K hK => ?_)
                                  · skip
                                    refine goes_ Try.func16 (by kernel_rfl) rfl #[.slice Ao61 y244.length co61] (by rfl) rfl rfl (by (try simp only [List.map_toArray, List.map_cons, List.map_nil]); first | done | rfl | (simp only [List.length_drop, List.length_take]; rfl)) ?_
                                    with_reducible refine (know_Join.calls k4 _ _ y244 t247 t248 t249 _ ?side1 ?side2 A56.out).mono ?_
                                    (case side1 => repeat (first | exact (Kd.R_reads' HO246.out).2.2 | (with_reducible refine Kd.C_alloc ?_ _) | (with_reducible refine Kd.C_drewN ?_ _) | (with_reducible refine Kd.C_drew ?_)))
                                    (case side2 => exact (Kd.R_reads' HO246.out).2.1)
                                    rintro e w62 ⟨rfl, hb⟩
                                    have HS2_ := (hb.cell (World.block_lt_of_cell? _ _ (hHeld.2.2.1))).trans (hHeld.2.2.1)
                                    have HS3_ := (hb.cell (World.block_lt_of_cell? _ _ (hHeld.2.2.2))).trans (hHeld.2.2.2)
                                    refine ⟨_, rfl, ?_⟩
                                    have n0_ := Aside0.mk (Kd.V_below (by (with_reducible repeat (first | apply Kd.V_alloc | apply Kd.V_drewN | apply Kd.V_drew)); exact HO_0.out) hb)
                                    have n1_ := Aside0.mk (Kd.R_below (by (with_reducible repeat (first | apply Kd.R_alloc | apply Kd.R_drewN | apply Kd.R_drew)); exact HO246.out) hb)
                                    have n2_ := Aside0.mk (blk_below (g := gb231) (o := .cells #[.int .u64 t228, .int .i64 t229] 26 (0, 0)) (by (with_reducible repeat (first | refine blk_drewN ?_ _ | refine blk_drew ?_ | refine blk_alloc ?_ _)); exact BK231.out) hb)
                                    have n3_ := Aside0.mk (blk_below (g := gb232) (o := .cells #[.int .u64 x233000_4, .int .i64 x233001_4] 26 (0, 0)) (by (with_reducible repeat (first | refine blk_drewN ?_ _ | refine blk_drew ?_ | refine blk_alloc ?_ _)); exact BK232.out) hb)
                                    have n4_ := Aside0.mk (below_step (by repeat (first | (with_reducible first | exact HB.out | apply below_alloc | apply pw_below_drewN | apply below_drew1 | refine below_set ?_ GE231.out | refine below_set ?_ GE232.out) | exact HB.out)) hb)
                                    clear HO_0
                                    clear HO246
                                    clear BK231
                                    clear BK232
                                    clear HB
                                    have HO_0 := n0_
                                    have HO246 := n1_
                                    have BK231 := n2_
                                    have BK232 := n3_
                                    have HB := n4_
                                    clear n0_ n1_ n2_ n3_ n4_
                                    (try clear hb)
                                    (try clear hb2)
                                    (try clear hk)
                                    (try clear hi)
                                    refine hK.out _ _ ⟨(blk_cell BK232.out 0).trans rfl, (blk_cell BK232.out 1).trans rfl, HS2_, HS3_⟩ (fun hHeld => ?_)
                                    clear hK K
                                    refine norm_ (a' := ?_) ?_ ?_
                                    rotate_left
                                    · show Act.put _ (some 80) _ = _
                                      simp only [Act.put, List.setIfInBounds_toArray, List.set_cons_zero, List.set_cons_succ, i64_w, i32_w]
                                      rfl
                                    refine pure_ (i := 7) (N := some 73) (v := ?_) (a' := ?_) #[true, true, true, true, true, true, true, true, false, false, false, false, false] rfl rfl (any_of HT_.out (by kernel_rfl)) (fun _ _ _ h => h) (Or.inl ⟨by rfl, ?_⟩) ?_ ?_
                                    rotate_left
                                    · intro w'
                                      go_simp
                                      with_reducible rfl
                                    rotate_left
                                    · simp only [Act.put, List.setIfInBounds_toArray, List.set_cons_zero, List.set_cons_succ, i64_w, i32_w]
                                      rfl
                                    refine pure_ (i := 8) (N := some 81) (v := ?_) (a' := ?_) #[true, true, true, true, true, true, true, true, true, false, false, false, false] rfl rfl (any_of HT_.out (by kernel_rfl)) (fun _ _ _ h => h) (Or.inl ⟨by rfl, ?_⟩) ?_ ?_
                                    rotate_left
                                    · intro w'
                                      go_simp
                                      with_reducible rfl
                                    rotate_left
                                    · simp only [Act.put, List.setIfInBounds_toArray, List.set_cons_zero, List.set_cons_succ, i64_w, i32_w]
                                      rfl
                                    refine pure_ (i := 9) (N := some 82) (v := ?_) (a' := ?_) #[true, true, true, true, true, true, true, true, true, true, false, false, false] rfl rfl (any_of HT_.out (by kernel_rfl)) (fun _ _ _ h => h) (Or.inl ⟨by rfl, ?_⟩) ?_ ?_
                                    rotate_left
                                    · intro w'
                                      go_simp
                                      with_reducible rfl
                                    rotate_left
                                    · simp only [Act.put, List.setIfInBounds_toArray, List.set_cons_zero, List.set_cons_succ, i64_w, i32_w]
                                      rfl
                                    refine one_ (i := 10) (N := some 12) #[true, true, true, true, true, true, true, true, true, true, true, false, false] rfl rfl (one_of HT_.out (by kernel_rfl)) (by decide) (fun K hK => ?_)
                                    refine box_step ?hg (N := 12) ?hd (cs := #[.int .u64 0, .int .i64 0]) (t := 26) ?hr ?_; (case hd => rfl); (case hg => rfl); (case hr => first | (go_simp; done) | (go_simp; rfl))
                                    intro gb250 hg w63 hbox hb
                                    have HS2_ := (hb.cell (World.block_lt_of_cell? _ _ (hHeld.2.2.1))).trans (hHeld.2.2.1)
                                    have HS3_ := (hb.cell (World.block_lt_of_cell? _ _ (hHeld.2.2.2))).trans (hHeld.2.2.2)
                                    have n0_ := Aside0.mk (Kd.V_below (Kd.V_elderB (by (with_reducible repeat (first | apply Kd.V_alloc | apply Kd.V_drewN | apply Kd.V_drew)); exact HO_0.out) gb250 (Nat.le_of_eq hg.symm)) hb)
                                    have n1_ := Aside0.mk (Kd.R_below (Kd.R_elderB (by (with_reducible repeat (first | apply Kd.R_alloc | apply Kd.R_drewN | apply Kd.R_drew)); exact HO246.out) gb250 (Nat.le_of_eq hg.symm)) hb)
                                    have n2_ := Aside0.mk (blk_below (g := gb231) (o := .cells #[.int .u64 t228, .int .i64 t229] 26 (0, 0)) (by (with_reducible repeat (first | refine blk_drewN ?_ _ | refine blk_drew ?_ | refine blk_alloc ?_ _)); exact BK231.out) hb)
                                    have n3_ := Aside0.mk (blk_below (g := gb232) (o := .cells #[.int .u64 x233000_4, .int .i64 x233001_4] 26 (0, 0)) (by (with_reducible repeat (first | refine blk_drewN ?_ _ | refine blk_drew ?_ | refine blk_alloc ?_ _)); exact BK232.out) hb)
                                    have n4_ := Aside0.mk (below_step (by repeat (first | (with_reducible first | exact HB.out | apply below_alloc | apply pw_below_drewN | apply below_drew1 | refine below_set ?_ GE231.out | refine below_set ?_ GE232.out) | exact HB.out)) hb)
                                    have n5_ := Aside0.mk (hbox)
                                    have n6_ := Aside0.mk ((by rw [hg]; exact (below_size (by repeat (first | (with_reducible first | exact HB.out | apply below_alloc | apply pw_below_drewN | apply below_drew1 | refine below_set ?_ GE231.out | refine below_set ?_ GE232.out) | exact HB.out))) : w.heap.size ≤ gb250))
                                    have n7_ := Aside0.mk ((by rw [hg]; exact (below_size (by repeat (first | (with_reducible first | exact HB.out | apply below_alloc | apply pw_below_drewN | apply below_drew1 | refine below_set ?_ GE231.out | refine below_set ?_ GE232.out) | exact HB.out))) : w.heap.size ≤ gb250))
                                    have n8_ := Aside0.mk ((by rw [hg]; exact Nat.ne_of_lt (blk_lt (g := gb231) (o := .cells #[.int .u64 t228, .int .i64 t229] 26 (0, 0)) (by (with_reducible repeat (first | refine blk_drewN ?_ _ | refine blk_drew ?_ | refine blk_alloc ?_ _)); exact BK231.out)) : gb231 ≠ gb250))
                                    have n9_ := Aside0.mk ((by rw [hg]; exact Nat.ne_of_gt (blk_lt (g := gb231) (o := .cells #[.int .u64 t228, .int .i64 t229] 26 (0, 0)) (by (with_reducible repeat (first | refine blk_drewN ?_ _ | refine blk_drew ?_ | refine blk_alloc ?_ _)); exact BK231.out)) : gb250 ≠ gb231))
                                    have n10_ := Aside0.mk ((by rw [hg]; exact Nat.ne_of_lt (blk_lt (g := gb232) (o := .cells #[.int .u64 x233000_4, .int .i64 x233001_4] 26 (0, 0)) (by (with_reducible repeat (first | refine blk_drewN ?_ _ | refine blk_drew ?_ | refine blk_alloc ?_ _)); exact BK232.out)) : gb232 ≠ gb250))
                                    have n11_ := Aside0.mk ((by rw [hg]; exact Nat.ne_of_gt (blk_lt (g := gb232) (o := .cells #[.int .u64 x233000_4, .int .i64 x233001_4] 26 (0, 0)) (by (with_reducible repeat (first | refine blk_drewN ?_ _ | refine blk_drew ?_ | refine blk_alloc ?_ _)); exact BK232.out)) : gb250 ≠ gb232))
                                    clear HO_0
                                    clear HO246
                                    clear BK231
                                    clear BK232
                                    clear HB
                                    have HO_0 := n0_
                                    have HO246 := n1_
                                    have BK231 := n2_
                                    have BK232 := n3_
                                    have HB := n4_
                                    have BK250 := n5_
                                    have GW250 := n6_
                                    have GE250 := n7_
                                    have NB231_250 := n8_
                                    have NB250_231 := n9_
                                    have NB232_250 := n10_
                                    have NB250_232 := n11_
                                    clear n0_ n1_ n2_ n3_ n4_ n5_ n6_ n7_ n8_ n9_ n10_ n11_
                                    clear hb hbox hg
                                    refine hK.out _ _ ⟨(blk_cell BK232.out 0).trans rfl, (blk_cell BK232.out 1).trans rfl, HS2_, HS3_⟩ (fun hHeld => ?_)
                                    clear hK K
                                    refine norm_ (a' := ?_) ?_ ?_
                                    rotate_left
                                    · show Act.put _ (some 12) _ = _
                                      simp only [Act.put, List.setIfInBounds_toArray, List.set_cons_zero, List.set_cons_succ, i64_w, i32_w]
                                      rfl
                                    exact norm_ (by simp only [putAll, Act.put, List.setIfInBounds_toArray, List.set_cons_zero, List.set_cons_succ]) (hCont (.slice Ao61 y244.length co61, gb250) _ ⟨hHeld, (by (with_reducible repeat (first | apply Kd.R_alloc | apply Kd.R_drewN | apply Kd.R_drew)); exact Kd.R_mono HO246.out (fun _ hk => ⟨hk.1.1.2, ⟨hk.1.2, hk.2⟩⟩)), (by (with_reducible repeat (first | apply Kd.V_alloc | apply Kd.V_drewN | apply Kd.V_drew)); exact Kd.V_mono HO_0.out (fun _ hk => ⟨hk.1.2, ⟨hk.1.1.1, ⟨hk.1.1.2, hk.2⟩⟩⟩)), (by (with_reducible repeat (first | refine blk_drewN ?_ _ | refine blk_drew ?_ | refine blk_alloc ?_ _)); exact BK231.out), (by (with_reducible repeat (first | refine blk_drewN ?_ _ | refine blk_drew ?_ | refine blk_alloc ?_ _)); exact BK232.out), (by (with_reducible repeat (first | refine blk_drewN ?_ _ | refine blk_drew ?_ | refine blk_alloc ?_ _)); exact BK250.out), GW250.out, GE250.out, NB231_250.out, NB250_231.out, NB232_250.out, NB250_232.out, (by repeat (first | (with_reducible first | exact HB.out | apply below_alloc | apply pw_below_drewN | apply below_drew1 | refine below_set ?_ GE231.out | refine below_set ?_ GE232.out | refine below_set ?_ GE250.out) | exact HB.out))⟩)
                                  · skip
                                    refine box_step ?hg (N := 12) ?hd (cs := #[.int .u64 0, .int .i64 0]) (t := 26) ?hr ?_; (case hd => rfl); (case hg => rfl); (case hr => first | (go_simp; done) | (go_simp; rfl))
                                    intro gb250 hg w61 hbox hb
                                    have HS2_ := (hb.cell (World.block_lt_of_cell? _ _ (hHeld.2.2.1))).trans (hHeld.2.2.1)
                                    have HS3_ := (hb.cell (World.block_lt_of_cell? _ _ (hHeld.2.2.2))).trans (hHeld.2.2.2)
                                    have n0_ := Aside0.mk (Kd.V_below (Kd.V_elderB (by (with_reducible repeat (first | apply Kd.V_alloc | apply Kd.V_drewN | apply Kd.V_drew)); exact HO_0.out) gb250 (Nat.le_of_eq hg.symm)) hb)
                                    have n1_ := Aside0.mk (Kd.R_below (Kd.R_elderB (by (with_reducible repeat (first | apply Kd.R_alloc | apply Kd.R_drewN | apply Kd.R_drew)); exact HO246.out) gb250 (Nat.le_of_eq hg.symm)) hb)
                                    have n2_ := Aside0.mk (blk_below (g := gb231) (o := .cells #[.int .u64 t228, .int .i64 t229] 26 (0, 0)) (by (with_reducible repeat (first | refine blk_drewN ?_ _ | refine blk_drew ?_ | refine blk_alloc ?_ _)); exact BK231.out) hb)
                                    have n3_ := Aside0.mk (blk_below (g := gb232) (o := .cells #[.int .u64 x233000_4, .int .i64 x233001_4] 26 (0, 0)) (by (with_reducible repeat (first | refine blk_drewN ?_ _ | refine blk_drew ?_ | refine blk_alloc ?_ _)); exact BK232.out) hb)
                                    have n4_ := Aside0.mk (below_step (by repeat (first | (with_reducible first | exact HB.out | apply below_alloc | apply pw_below_drewN | apply below_drew1 | refine below_set ?_ GE231.out | refine below_set ?_ GE232.out) | exact HB.out)) hb)
                                    have n5_ := Aside0.mk (hbox)
                                    have n6_ := Aside0.mk ((by rw [hg]; exact (below_size (by repeat (first | (with_reducible first | exact HB.out | apply below_alloc | apply pw_below_drewN | apply below_drew1 | refine below_set ?_ GE231.out | refine below_set ?_ GE232.out) | exact HB.out))) : w.heap.size ≤ gb250))
                                    have n7_ := Aside0.mk ((by rw [hg]; exact (below_size (by repeat (first | (with_reducible first | exact HB.out | apply below_alloc | apply pw_below_drewN | apply below_drew1 | refine below_set ?_ GE231.out | refine below_set ?_ GE232.out) | exact HB.out))) : w.heap.size ≤ gb250))
                                    have n8_ := Aside0.mk ((by rw [hg]; exact Nat.ne_of_lt (blk_lt (g := gb231) (o := .cells #[.int .u64 t228, .int .i64 t229] 26 (0, 0)) (by (with_reducible repeat (first | refine blk_drewN ?_ _ | refine blk_drew ?_ | refine blk_alloc ?_ _)); exact BK231.out)) : gb231 ≠ gb250))
                                    have n9_ := Aside0.mk ((by rw [hg]; exact Nat.ne_of_gt (blk_lt (g := gb231) (o := .cells #[.int .u64 t228, .int .i64 t229] 26 (0, 0)) (by (with_reducible repeat (first | refine blk_drewN ?_ _ | refine blk_drew ?_ | refine blk_alloc ?_ _)); exact BK231.out)) : gb250 ≠ gb231))
                                    have n10_ := Aside0.mk ((by rw [hg]; exact Nat.ne_of_lt (blk_lt (g := gb232) (o := .cells #[.int .u64 x233000_4, .int .i64 x233001_4] 26 (0, 0)) (by (with_reducible repeat (first | refine blk_drewN ?_ _ | refine blk_drew ?_ | refine blk_alloc ?_ _)); exact BK232.out)) : gb232 ≠ gb250))
                                    have n11_ := Aside0.mk ((by rw [hg]; exact Nat.ne_of_gt (blk_lt (g := gb232) (o := .cells #[.int .u64 x233000_4, .int .i64 x233001_4] 26 (0, 0)) (by (with_reducible repeat (first | refine blk_drewN ?_ _ | refine blk_drew ?_ | refine blk_alloc ?_ _)); exact BK232.out)) : gb250 ≠ gb232))
                                    clear HO_0
                                    clear HO246
                                    clear BK231
                                    clear BK232
                                    clear HB
                                    have HO_0 := n0_
                                    have HO246 := n1_
                                    have BK231 := n2_
                                    have BK232 := n3_
                                    have HB := n4_
                                    have BK250 := n5_
                                    have GW250 := n6_
                                    have GE250 := n7_
                                    have NB231_250 := n8_
                                    have NB250_231 := n9_
                                    have NB232_250 := n10_
                                    have NB250_232 := n11_
                                    clear n0_ n1_ n2_ n3_ n4_ n5_ n6_ n7_ n8_ n9_ n10_ n11_
                                    clear hb hbox hg
                                    obtain ⟨Ao62, co62, eo62⟩ := Kd.R_slice HO246.out
                                    (first | subst eo62 | (injection eo62 with f1_ f2_ f3_; have f4_ := f1_.symm; have f5_ := f3_.symm; clear f1_ f2_ f3_; subst f4_; subst f5_))
                                    refine hK.out _ _ ⟨(blk_cell BK232.out 0).trans rfl, (blk_cell BK232.out 1).trans rfl, HS2_, HS3_⟩ (fun hHeld => ?_)
                                    clear hK K
                                    refine norm_ (a' := ?_) ?_ ?_
                                    rotate_left
                                    · show Act.put _ (some 12) _ = _
                                      simp only [Act.put, List.setIfInBounds_toArray, List.set_cons_zero, List.set_cons_succ, i64_w, i32_w]
                                      rfl
                                    refine one_ (i := 6) (N := some 80) #[true, true, true, true, true, true, true, false, false, false, true, false, false] rfl rfl (one_of HT_.out (by kernel_rfl)) (by decide) (fun K hK => ?_)
                                    refine goes_ Try.func16 (by kernel_rfl) rfl #[.slice Ao62 y244.length co62] (by rfl) rfl rfl (by (try simp only [List.map_toArray, List.map_cons, List.map_nil]); first | done | rfl | (simp only [List.length_drop, List.length_take]; rfl)) ?_
                                    with_reducible refine (know_Join.calls k4 _ _ y244 t247 t248 t249 _ ?side1 ?side2 A56.out).mono ?_
                                    (case side1 => repeat (first | exact (Kd.R_reads' HO246.out).2.2 | (with_reducible refine Kd.C_alloc ?_ _) | (with_reducible refine Kd.C_drewN ?_ _) | (with_reducible refine Kd.C_drew ?_)))
                                    (case side2 => exact (Kd.R_reads' HO246.out).2.1)
                                    rintro e w63 ⟨rfl, hb⟩
                                    have HS2_ := (hb.cell (World.block_lt_of_cell? _ _ (hHeld.2.2.1))).trans (hHeld.2.2.1)
                                    have HS3_ := (hb.cell (World.block_lt_of_cell? _ _ (hHeld.2.2.2))).trans (hHeld.2.2.2)
                                    refine ⟨_, rfl, ?_⟩
                                    have n0_ := Aside0.mk (Kd.V_below (by (with_reducible repeat (first | apply Kd.V_alloc | apply Kd.V_drewN | apply Kd.V_drew)); exact HO_0.out) hb)
                                    have n1_ := Aside0.mk (Kd.R_below (by (with_reducible repeat (first | apply Kd.R_alloc | apply Kd.R_drewN | apply Kd.R_drew)); exact HO246.out) hb)
                                    have n2_ := Aside0.mk (blk_below (g := gb231) (o := .cells #[.int .u64 t228, .int .i64 t229] 26 (0, 0)) (by (with_reducible repeat (first | refine blk_drewN ?_ _ | refine blk_drew ?_ | refine blk_alloc ?_ _)); exact BK231.out) hb)
                                    have n3_ := Aside0.mk (blk_below (g := gb232) (o := .cells #[.int .u64 x233000_4, .int .i64 x233001_4] 26 (0, 0)) (by (with_reducible repeat (first | refine blk_drewN ?_ _ | refine blk_drew ?_ | refine blk_alloc ?_ _)); exact BK232.out) hb)
                                    have n4_ := Aside0.mk (blk_below (g := gb250) (o := .cells #[.int .u64 0, .int .i64 0] 26 (0, 0)) (by (with_reducible repeat (first | refine blk_drewN ?_ _ | refine blk_drew ?_ | refine blk_alloc ?_ _)); exact BK250.out) hb)
                                    have n5_ := Aside0.mk (below_step (by repeat (first | (with_reducible first | exact HB.out | apply below_alloc | apply pw_below_drewN | apply below_drew1 | refine below_set ?_ GE231.out | refine below_set ?_ GE232.out | refine below_set ?_ GE250.out) | exact HB.out)) hb)
                                    clear HO_0
                                    clear HO246
                                    clear BK231
                                    clear BK232
                                    clear BK250
                                    clear HB
                                    have HO_0 := n0_
                                    have HO246 := n1_
                                    have BK231 := n2_
                                    have BK232 := n3_
                                    have BK250 := n4_
                                    have HB := n5_
                                    clear n0_ n1_ n2_ n3_ n4_ n5_
                                    (try clear hb)
                                    (try clear hb2)
                                    (try clear hk)
                                    (try clear hi)
                                    refine hK.out _ _ ⟨(blk_cell BK232.out 0).trans rfl, (blk_cell BK232.out 1).trans rfl, HS2_, HS3_⟩ (fun hHeld => ?_)
                                    clear hK K
                                    refine norm_ (a' := ?_) ?_ ?_
                                    rotate_left
                                    · show Act.put _ (some 80) _ = _
                                      simp only [Act.put, List.setIfInBounds_toArray, List.set_cons_zero, List.set_cons_succ, i64_w, i32_w]
                                      rfl
                                    refine pure_ (i := 7) (N := some 73) (v := ?_) (a' := ?_) #[true, true, true, true, true, true, true, true, false, false, true, false, false] rfl rfl (any_of HT_.out (by kernel_rfl)) (fun _ _ _ h => h) (Or.inl ⟨by rfl, ?_⟩) ?_ ?_
                                    rotate_left
                                    · intro w'
                                      go_simp
                                      with_reducible rfl
                                    rotate_left
                                    · simp only [Act.put, List.setIfInBounds_toArray, List.set_cons_zero, List.set_cons_succ, i64_w, i32_w]
                                      rfl
                                    refine pure_ (i := 8) (N := some 81) (v := ?_) (a' := ?_) #[true, true, true, true, true, true, true, true, true, false, true, false, false] rfl rfl (any_of HT_.out (by kernel_rfl)) (fun _ _ _ h => h) (Or.inl ⟨by rfl, ?_⟩) ?_ ?_
                                    rotate_left
                                    · intro w'
                                      go_simp
                                      with_reducible rfl
                                    rotate_left
                                    · simp only [Act.put, List.setIfInBounds_toArray, List.set_cons_zero, List.set_cons_succ, i64_w, i32_w]
                                      rfl
                                    refine pure_ (i := 9) (N := some 82) (v := ?_) (a' := ?_) #[true, true, true, true, true, true, true, true, true, true, true, false, false] rfl rfl (any_of HT_.out (by kernel_rfl)) (fun _ _ _ h => h) (Or.inl ⟨by rfl, ?_⟩) ?_ ?_
                                    rotate_left
                                    · intro w'
                                      go_simp
                                      with_reducible rfl
                                    rotate_left
                                    · simp only [Act.put, List.setIfInBounds_toArray, List.set_cons_zero, List.set_cons_succ, i64_w, i32_w]
                                      rfl
                                    exact norm_ (by simp only [putAll, Act.put, List.setIfInBounds_toArray, List.set_cons_zero, List.set_cons_succ]) (hCont (.slice Ao62 y244.length co62, gb250) _ ⟨hHeld, (by (with_reducible repeat (first | apply Kd.R_alloc | apply Kd.R_drewN | apply Kd.R_drew)); exact Kd.R_mono HO246.out (fun _ hk => ⟨hk.1.1.2, ⟨hk.1.2, hk.2⟩⟩)), (by (with_reducible repeat (first | apply Kd.V_alloc | apply Kd.V_drewN | apply Kd.V_drew)); exact Kd.V_mono HO_0.out (fun _ hk => ⟨hk.1.2, ⟨hk.1.1.1, ⟨hk.1.1.2, hk.2⟩⟩⟩)), (by (with_reducible repeat (first | refine blk_drewN ?_ _ | refine blk_drew ?_ | refine blk_alloc ?_ _)); exact BK231.out), (by (with_reducible repeat (first | refine blk_drewN ?_ _ | refine blk_drew ?_ | refine blk_alloc ?_ _)); exact BK232.out), (by (with_reducible repeat (first | refine blk_drewN ?_ _ | refine blk_drew ?_ | refine blk_alloc ?_ _)); exact BK250.out), GW250.out, GE250.out, NB231_250.out, NB250_231.out, NB232_250.out, NB250_232.out, (by repeat (first | (with_reducible first | exact HB.out | apply below_alloc | apply pw_below_drewN | apply below_drew1 | refine below_set ?_ GE231.out | refine below_set ?_ GE232.out | refine below_set ?_ GE250.out) | exact HB.out))⟩)
                                · skip
                                  refine box_step ?hg (N := 12) ?hd (cs := #[.int .u64 0, .int .i64 0]) (t := 26) ?hr ?_; (case hd => rfl); (case hg => rfl); (case hr => first | (go_simp; done) | (go_simp; rfl))
                                  intro gb250 hg w59 hbox hb
                                  have HS2_ := (hb.cell (World.block_lt_of_cell? _ _ (hHeld.2.2.1))).trans (hHeld.2.2.1)
                                  have HS3_ := (hb.cell (World.block_lt_of_cell? _ _ (hHeld.2.2.2))).trans (hHeld.2.2.2)
                                  have n0_ := Aside0.mk (Kd.V_below (Kd.V_elderB (by (with_reducible repeat (first | apply Kd.V_alloc | apply Kd.V_drewN | apply Kd.V_drew)); exact HO_0.out) gb250 (Nat.le_of_eq hg.symm)) hb)
                                  have n1_ := Aside0.mk (blk_below (g := gb231) (o := .cells #[.int .u64 t228, .int .i64 t229] 26 (0, 0)) (by (with_reducible repeat (first | refine blk_drewN ?_ _ | refine blk_drew ?_ | refine blk_alloc ?_ _)); exact BK231.out) hb)
                                  have n2_ := Aside0.mk (blk_below (g := gb232) (o := .cells #[.int .u64 x233000_4, .int .i64 x233001_4] 26 (0, 0)) (by (with_reducible repeat (first | refine blk_drewN ?_ _ | refine blk_drew ?_ | refine blk_alloc ?_ _)); exact BK232.out) hb)
                                  have n3_ := Aside0.mk (below_step (by repeat (first | (with_reducible first | exact HB.out | apply below_alloc | apply pw_below_drewN | apply below_drew1 | refine below_set ?_ GE231.out | refine below_set ?_ GE232.out) | exact HB.out)) hb)
                                  have n4_ := Aside0.mk (hbox)
                                  have n5_ := Aside0.mk ((by rw [hg]; exact (below_size (by repeat (first | (with_reducible first | exact HB.out | apply below_alloc | apply pw_below_drewN | apply below_drew1 | refine below_set ?_ GE231.out | refine below_set ?_ GE232.out) | exact HB.out))) : w.heap.size ≤ gb250))
                                  have n6_ := Aside0.mk ((by rw [hg]; exact (below_size (by repeat (first | (with_reducible first | exact HB.out | apply below_alloc | apply pw_below_drewN | apply below_drew1 | refine below_set ?_ GE231.out | refine below_set ?_ GE232.out) | exact HB.out))) : w.heap.size ≤ gb250))
                                  have n7_ := Aside0.mk ((by rw [hg]; exact Nat.ne_of_lt (blk_lt (g := gb231) (o := .cells #[.int .u64 t228, .int .i64 t229] 26 (0, 0)) (by (with_reducible repeat (first | refine blk_drewN ?_ _ | refine blk_drew ?_ | refine blk_alloc ?_ _)); exact BK231.out)) : gb231 ≠ gb250))
                                  have n8_ := Aside0.mk ((by rw [hg]; exact Nat.ne_of_gt (blk_lt (g := gb231) (o := .cells #[.int .u64 t228, .int .i64 t229] 26 (0, 0)) (by (with_reducible repeat (first | refine blk_drewN ?_ _ | refine blk_drew ?_ | refine blk_alloc ?_ _)); exact BK231.out)) : gb250 ≠ gb231))
                                  have n9_ := Aside0.mk ((by rw [hg]; exact Nat.ne_of_lt (blk_lt (g := gb232) (o := .cells #[.int .u64 x233000_4, .int .i64 x233001_4] 26 (0, 0)) (by (with_reducible repeat (first | refine blk_drewN ?_ _ | refine blk_drew ?_ | refine blk_alloc ?_ _)); exact BK232.out)) : gb232 ≠ gb250))
                                  have n10_ := Aside0.mk ((by rw [hg]; exact Nat.ne_of_gt (blk_lt (g := gb232) (o := .cells #[.int .u64 x233000_4, .int .i64 x233001_4] 26 (0, 0)) (by (with_reducible repeat (first | refine blk_drewN ?_ _ | refine blk_drew ?_ | refine blk_alloc ?_ _)); exact BK232.out)) : gb250 ≠ gb232))
                                  clear HO_0
                                  clear BK231
                                  clear BK232
                                  clear HB
                                  have HO_0 := n0_
                                  have BK231 := n1_
                                  have BK232 := n2_
                                  have HB := n3_
                                  have BK250 := n4_
                                  have GW250 := n5_
                                  have GE250 := n6_
                                  have NB231_250 := n7_
                                  have NB250_231 := n8_
                                  have NB232_250 := n9_
                                  have NB250_232 := n10_
                                  clear n0_ n1_ n2_ n3_ n4_ n5_ n6_ n7_ n8_ n9_ n10_
                                  clear hb hbox hg
                                  refine hK.out _ _ ⟨(blk_cell BK232.out 0).trans rfl, (blk_cell BK232.out 1).trans rfl, HS2_, HS3_⟩ (fun hHeld => ?_)
                                  clear hK K
                                  refine norm_ (a' := ?_) ?_ ?_
                                  rotate_left
                                  · show Act.put _ (some 12) _ = _
                                    simp only [Act.put, List.setIfInBounds_toArray, List.set_cons_zero, List.set_cons_succ, i64_w, i32_w]
                                    rfl
                                  refine one_ (i := 5) (N := some 79) #[true, true, true, true, true, true, false, false, false, false, true, false, false] rfl rfl (one_of HT_.out (by kernel_rfl)) (by decide) (fun K hK => ?_)
                                  refine Kd.R_lit_step k26 _ 26 ?hg (N := 79) ?hd (xs := ([(⟨(rd_T26 t223 x11_4).f0, (rd_T26 t223 x11_4).f1⟩ : S26), (⟨x233000_4, x233001_4⟩ : S26)] : List (S26))) (inner := [.int .u64 ((rd_T26 t223 x11_4).f0), .int .i64 ((rd_T26 t223 x11_4).f1), .int .u64 x233000_4, .int .i64 x233001_4]) (ok := fun _ => True) (okp := fun _ => True) ?hr ?hp (fun _ hk => hk) trivial (Below.refl _ _) (Nat.le_refl _) (by simp) ?_; (case hd => rfl); (case hg => rfl); (case hr => first | (go_simp; done) | (go_simp; rfl)); (case hp => exact (Reps.c2 (show Kd.M k26 _ _ _ (⟨(rd_T26 t223 x11_4).f0, (rd_T26 t223 x11_4).f1⟩ : S26) [.int .u64 ((rd_T26 t223 x11_4).f0), .int .i64 ((rd_T26 t223 x11_4).f1)] from (k26_mkM _ _ _ (⟨(rd_T26 t223 x11_4).f0, (rd_T26 t223 x11_4).f1⟩ : S26) )) (Reps.c2 (show Kd.M k26 _ _ _ (⟨x233000_4, x233001_4⟩ : S26) [.int .u64 x233000_4, .int .i64 x233001_4] from (k26_mkM _ _ _ (⟨x233000_4, x233001_4⟩ : S26) )) (Reps.none _ _))))
                                  intro v245 w60 ho61 hb hg_ hnew_
                                  have HS2_ := (hb.cell (World.block_lt_of_cell? _ _ (hHeld.2.2.1))).trans (hHeld.2.2.1)
                                  have HS3_ := (hb.cell (World.block_lt_of_cell? _ _ (hHeld.2.2.2))).trans (hHeld.2.2.2)
                                  clear hg_ hnew_
                                  (first | rw [← Ny244.out] at ho61 | (simp only [Int.reduceToNat] at ho61; rw [← Ny244.out] at ho61))
                                  have n0_ := Aside0.mk (Kd.V_elder' (by (with_reducible repeat (first | apply Kd.V_alloc | apply Kd.V_drewN | apply Kd.V_drew)); exact HO_0.out) (Kd.R_base ho61) hb)
                                  have n1_ := Aside0.mk (Kd.R_lower (Kd.R_newB (Kd.R_newB (Kd.R_newB ho61 (g := gb231) (o := .cells #[.int .u64 t228, .int .i64 t229] 26 (0, 0)) (by (with_reducible repeat (first | refine blk_drewN ?_ _ | refine blk_drew ?_ | refine blk_alloc ?_ _)); exact BK231.out)) (g := gb232) (o := .cells #[.int .u64 x233000_4, .int .i64 x233001_4] 26 (0, 0)) (by (with_reducible repeat (first | refine blk_drewN ?_ _ | refine blk_drew ?_ | refine blk_alloc ?_ _)); exact BK232.out)) (g := gb250) (o := .cells #[.int .u64 0, .int .i64 0] 26 (0, 0)) (by (with_reducible repeat (first | refine blk_drewN ?_ _ | refine blk_drew ?_ | refine blk_alloc ?_ _)); exact BK250.out)) (below_size (by repeat (first | (with_reducible first | exact HB.out | apply below_alloc | apply pw_below_drewN | apply below_drew1 | refine below_set ?_ GE231.out | refine below_set ?_ GE232.out | refine below_set ?_ GE250.out) | exact HB.out))))
                                  have n2_ := Aside0.mk (blk_below (g := gb231) (o := .cells #[.int .u64 t228, .int .i64 t229] 26 (0, 0)) (by (with_reducible repeat (first | refine blk_drewN ?_ _ | refine blk_drew ?_ | refine blk_alloc ?_ _)); exact BK231.out) hb)
                                  have n3_ := Aside0.mk (blk_below (g := gb232) (o := .cells #[.int .u64 x233000_4, .int .i64 x233001_4] 26 (0, 0)) (by (with_reducible repeat (first | refine blk_drewN ?_ _ | refine blk_drew ?_ | refine blk_alloc ?_ _)); exact BK232.out) hb)
                                  have n4_ := Aside0.mk (blk_below (g := gb250) (o := .cells #[.int .u64 0, .int .i64 0] 26 (0, 0)) (by (with_reducible repeat (first | refine blk_drewN ?_ _ | refine blk_drew ?_ | refine blk_alloc ?_ _)); exact BK250.out) hb)
                                  have n5_ := Aside0.mk (below_step (by repeat (first | (with_reducible first | exact HB.out | apply below_alloc | apply pw_below_drewN | apply below_drew1 | refine below_set ?_ GE231.out | refine below_set ?_ GE232.out | refine below_set ?_ GE250.out) | exact HB.out)) hb)
                                  clear HO_0
                                  clear BK231
                                  clear BK232
                                  clear BK250
                                  clear HB
                                  have HO_0 := n0_
                                  have HO246 := n1_
                                  have BK231 := n2_
                                  have BK232 := n3_
                                  have BK250 := n4_
                                  have HB := n5_
                                  clear n0_ n1_ n2_ n3_ n4_ n5_
                                  clear hb ho61
                                  obtain ⟨Ao62, co62, eo62⟩ := Kd.R_slice HO246.out
                                  (first | subst eo62 | (injection eo62 with f1_ f2_ f3_; have f4_ := f1_.symm; have f5_ := f3_.symm; clear f1_ f2_ f3_; subst f4_; subst f5_))
                                  refine hK.out _ _ ⟨(blk_cell BK232.out 0).trans rfl, (blk_cell BK232.out 1).trans rfl, HS2_, HS3_⟩ (fun hHeld => ?_)
                                  clear hK K
                                  refine norm_ (a' := ?_) ?_ ?_
                                  rotate_left
                                  · show Act.put _ (some 79) _ = _
                                    simp only [Act.put, List.setIfInBounds_toArray, List.set_cons_zero, List.set_cons_succ, i64_w, i32_w]
                                    rfl
                                  refine one_ (i := 6) (N := some 80) #[true, true, true, true, true, true, true, false, false, false, true, false, false] rfl rfl (one_of HT_.out (by kernel_rfl)) (by decide) (fun K hK => ?_)
                                  refine goes_ Try.func16 (by kernel_rfl) rfl #[.slice Ao62 y244.length co62] (by rfl) rfl rfl (by (try simp only [List.map_toArray, List.map_cons, List.map_nil]); first | done | rfl | (simp only [List.length_drop, List.length_take]; rfl)) ?_
                                  with_reducible refine (know_Join.calls k4 _ _ y244 t247 t248 t249 _ ?side1 ?side2 A56.out).mono ?_
                                  (case side1 => repeat (first | exact (Kd.R_reads' HO246.out).2.2 | (with_reducible refine Kd.C_alloc ?_ _) | (with_reducible refine Kd.C_drewN ?_ _) | (with_reducible refine Kd.C_drew ?_)))
                                  (case side2 => exact (Kd.R_reads' HO246.out).2.1)
                                  rintro e w63 ⟨rfl, hb⟩
                                  have HS2_ := (hb.cell (World.block_lt_of_cell? _ _ (hHeld.2.2.1))).trans (hHeld.2.2.1)
                                  have HS3_ := (hb.cell (World.block_lt_of_cell? _ _ (hHeld.2.2.2))).trans (hHeld.2.2.2)
                                  refine ⟨_, rfl, ?_⟩
                                  have n0_ := Aside0.mk (Kd.V_below (by (with_reducible repeat (first | apply Kd.V_alloc | apply Kd.V_drewN | apply Kd.V_drew)); exact HO_0.out) hb)
                                  have n1_ := Aside0.mk (Kd.R_below (by (with_reducible repeat (first | apply Kd.R_alloc | apply Kd.R_drewN | apply Kd.R_drew)); exact HO246.out) hb)
                                  have n2_ := Aside0.mk (blk_below (g := gb231) (o := .cells #[.int .u64 t228, .int .i64 t229] 26 (0, 0)) (by (with_reducible repeat (first | refine blk_drewN ?_ _ | refine blk_drew ?_ | refine blk_alloc ?_ _)); exact BK231.out) hb)
                                  have n3_ := Aside0.mk (blk_below (g := gb232) (o := .cells #[.int .u64 x233000_4, .int .i64 x233001_4] 26 (0, 0)) (by (with_reducible repeat (first | refine blk_drewN ?_ _ | refine blk_drew ?_ | refine blk_alloc ?_ _)); exact BK232.out) hb)
                                  have n4_ := Aside0.mk (blk_below (g := gb250) (o := .cells #[.int .u64 0, .int .i64 0] 26 (0, 0)) (by (with_reducible repeat (first | refine blk_drewN ?_ _ | refine blk_drew ?_ | refine blk_alloc ?_ _)); exact BK250.out) hb)
                                  have n5_ := Aside0.mk (below_step (by repeat (first | (with_reducible first | exact HB.out | apply below_alloc | apply pw_below_drewN | apply below_drew1 | refine below_set ?_ GE231.out | refine below_set ?_ GE232.out | refine below_set ?_ GE250.out) | exact HB.out)) hb)
                                  clear HO_0
                                  clear HO246
                                  clear BK231
                                  clear BK232
                                  clear BK250
                                  clear HB
                                  have HO_0 := n0_
                                  have HO246 := n1_
                                  have BK231 := n2_
                                  have BK232 := n3_
                                  have BK250 := n4_
                                  have HB := n5_
                                  clear n0_ n1_ n2_ n3_ n4_ n5_
                                  (try clear hb)
                                  (try clear hb2)
                                  (try clear hk)
                                  (try clear hi)
                                  refine hK.out _ _ ⟨(blk_cell BK232.out 0).trans rfl, (blk_cell BK232.out 1).trans rfl, HS2_, HS3_⟩ (fun hHeld => ?_)
                                  clear hK K
                                  refine norm_ (a' := ?_) ?_ ?_
                                  rotate_left
                                  · show Act.put _ (some 80) _ = _
                                    simp only [Act.put, List.setIfInBounds_toArray, List.set_cons_zero, List.set_cons_succ, i64_w, i32_w]
                                    rfl
                                  refine pure_ (i := 7) (N := some 73) (v := ?_) (a' := ?_) #[true, true, true, true, true, true, true, true, false, false, true, false, false] rfl rfl (any_of HT_.out (by kernel_rfl)) (fun _ _ _ h => h) (Or.inl ⟨by rfl, ?_⟩) ?_ ?_
                                  rotate_left
                                  · intro w'
                                    go_simp
                                    with_reducible rfl
                                  rotate_left
                                  · simp only [Act.put, List.setIfInBounds_toArray, List.set_cons_zero, List.set_cons_succ, i64_w, i32_w]
                                    rfl
                                  refine pure_ (i := 8) (N := some 81) (v := ?_) (a' := ?_) #[true, true, true, true, true, true, true, true, true, false, true, false, false] rfl rfl (any_of HT_.out (by kernel_rfl)) (fun _ _ _ h => h) (Or.inl ⟨by rfl, ?_⟩) ?_ ?_
                                  rotate_left
                                  · intro w'
                                    go_simp
                                    with_reducible rfl
                                  rotate_left
                                  · simp only [Act.put, List.setIfInBounds_toArray, List.set_cons_zero, List.set_cons_succ, i64_w, i32_w]
                                    rfl
                                  refine pure_ (i := 9) (N := some 82) (v := ?_) (a' := ?_) #[true, true, true, true, true, true, true, true, true, true, true, false, false] rfl rfl (any_of HT_.out (by kernel_rfl)) (fun _ _ _ h => h) (Or.inl ⟨by rfl, ?_⟩) ?_ ?_
                                  rotate_left
                                  · intro w'
                                    go_simp
                                    with_reducible rfl
                                  rotate_left
                                  · simp only [Act.put, List.setIfInBounds_toArray, List.set_cons_zero, List.set_cons_succ, i64_w, i32_w]
                                    rfl
                                  exact norm_ (by simp only [putAll, Act.put, List.setIfInBounds_toArray, List.set_cons_zero, List.set_cons_succ]) (hCont (.slice Ao62 y244.length co62, gb250) _ ⟨hHeld, (by (with_reducible repeat (first | apply Kd.R_alloc | apply Kd.R_drewN | apply Kd.R_drew)); exact Kd.R_mono HO246.out (fun _ hk => ⟨hk.1.1.2, ⟨hk.1.2, hk.2⟩⟩)), (by (with_reducible repeat (first | apply Kd.V_alloc | apply Kd.V_drewN | apply Kd.V_drew)); exact Kd.V_mono HO_0.out (fun _ hk => ⟨hk.2, ⟨hk.1.1.1, ⟨hk.1.1.2, hk.1.2⟩⟩⟩)), (by (with_reducible repeat (first | refine blk_drewN ?_ _ | refine blk_drew ?_ | refine blk_alloc ?_ _)); exact BK231.out), (by (with_reducible repeat (first | refine blk_drewN ?_ _ | refine blk_drew ?_ | refine blk_alloc ?_ _)); exact BK232.out), (by (with_reducible repeat (first | refine blk_drewN ?_ _ | refine blk_drew ?_ | refine blk_alloc ?_ _)); exact BK250.out), GW250.out, GE250.out, NB231_250.out, NB250_231.out, NB232_250.out, NB250_232.out, (by repeat (first | (with_reducible first | exact HB.out | apply below_alloc | apply pw_below_drewN | apply below_drew1 | refine below_set ?_ GE231.out | refine below_set ?_ GE232.out | refine below_set ?_ GE250.out) | exact HB.out))⟩)
                              rintro ⟨v245, gb250⟩ w64 ⟨hS_, h0_, h1_, h2_, h3_, h4_, h5_, h6_, h7_, h8_, h9_, h10_, h11_⟩
                              have n0_ : Aside0 (Kd.R k26 26 w64 w.heap.size (fun k_ => k_ ≠ gb231 ∧ k_ ≠ gb232 ∧ k_ ≠ gb250) v245 y244) := ⟨h0_⟩
                              have n1_ : Aside0 (Kd.V k26 26 w64 w.heap.size (fun k_ => some k_ ≠ (v245 : Value).ownBlock ∧ k_ ≠ gb231 ∧ k_ ≠ gb232 ∧ k_ ≠ gb250) (.slice (some ad243) t223.length co16) t223) := ⟨h1_⟩
                              have n2_ : Aside0 (w64.heap[gb231]? = some (.cells #[.int .u64 t228, .int .i64 t229] 26 (0, 0))) := ⟨h2_⟩
                              have n3_ : Aside0 (w64.heap[gb232]? = some (.cells #[.int .u64 x233000_4, .int .i64 x233001_4] 26 (0, 0))) := ⟨h3_⟩
                              have n4_ : Aside0 (w64.heap[gb250]? = some (.cells #[.int .u64 0, .int .i64 0] 26 (0, 0))) := ⟨h4_⟩
                              have n5_ : Aside0 (w.heap.size ≤ gb250) := ⟨h5_⟩
                              have n6_ : Aside0 (w.heap.size ≤ gb250) := ⟨h6_⟩
                              have n7_ : Aside0 (gb231 ≠ gb250) := ⟨h7_⟩
                              have n8_ : Aside0 (gb250 ≠ gb231) := ⟨h8_⟩
                              have n9_ : Aside0 (gb232 ≠ gb250) := ⟨h9_⟩
                              have n10_ : Aside0 (gb250 ≠ gb232) := ⟨h10_⟩
                              have n11_ : Aside0 (Below w.heap.size w w64) := ⟨h11_⟩
                              clear HO_0
                              clear BK231
                              clear BK232
                              clear HB
                              clear h0_ h1_ h2_ h3_ h4_ h5_ h6_ h7_ h8_ h9_ h10_ h11_
                              have HO246 := n0_
                              have HO_0 := n1_
                              have BK231 := n2_
                              have BK232 := n3_
                              have BK250 := n4_
                              have GW250 := n5_
                              have GE250 := n6_
                              have NB231_250 := n7_
                              have NB250_231 := n8_
                              have NB232_250 := n9_
                              have NB250_232 := n10_
                              have HB := n11_
                              clear n0_ n1_ n2_ n3_ n4_ n5_ n6_ n7_ n8_ n9_ n10_ n11_
                              have hHeld : w64.cell? ⟨gb232, 0, none⟩ = some (.int .u64 x233000_4) ∧ w64.cell? ⟨gb232, 1, none⟩ = some (.int .i64 x233001_4) ∧ w64.cell? (ad243.add ((x11_4).toNat * 2)) = some (.int .u64 ((rd_T26 t223 x11_4).f0)) ∧ w64.cell? ⟨(ad243.add ((x11_4).toNat * 2)).block, (ad243.add ((x11_4).toNat * 2)).off + 1, none⟩ = some (.int .i64 ((rd_T26 t223 x11_4).f1)) := hS_
                              refine norm_ (a' := ?_) ?_ ?_
                              rotate_left
                              · simp only [putAll, Act.put, List.setIfInBounds_toArray, List.set_cons_zero, List.set_cons_succ]
                                rfl
                              refine one_ (i := 11) (N := none) #[true, true, true, true, true, true, true, true, true, true, true, true, false] rfl rfl (one_of HT_.out (by kernel_rfl)) (by decide) (fun K hK => ?_)
                              have hs65 : w64.cell? ⟨gb250, 0, none⟩ = some (.int .u64 0) := (blk_cell BK250.out 0).trans rfl
                              have hfs65 := blk_frozen BK250.out 0
                              have hns65_0 := NB231_250.out
                              have hns65_1 := NB232_250.out
                              have hms65_0 := NB250_231.out
                              have hms65_1 := NB250_232.out
                              have hs66 : w64.cell? ⟨gb250, 1, none⟩ = some (.int .i64 0) := (blk_cell BK250.out 1).trans rfl
                              have hfs66 := blk_frozen BK250.out 1
                              have hns66_0 := NB231_250.out
                              have hns66_1 := NB232_250.out
                              have hms66_0 := NB250_231.out
                              have hms66_1 := NB250_232.out
                              refine skip_ (w1 := ?_) (by rfl) rfl ?_ ?_
                              rotate_left
                              · go_simp
                                rfl
                              refine hK.out _ _ ⟨((cell_far (p := ⟨gb250, _, none⟩) NB232_250.out _).trans (((cell_far (p := ⟨gb250, _, none⟩) NB232_250.out _).trans (hHeld.1)))), ((cell_far (p := ⟨gb250, _, none⟩) NB232_250.out _).trans (((cell_far (p := ⟨gb250, _, none⟩) NB232_250.out _).trans (hHeld.2.1)))), ((cell_far (p := ⟨gb250, _, none⟩) (by first | exact Kd.own_blk (Kd.V_away HO_0.out (Kd.V_pos (by first | exact p243 | exact of_decide_eq_true p243 | exact of_decide_eq_true (by assumption) | omega) (by first | exact q243 | exact of_decide_eq_true q243 | exact of_decide_eq_true (by assumption) | omega)) (by decide) (fun _ hk => hk.2.2.2)) | (rw [add_block]; exact Kd.own_blk (Kd.V_away HO_0.out (Kd.V_pos (by first | exact p243 | exact of_decide_eq_true p243 | exact of_decide_eq_true (by assumption) | omega) (by first | exact q243 | exact of_decide_eq_true q243 | exact of_decide_eq_true (by assumption) | omega)) (by decide) (fun _ hk => hk.2.2.2))) | (show (Addr.add _ _).block ≠ _; rw [add_block]; exact Kd.own_blk (Kd.V_away HO_0.out (Kd.V_pos (by first | exact p243 | exact of_decide_eq_true p243 | exact of_decide_eq_true (by assumption) | omega) (by first | exact q243 | exact of_decide_eq_true q243 | exact of_decide_eq_true (by assumption) | omega)) (by decide) (fun _ hk => hk.2.2.2))) | (dsimp only; exact Kd.own_blk (Kd.V_away HO_0.out (Kd.V_pos (by first | exact p243 | exact of_decide_eq_true p243 | exact of_decide_eq_true (by assumption) | omega) (by first | exact q243 | exact of_decide_eq_true q243 | exact of_decide_eq_true (by assumption) | omega)) (by decide) (fun _ hk => hk.2.2.2)))) _).trans (((cell_far (p := ⟨gb250, _, none⟩) (by first | exact Kd.own_blk (Kd.V_away HO_0.out (Kd.V_pos (by first | exact p243 | exact of_decide_eq_true p243 | exact of_decide_eq_true (by assumption) | omega) (by first | exact q243 | exact of_decide_eq_true q243 | exact of_decide_eq_true (by assumption) | omega)) (by decide) (fun _ hk => hk.2.2.2)) | (rw [add_block]; exact Kd.own_blk (Kd.V_away HO_0.out (Kd.V_pos (by first | exact p243 | exact of_decide_eq_true p243 | exact of_decide_eq_true (by assumption) | omega) (by first | exact q243 | exact of_decide_eq_true q243 | exact of_decide_eq_true (by assumption) | omega)) (by decide) (fun _ hk => hk.2.2.2))) | (show (Addr.add _ _).block ≠ _; rw [add_block]; exact Kd.own_blk (Kd.V_away HO_0.out (Kd.V_pos (by first | exact p243 | exact of_decide_eq_true p243 | exact of_decide_eq_true (by assumption) | omega) (by first | exact q243 | exact of_decide_eq_true q243 | exact of_decide_eq_true (by assumption) | omega)) (by decide) (fun _ hk => hk.2.2.2))) | (dsimp only; exact Kd.own_blk (Kd.V_away HO_0.out (Kd.V_pos (by first | exact p243 | exact of_decide_eq_true p243 | exact of_decide_eq_true (by assumption) | omega) (by first | exact q243 | exact of_decide_eq_true q243 | exact of_decide_eq_true (by assumption) | omega)) (by decide) (fun _ hk => hk.2.2.2)))) _).trans (hHeld.2.2.1)))), ((cell_far (p := ⟨gb250, _, none⟩) (by first | exact Kd.own_blk (Kd.V_away HO_0.out (Kd.V_pos (by first | exact p243 | exact of_decide_eq_true p243 | exact of_decide_eq_true (by assumption) | omega) (by first | exact q243 | exact of_decide_eq_true q243 | exact of_decide_eq_true (by assumption) | omega)) (by decide) (fun _ hk => hk.2.2.2)) | (rw [add_block]; exact Kd.own_blk (Kd.V_away HO_0.out (Kd.V_pos (by first | exact p243 | exact of_decide_eq_true p243 | exact of_decide_eq_true (by assumption) | omega) (by first | exact q243 | exact of_decide_eq_true q243 | exact of_decide_eq_true (by assumption) | omega)) (by decide) (fun _ hk => hk.2.2.2))) | (show (Addr.add _ _).block ≠ _; rw [add_block]; exact Kd.own_blk (Kd.V_away HO_0.out (Kd.V_pos (by first | exact p243 | exact of_decide_eq_true p243 | exact of_decide_eq_true (by assumption) | omega) (by first | exact q243 | exact of_decide_eq_true q243 | exact of_decide_eq_true (by assumption) | omega)) (by decide) (fun _ hk => hk.2.2.2))) | (dsimp only; exact Kd.own_blk (Kd.V_away HO_0.out (Kd.V_pos (by first | exact p243 | exact of_decide_eq_true p243 | exact of_decide_eq_true (by assumption) | omega) (by first | exact q243 | exact of_decide_eq_true q243 | exact of_decide_eq_true (by assumption) | omega)) (by decide) (fun _ hk => hk.2.2.2)))) _).trans (((cell_far (p := ⟨gb250, _, none⟩) (by first | exact Kd.own_blk (Kd.V_away HO_0.out (Kd.V_pos (by first | exact p243 | exact of_decide_eq_true p243 | exact of_decide_eq_true (by assumption) | omega) (by first | exact q243 | exact of_decide_eq_true q243 | exact of_decide_eq_true (by assumption) | omega)) (by decide) (fun _ hk => hk.2.2.2)) | (rw [add_block]; exact Kd.own_blk (Kd.V_away HO_0.out (Kd.V_pos (by first | exact p243 | exact of_decide_eq_true p243 | exact of_decide_eq_true (by assumption) | omega) (by first | exact q243 | exact of_decide_eq_true q243 | exact of_decide_eq_true (by assumption) | omega)) (by decide) (fun _ hk => hk.2.2.2))) | (show (Addr.add _ _).block ≠ _; rw [add_block]; exact Kd.own_blk (Kd.V_away HO_0.out (Kd.V_pos (by first | exact p243 | exact of_decide_eq_true p243 | exact of_decide_eq_true (by assumption) | omega) (by first | exact q243 | exact of_decide_eq_true q243 | exact of_decide_eq_true (by assumption) | omega)) (by decide) (fun _ hk => hk.2.2.2))) | (dsimp only; exact Kd.own_blk (Kd.V_away HO_0.out (Kd.V_pos (by first | exact p243 | exact of_decide_eq_true p243 | exact of_decide_eq_true (by assumption) | omega) (by first | exact q243 | exact of_decide_eq_true q243 | exact of_decide_eq_true (by assumption) | omega)) (by decide) (fun _ hk => hk.2.2.2)))) _).trans (hHeld.2.2.2))))⟩ (fun hHeld => ?_)
                              clear hK K
                              refine pure_ (i := 12) (N := some 13) (v := ?_) (a' := ?_) #[true, true, true, true, true, true, true, true, true, true, true, true, true] rfl rfl (any_of HT_.out (by kernel_rfl)) (fun _ _ _ h => h) (Or.inl ⟨by rfl, ?_⟩) ?_ ?_
                              rotate_left
                              · intro w'
                                go_simp
                                with_reducible rfl
                              rotate_left
                              · simp only [Act.put, List.setIfInBounds_toArray, List.set_cons_zero, List.set_cons_succ, i64_w, i32_w]
                                rfl
                              refine done_ (done_of HT_.out (by kernel_rfl)) ?_
                              have hnb67 := NB250_231.out
                              have hnc67 := NB231_250.out
                              have hnb68 := NB250_232.out
                              have hnc68 := NB232_250.out
                              have hcz69_0 : w64.cell? ⟨gb250, 0, none⟩ = some (.int .u64 0) := (blk_cell BK250.out 0).trans rfl
                              have hcz69_1 : w64.cell? ⟨gb250, 1, none⟩ = some (.int .i64 0) := (blk_cell BK250.out 1).trans rfl
                              have hfz69_0 := blk_frozen BK250.out 0
                              have hfz69_1 := blk_frozen BK250.out 1
                              have hnb70 := NB232_231.out
                              have hnc70 := NB231_232.out
                              have hcz71_0 : w64.cell? ⟨gb232, 0, none⟩ = some (.int .u64 x233000_4) := (blk_cell BK232.out 0).trans rfl
                              have hcz71_1 : w64.cell? ⟨gb232, 1, none⟩ = some (.int .i64 x233001_4) := (blk_cell BK232.out 1).trans rfl
                              have hfz71_0 := blk_frozen BK232.out 0
                              have hfz71_1 := blk_frozen BK232.out 1
                              try go_wp2
                              go_roundg k4
                              case measure => have := HJ3.out; have := HK2.out; have := HJ22.out; have := HK4.out; omega
                              case rel => exact ⟨(wrap64 (x11_4 - 1)), (t247), (t248), (by first | rfl | (simp; done) | (simp [*]; done)), H', ⟨by have := HJ3.out; have := HK2.out; have := HJ22.out; have := HK4.out; omega⟩, ⟨by (with_reducible repeat (first | apply Kd.V_alloc | apply Kd.V_drewN | apply Kd.V_drew)); exact Kd.V_mono (Kd.V_far (p := ⟨gb232, 1, none⟩) (Kd.V_far (p := ⟨gb232, 0, none⟩) (Kd.V_far (p := ⟨gb250, 1, none⟩) (Kd.V_far (p := ⟨gb250, 0, none⟩) (Kd.V_mono (Kd.V_mono HO_0.out (fun k_ hk => (⟨hk, hk.2.2.2⟩ : _ ∧ k_ ≠ gb250))) (fun k_ hk => (⟨hk, hk.1.2.2.1⟩ : _ ∧ k_ ≠ gb232))) (fun _ hk => hk.1.2) (.int .u64 t247)) (fun _ hk => hk.1.2) (.int .i64 t248)) (fun _ hk => hk.2) (.int .u64 t247)) (fun _ hk => hk.2) (.int .i64 t248)) (fun _ hk => ⟨hk.1.1.2.1, hk.1.1.2.2.1⟩)⟩, ⟨by (with_reducible repeat (first | refine blk_drewN ?_ _ | refine blk_drew ?_ | refine blk_alloc ?_ _)); refine blk_far ?_ NB231_232.out _; (with_reducible repeat (first | refine blk_drewN ?_ _ | refine blk_drew ?_ | refine blk_alloc ?_ _)); refine blk_far ?_ NB231_232.out _; (with_reducible repeat (first | refine blk_drewN ?_ _ | refine blk_drew ?_ | refine blk_alloc ?_ _)); refine blk_far ?_ NB231_250.out _; (with_reducible repeat (first | refine blk_drewN ?_ _ | refine blk_drew ?_ | refine blk_alloc ?_ _)); refine blk_far ?_ NB231_250.out _; (with_reducible repeat (first | refine blk_drewN ?_ _ | refine blk_drew ?_ | refine blk_alloc ?_ _)); exact BK231.out⟩, ⟨by (with_reducible repeat (first | refine blk_drewN ?_ _ | refine blk_drew ?_ | refine blk_alloc ?_ _)); refine blk_put (cs := #[.int .u64 t247, .int .i64 x233001_4]) ?_ 1 _ rfl; (with_reducible repeat (first | refine blk_drewN ?_ _ | refine blk_drew ?_ | refine blk_alloc ?_ _)); refine blk_put (cs := #[.int .u64 x233000_4, .int .i64 x233001_4]) ?_ 0 _ rfl; (with_reducible repeat (first | refine blk_drewN ?_ _ | refine blk_drew ?_ | refine blk_alloc ?_ _)); refine blk_far ?_ NB232_250.out _; (with_reducible repeat (first | refine blk_drewN ?_ _ | refine blk_drew ?_ | refine blk_alloc ?_ _)); refine blk_far ?_ NB232_250.out _; (with_reducible repeat (first | refine blk_drewN ?_ _ | refine blk_drew ?_ | refine blk_alloc ?_ _)); exact BK232.out⟩, ⟨by repeat (first | (with_reducible first | exact HB.out | apply below_alloc | apply pw_below_drewN | apply below_drew1 | refine below_set ?_ GE231.out | refine below_set ?_ GE232.out | refine below_set ?_ GE250.out) | exact HB.out)⟩⟩
                            · rw [if_neg c57] at H
                              have c57b0 : (t249 == 0) = false := beq_eq_false_iff_ne.mpr c57
                              have c57b1 : (t249 != 0) = true := bne_iff_ne.mpr c57
                              exact absurd ((Option.some.inj H).trans hrt.out) (by decide)
                          · rw [if_neg c55] at H
                            exact absurd H (by simp)
                        · rw [if_neg c54] at H
                          exact absurd H (by simp)
                      · rw [if_neg c53] at H
                        have c53b0 : decide (0 ≤ x11_4) = false := decide_eq_false c53
                        clear c53
                        by_cases c72 : t230 = 0
                        · rw [if_pos c72] at H
                          have c72b0 : (t230 == 0) = true := beq_iff_eq.mpr c72
                          have c72b1 : (t230 != 0) = false := bne_eq_false_iff_eq.mpr c72
                          clear c72
                          by_cases c73 : (x233000_4 == t228 && (x233001_4 == t229)) = true
                          · rw [if_pos c73] at H
                            have c73b0 : (x233000_4 == t228 && (x233001_4 == t229)) = true := c73
                            (try (have c73b1 : decide (x233000_4 = t228 && (x233001_4 == t229)) = true := by simpa using c73))
                            (try (have c73b2 : (x233000_4 == t228 && (x233001_4 == t229)) = true := by simpa using c73))
                            clear c73
                            replace H := Option.bind_eq_some_iff.mp H
                            obtain ⟨t251, A740, H⟩ := H
                            replace H : (some t251) = some r := H
                            have A74 := Aside0.mk A740
                            clear A740
                            obtain rfl := Option.some.inj H
                            have hnb75 := NB232_231.out
                            have hnc75 := NB231_232.out
                            have hcz76_0 : wr.cell? ⟨gb232, 0, none⟩ = some (.int .u64 x233000_4) := (blk_cell BK232.out 0).trans rfl
                            have hcz76_1 : wr.cell? ⟨gb232, 1, none⟩ = some (.int .i64 x233001_4) := (blk_cell BK232.out 1).trans rfl
                            have hfz76_0 := blk_frozen BK232.out 0
                            have hfz76_1 := blk_frozen BK232.out 1
                            have hcz77_0 : wr.cell? ⟨gb231, 0, none⟩ = some (.int .u64 t228) := (blk_cell BK231.out 0).trans rfl
                            have hcz77_1 : wr.cell? ⟨gb231, 1, none⟩ = some (.int .i64 t229) := (blk_cell BK231.out 1).trans rfl
                            have hfz77_0 := blk_frozen BK231.out 0
                            have hfz77_1 := blk_frozen BK231.out 1
                            go_wp2_with (first | (go_at_call 18; (with_reducible refine (tattlelaw05_awakeT.calls  t251 _ A74.out).mono ?_); rintro e w78 ⟨rfl, hb⟩; have n0_ := Aside0.mk (blk_below (g := gb231) (o := .cells #[.int .u64 t228, .int .i64 t229] 26 (0, 0)) (by (with_reducible repeat (first | refine blk_drewN ?_ _ | refine blk_drew ?_ | refine blk_alloc ?_ _)); exact BK231.out) hb); have n1_ := Aside0.mk (blk_below (g := gb232) (o := .cells #[.int .u64 x233000_4, .int .i64 x233001_4] 26 (0, 0)) (by (with_reducible repeat (first | refine blk_drewN ?_ _ | refine blk_drew ?_ | refine blk_alloc ?_ _)); exact BK232.out) hb); have n2_ := Aside0.mk (below_step (by repeat (first | (with_reducible first | exact HB.out | apply below_alloc | apply pw_below_drewN | apply below_drew1 | refine below_set ?_ GE231.out | refine below_set ?_ GE232.out) | exact HB.out)) hb); clear BK231; clear BK232; clear HB; have BK231 := n0_; have BK232 := n1_; have HB := n2_; clear n0_ n1_ n2_; (try clear hb); (try clear hb2); (try clear hk); (try clear hi)))
                            go_ret
                            exact ⟨by first | rfl | (simp [errW_none, errW_some] <;> rfl) | (simp [*, errW_none, errW_some] <;> rfl), by repeat (first | (with_reducible first | exact HB.out | apply below_alloc | apply pw_below_drewN | apply below_drew1 | refine below_set ?_ GE231.out | refine below_set ?_ GE232.out) | exact HB.out)⟩
                          · rw [if_neg c73] at H
                            have c73b0 : (x233000_4 == t228 && (x233001_4 == t229)) = false := by simpa using c73
                            (try (have c73b1 : decide (x233000_4 = t228 && (x233001_4 == t229)) = false := by simpa using c73))
                            (try (have c73b2 : (x233000_4 == t228 && (x233001_4 == t229)) = false := by simpa using c73))
                            (try (have c73b3 : ¬ (x233000_4 = t228 && (x233001_4 == t229)) := by simpa using c73))
                            clear c73
                            exact absurd ((Option.some.inj H).trans hrt.out) (by decide)
                        · rw [if_neg c72] at H
                          have c72b0 : (t230 == 0) = false := beq_eq_false_iff_ne.mpr c72
                          have c72b1 : (t230 != 0) = true := bne_iff_ne.mpr c72
                          exact absurd ((Option.some.inj H).trans hrt.out) (by decide)

end Go.Proofs.Ytjamociekniepaa.Fn
