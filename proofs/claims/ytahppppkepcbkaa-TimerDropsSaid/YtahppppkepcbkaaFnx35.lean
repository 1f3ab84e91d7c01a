-- Written by program (a turned copy of the kit's print) for this seat: functions, contracts. Lean checks it.
import Derived.Test.YtahppppkepcbkaaFnx0
import Derived.Test.YtahppppkepcbkaaFnx1
import Derived.Test.YtahppppkepcbkaaFnx23
import Derived.Test.YtahppppkepcbkaaFnx27
import Derived.Test.YtahppppkepcbkaaAw29
import Derived.Test.YtahppppkepcbkaaExDrop
import Derived.Test.YtahppppkepcbkaaExSort
namespace Go.Proofs.Ytahppppkepcbkaa.Fn
open Go.RowKit Go.Proofs.YtahppppkepcbkaaW.PrintWords Go.Proofs.YtahppppkepcbkaaW.PrintLast Go.Proofs.YtahppppkepcbkaaW.PrintMore
attribute [local go_sem] max2_int min2_int max_two min_two max_three min_three max_four min_four   -- for this text's walks alone
set_option linter.unusedVariables false
set_option linter.unusedSimpArgs false

attribute [local go_sem high] eqA52
/-! ### tattlelaw03_TimerDrops: function 13 -/
mutual
def tattlelaw03_TimerDrops.j0 : Nat → List (S52) → Int → Bool → Option (Bool)
  | 0, _, _, _ => none
  | k + 1, x0, x1, x25 => if x25 = true then (if (x0.length : Int) = 0 then ((tattlelaw03_awakeT.f).bind fun t581 => (some t581)) else (some false)) else (if (x0.length : Int) = 0 then (none) else (if 0 ≤ (Int.tmod (wrap64 (x1)) (x0.length : Int)) then (if (Int.tmod (wrap64 (x1)) (x0.length : Int)) < (x0.length : Int) then ((timer_Drop.f x0 ((rd_T52 x0 (Int.tmod (wrap64 (x1)) (x0.length : Int))).f1) ((rd_T52 x0 (Int.tmod (wrap64 (x1)) (x0.length : Int))).f2)).bind fun bt584 => ((timer_Drop.f bt584.1 ((rd_T52 x0 (Int.tmod (wrap64 (x1)) (x0.length : Int))).f1) ((rd_T52 x0 (Int.tmod (wrap64 (x1)) (x0.length : Int))).f2)).bind fun bt588 => (if bt584.2 = 0 then (if bt588.2 = 0 then ((tattleref03_Same.f k bt584.1 bt588.1).bind fun t592 => (if t592 = true then (tattlelaw03_TimerDrops.j1 k x0 bt584.1 (decide ((bt584.1.length : Int) ≥ (x0.length : Int))) ((rd_T52 x0 (Int.tmod (wrap64 (x1)) (x0.length : Int))).f0) ((rd_T52 x0 (Int.tmod (wrap64 (x1)) (x0.length : Int))).f1) ((rd_T52 x0 (Int.tmod (wrap64 (x1)) (x0.length : Int))).f2) ((rd_T52 x0 (Int.tmod (wrap64 (x1)) (x0.length : Int))).f3)) else (tattlelaw03_TimerDrops.j1 k x0 bt584.1 true ((rd_T52 x0 (Int.tmod (wrap64 (x1)) (x0.length : Int))).f0) ((rd_T52 x0 (Int.tmod (wrap64 (x1)) (x0.length : Int))).f1) ((rd_T52 x0 (Int.tmod (wrap64 (x1)) (x0.length : Int))).f2) ((rd_T52 x0 (Int.tmod (wrap64 (x1)) (x0.length : Int))).f3)))) else (tattlelaw03_TimerDrops.j1 k x0 bt584.1 true ((rd_T52 x0 (Int.tmod (wrap64 (x1)) (x0.length : Int))).f0) ((rd_T52 x0 (Int.tmod (wrap64 (x1)) (x0.length : Int))).f1) ((rd_T52 x0 (Int.tmod (wrap64 (x1)) (x0.length : Int))).f2) ((rd_T52 x0 (Int.tmod (wrap64 (x1)) (x0.length : Int))).f3))) else (tattlelaw03_TimerDrops.j1 k x0 bt584.1 true ((rd_T52 x0 (Int.tmod (wrap64 (x1)) (x0.length : Int))).f0) ((rd_T52 x0 (Int.tmod (wrap64 (x1)) (x0.length : Int))).f1) ((rd_T52 x0 (Int.tmod (wrap64 (x1)) (x0.length : Int))).f2) ((rd_T52 x0 (Int.tmod (wrap64 (x1)) (x0.length : Int))).f3))))) else (none)) else (none)))
def tattlelaw03_TimerDrops.j1 : Nat → List (S52) → List (S52) → Bool → Int → Int → Int → Int → Option (Bool)
  | 0, _, _, _, _, _, _, _ => none
  | k + 1, x0, x7, x76, x584000, x584001, x584002, x584003 => if x76 = true then (some false) else (tattlelaw03_TimerDrops.l0 k x0 x7 0 0 x584000 x584001 x584002 x584003)
def tattlelaw03_TimerDrops.l0 : Nat → List (S52) → List (S52) → Int → Int → Int → Int → Int → Int → Option (Bool)
  | 0, _, _, _, _, _, _, _, _ => none
  | k + 1, x0, x7, x11, x12, x584000, x584001, x584002, x584003 => if x12 < (x0.length : Int) then (if 0 ≤ x12 then (if ((rd_T52 x0 x12).f1) = x584001 then (tattlelaw03_TimerDrops.j3 k x0 x7 x11 x12 (((rd_T52 x0 x12).f2) == x584002) x584000 x584001 x584002 x584003) else (tattlelaw03_TimerDrops.j3 k x0 x7 x11 x12 false x584000 x584001 x584002 x584003)) else (none)) else (if x11 = (x7.length : Int) then ((tattlelaw03_awakeT.f).bind fun t593 => (some t593)) else (some false))
def tattlelaw03_TimerDrops.j3 : Nat → List (S52) → List (S52) → Int → Int → Bool → Int → Int → Int → Int → Option (Bool)
  | 0, _, _, _, _, _, _, _, _, _ => none
  | k + 1, x0, x7, x11, x12, x100, x584000, x584001, x584002, x584003 => if x100 = true then (tattlelaw03_TimerDrops.l0 k x0 x7 x11 (wrap64 (x12 + 1)) x584000 x584001 x584002 x584003) else (if x11 ≥ (x7.length : Int) then (some false) else (if 0 ≤ x11 then (if x11 < (x7.length : Int) then (if 0 ≤ x12 then (if x12 < (x0.length : Int) then (if (!(((rd_T52 x7 x11).f0) == ((rd_T52 x0 x12).f0)) || (!(((rd_T52 x7 x11).f1) == ((rd_T52 x0 x12).f1)) || (!(((rd_T52 x7 x11).f2) == ((rd_T52 x0 x12).f2)) || (!(((rd_T52 x7 x11).f3) == ((rd_T52 x0 x12).f3)))))) = true then (some false) else (tattlelaw03_TimerDrops.l0 k x0 x7 (wrap64 (x11 + 1)) (wrap64 (x12 + 1)) x584000 x584001 x584002 x584003)) else (none)) else (none)) else (none)) else (none)))
end
def tattlelaw03_TimerDrops.f (k : Nat) (l0 : List (S52)) (a1 : Int) : Option (Bool) := (tattlelaw03_Few.f l0).bind fun t574 => ((timer_Sort.f t574).bind fun bt577 => (if bt577.2 = 0 then (tattlelaw03_TimerDrops.j0 k bt577.1 a1 ((bt577.1.length : Int) == 0)) else (tattlelaw03_TimerDrops.j0 k bt577.1 a1 true)))
theorem tattlelaw03_TimerDrops.mono_l : ∀ k, (∀ y0 y1 y2, LeO (tattlelaw03_TimerDrops.j0 k y0 y1 y2) (tattlelaw03_TimerDrops.j0 (k + 1) y0 y1 y2)) ∧ (∀ y0 y1 y2 y3 y4 y5 y6, LeO (tattlelaw03_TimerDrops.j1 k y0 y1 y2 y3 y4 y5 y6) (tattlelaw03_TimerDrops.j1 (k + 1) y0 y1 y2 y3 y4 y5 y6)) ∧ (∀ y0 y1 y2 y3 y4 y5 y6 y7, LeO (tattlelaw03_TimerDrops.l0 k y0 y1 y2 y3 y4 y5 y6 y7) (tattlelaw03_TimerDrops.l0 (k + 1) y0 y1 y2 y3 y4 y5 y6 y7)) ∧ (∀ y0 y1 y2 y3 y4 y5 y6 y7 y8, LeO (tattlelaw03_TimerDrops.j3 k y0 y1 y2 y3 y4 y5 y6 y7 y8) (tattlelaw03_TimerDrops.j3 (k + 1) y0 y1 y2 y3 y4 y5 y6 y7 y8))
  | 0 => ⟨fun _ _ _ r h => by simp [tattlelaw03_TimerDrops.j0] at h, fun _ _ _ _ _ _ _ r h => by simp [tattlelaw03_TimerDrops.j1] at h, fun _ _ _ _ _ _ _ _ r h => by simp [tattlelaw03_TimerDrops.l0] at h, fun _ _ _ _ _ _ _ _ _ r h => by simp [tattlelaw03_TimerDrops.j3] at h⟩
  | k + 1 => by
    obtain ⟨ih0, ih1, ih2, ih3⟩ := tattlelaw03_TimerDrops.mono_l k
    refine ⟨?_, ?_, ?_, ?_⟩
    · intro y0 y1 y2
      unfold tattlelaw03_TimerDrops.j0
      repeat' first
      | (with_reducible exact ih0 _ _ _)
      | (with_reducible exact ih1 _ _ _ _ _ _ _)
      | (with_reducible exact ih2 _ _ _ _ _ _ _ _)
      | (with_reducible exact ih3 _ _ _ _ _ _ _ _ _)
      | (with_reducible exact tattleref03_Same.mono _ _ _)
      | (with_reducible exact LeO.refl _)
      | (with_reducible exact LeO.none _)
      | (with_reducible refine LeO.ite ?_ ?_)
      | (with_reducible refine LeO.bind ?_ (fun _ => ?_))
      | exact ih0 _ _ _
      | exact ih1 _ _ _ _ _ _ _
      | exact ih2 _ _ _ _ _ _ _ _
      | exact ih3 _ _ _ _ _ _ _ _ _
      | exact tattleref03_Same.mono _ _ _
      | exact LeO.none _
      | refine LeO.ite ?_ ?_
      | refine LeO.bind ?_ (fun _ => ?_)
    · intro y0 y1 y2 y3 y4 y5 y6
      unfold tattlelaw03_TimerDrops.j1
      repeat' first
      | (with_reducible exact ih0 _ _ _)
      | (with_reducible exact ih1 _ _ _ _ _ _ _)
      | (with_reducible exact ih2 _ _ _ _ _ _ _ _)
      | (with_reducible exact ih3 _ _ _ _ _ _ _ _ _)
      | (with_reducible exact tattleref03_Same.mono _ _ _)
      | (with_reducible exact LeO.refl _)
      | (with_reducible exact LeO.none _)
      | (with_reducible refine LeO.ite ?_ ?_)
      | (with_reducible refine LeO.bind ?_ (fun _ => ?_))
      | exact ih0 _ _ _
      | exact ih1 _ _ _ _ _ _ _
      | exact ih2 _ _ _ _ _ _ _ _
      | exact ih3 _ _ _ _ _ _ _ _ _
      | exact tattleref03_Same.mono _ _ _
      | exact LeO.none _
      | refine LeO.ite ?_ ?_
      | refine LeO.bind ?_ (fun _ => ?_)
    · intro y0 y1 y2 y3 y4 y5 y6 y7
      unfold tattlelaw03_TimerDrops.l0
      repeat' first
      | (with_reducible exact ih0 _ _ _)
      | (with_reducible exact ih1 _ _ _ _ _ _ _)
      | (with_reducible exact ih2 _ _ _ _ _ _ _ _)
      | (with_reducible exact ih3 _ _ _ _ _ _ _ _ _)
      | (with_reducible exact tattleref03_Same.mono _ _ _)
      | (with_reducible exact LeO.refl _)
      | (with_reducible exact LeO.none _)
      | (with_reducible refine LeO.ite ?_ ?_)
      | (with_reducible refine LeO.bind ?_ (fun _ => ?_))
      | exact ih0 _ _ _
      | exact ih1 _ _ _ _ _ _ _
      | exact ih2 _ _ _ _ _ _ _ _
      | exact ih3 _ _ _ _ _ _ _ _ _
      | exact tattleref03_Same.mono _ _ _
      | exact LeO.none _
      | refine LeO.ite ?_ ?_
      | refine LeO.bind ?_ (fun _ => ?_)
    · intro y0 y1 y2 y3 y4 y5 y6 y7 y8
      unfold tattlelaw03_TimerDrops.j3
      repeat' first
      | (with_reducible exact ih0 _ _ _)
      | (with_reducible exact ih1 _ _ _ _ _ _ _)
      | (with_reducible exact ih2 _ _ _ _ _ _ _ _)
      | (with_reducible exact ih3 _ _ _ _ _ _ _ _ _)
      | (with_reducible exact tattleref03_Same.mono _ _ _)
      | (with_reducible exact LeO.refl _)
      | (with_reducible exact LeO.none _)
      | (with_reducible refine LeO.ite ?_ ?_)
      | (with_reducible refine LeO.bind ?_ (fun _ => ?_))
      | exact ih0 _ _ _
      | exact ih1 _ _ _ _ _ _ _
      | exact ih2 _ _ _ _ _ _ _ _
      | exact ih3 _ _ _ _ _ _ _ _ _
      | exact tattleref03_Same.mono _ _ _
      | exact LeO.none _
      | refine LeO.ite ?_ ?_
      | refine LeO.bind ?_ (fun _ => ?_)
theorem tattlelaw03_TimerDrops.mono : ∀ a0 a1 k, LeO (tattlelaw03_TimerDrops.f k a0 a1) (tattlelaw03_TimerDrops.f (k + 1) a0 a1) := by
  intro a0 a1 k
  obtain ⟨ih0, ih1, ih2, ih3⟩ := tattlelaw03_TimerDrops.mono_l k
  unfold tattlelaw03_TimerDrops.f
  repeat' first
      | (with_reducible exact ih0 _ _ _)
      | (with_reducible exact ih1 _ _ _ _ _ _ _)
      | (with_reducible exact ih2 _ _ _ _ _ _ _ _)
      | (with_reducible exact ih3 _ _ _ _ _ _ _ _ _)
      | (with_reducible exact tattleref03_Same.mono _ _ _)
      | (with_reducible exact LeO.refl _)
      | (with_reducible exact LeO.none _)
      | (with_reducible refine LeO.ite ?_ ?_)
      | (with_reducible refine LeO.bind ?_ (fun _ => ?_))
      | exact ih0 _ _ _
      | exact ih1 _ _ _ _ _ _ _
      | exact ih2 _ _ _ _ _ _ _ _
      | exact ih3 _ _ _ _ _ _ _ _ _
      | exact tattleref03_Same.mono _ _ _
      | exact LeO.none _
      | refine LeO.ite ?_ ?_
      | refine LeO.bind ?_ (fun _ => ?_)
set_option maxHeartbeats 8000000 in
set_option maxRecDepth 100000 in
theorem tattlelaw03_TimerDrops.calls (k : Nat) (A0 : Option Addr) (c0 : Nat) (l0 : List (S52)) (a1 : Int) (r : Bool) (w : World) (hr0 : Kd.C k52 w A0 l0.length l0) (hc0 : l0.length ≤ c0) (hrt : Aside0 (r = true)) (h : tattlelaw03_TimerDrops.f k l0 a1 = some r) :
    Calls Try.prog 13 #[.slice A0 l0.length c0, .int .u8 a1] w fun e w' => e = .returned (.bool r) ∧ Below w.heap.size w w' := by
  have hu52 := Try.underlying52
  have HR0 := Aside0.mk hr0
  have HC0 := Aside0.mk hc0
  clear hr0 hc0
  have HB := Aside0.mk (Below.refl w.heap.size w)
  have H : ((tattlelaw03_Few.f l0).bind fun t574 => ((timer_Sort.f t574).bind fun bt577 => (if bt577.2 = 0 then (tattlelaw03_TimerDrops.j0 k bt577.1 a1 ((bt577.1.length : Int) == 0)) else (tattlelaw03_TimerDrops.j0 k bt577.1 a1 true)))) = some r := h
  clear h
  replace H := Option.bind_eq_some_iff.mp H
  obtain ⟨t574, A30, H⟩ := H
  replace H : ((timer_Sort.f t574).bind fun bt577 => (if bt577.2 = 0 then (tattlelaw03_TimerDrops.j0 k bt577.1 a1 ((bt577.1.length : Int) == 0)) else (tattlelaw03_TimerDrops.j0 k bt577.1 a1 true))) = some r := H
  have A3 := Aside0.mk A30
  clear A30
  replace H := Option.bind_eq_some_iff.mp H
  obtain ⟨⟨t577, t578⟩, A40, H⟩ := H
  replace H : (if t578 = 0 then (tattlelaw03_TimerDrops.j0 k t577 a1 ((t577.length : Int) == 0)) else (tattlelaw03_TimerDrops.j0 k t577 a1 true)) = some r := H
  have A4 := Aside0.mk A40
  clear A40
  have HC5 := Aside0.mk H
  clear H
  go_enter Try.func13, Try.ntmps13
  go_upto_region 2 with (first | (go_at_call 30; (with_reducible refine (tattlelaw03_Few.calls (fun k_ => k_ < w.heap.size) _ _ l0 t574 _ ?side1 A3.out).mono ?_); (case side1 => exact Kd.V_mk HC0.out (Kd.F_below (Kd.C_F k52_heap HR0.out) (by repeat (first | (with_reducible first | exact HB.out | apply below_alloc | apply pw_below_drewN | apply below_drew1) | exact HB.out)))); rintro e w6 ⟨v575, rfl, ho0, hb⟩; have n0_ := Aside0.mk (Kd.V_lower (Kd.V_mono (ok' := fun k_ => True) ho0 (fun k_ hk_ => trivial)) (below_size (by repeat (first | (with_reducible first | exact HB.out | apply below_alloc | apply pw_below_drewN | apply below_drew1) | exact HB.out)))); have n1_ := Aside0.mk (below_step (by repeat (first | (with_reducible first | exact HB.out | apply below_alloc | apply pw_below_drewN | apply below_drew1) | exact HB.out)) hb); clear HB; have HO576 := n0_; have HB := n1_; clear n0_ n1_; (try clear hb); (try clear hb2); (try clear hk); (try clear hi); (try clear ho0); obtain ⟨Ao7, co7, eo7⟩ := Kd.V_slice HO576.out; subst eo7) | (go_at_call 31; (with_reducible refine (timer_Sort.calls _ _ t574 t577 t578 _ ?side1 ?side2 A4.out).mono ?_); (case side1 => repeat (first | exact (Kd.V_reads' HO576.out).2.2 | (with_reducible refine Kd.C_alloc ?_ _) | (with_reducible refine Kd.C_drewN ?_ _) | (with_reducible refine Kd.C_drew ?_))); (case side2 => exact (Kd.V_reads' HO576.out).2.1); rintro e w8 ⟨v579, rfl, ho0, hb⟩; have n0_ := Aside0.mk (Kd.V_elder' (by (with_reducible repeat (first | apply Kd.V_alloc | apply Kd.V_drewN | apply Kd.V_drew)); exact HO576.out) (Kd.R_base ho0) hb); have n1_ := Aside0.mk (Kd.R_lower ho0 (below_size (by repeat (first | (with_reducible first | exact HB.out | apply below_alloc | apply pw_below_drewN | apply below_drew1) | exact HB.out)))); have n2_ := Aside0.mk (below_step (by repeat (first | (with_reducible first | exact HB.out | apply below_alloc | apply pw_below_drewN | apply below_drew1) | exact HB.out)) hb); clear HO576; clear HB; have HO576 := n0_; have HO580 := n1_; have HB := n2_; clear n0_ n1_ n2_; (try clear hb); (try clear hb2); (try clear hk); (try clear hi); (try clear ho0)))
  repeat (go_quiet (first | (go_at_call 30; (with_reducible refine (tattlelaw03_Few.calls (fun k_ => k_ < w.heap.size) _ _ l0 t574 _ ?side1 A3.out).mono ?_); (case side1 => exact Kd.V_mk HC0.out (Kd.F_below (Kd.C_F k52_heap HR0.out) (by repeat (first | (with_reducible first | exact HB.out | apply below_alloc | apply pw_below_drewN | apply below_drew1) | exact HB.out)))); rintro e w6 ⟨v575, rfl, ho0, hb⟩; have n0_ := Aside0.mk (Kd.V_lower (Kd.V_mono (ok' := fun k_ => True) ho0 (fun k_ hk_ => trivial)) (below_size (by repeat (first | (with_reducible first | exact HB.out | apply below_alloc | apply pw_below_drewN | apply below_drew1) | exact HB.out)))); have n1_ := Aside0.mk (below_step (by repeat (first | (with_reducible first | exact HB.out | apply below_alloc | apply pw_below_drewN | apply below_drew1) | exact HB.out)) hb); clear HB; have HO576 := n0_; have HB := n1_; clear n0_ n1_; (try clear hb); (try clear hb2); (try clear hk); (try clear hi); (try clear ho0); obtain ⟨Ao7, co7, eo7⟩ := Kd.V_slice HO576.out; subst eo7) | (go_at_call 31; (with_reducible refine (timer_Sort.calls _ _ t574 t577 t578 _ ?side1 ?side2 A4.out).mono ?_); (case side1 => repeat (first | exact (Kd.V_reads' HO576.out).2.2 | (with_reducible refine Kd.C_alloc ?_ _) | (with_reducible refine Kd.C_drewN ?_ _) | (with_reducible refine Kd.C_drew ?_))); (case side2 => exact (Kd.V_reads' HO576.out).2.1); rintro e w8 ⟨v579, rfl, ho0, hb⟩; have n0_ := Aside0.mk (Kd.V_elder' (by (with_reducible repeat (first | apply Kd.V_alloc | apply Kd.V_drewN | apply Kd.V_drew)); exact HO576.out) (Kd.R_base ho0) hb); have n1_ := Aside0.mk (Kd.R_lower ho0 (below_size (by repeat (first | (with_reducible first | exact HB.out | apply below_alloc | apply pw_below_drewN | apply below_drew1) | exact HB.out)))); have n2_ := Aside0.mk (below_step (by repeat (first | (with_reducible first | exact HB.out | apply below_alloc | apply pw_below_drewN | apply below_drew1) | exact HB.out)) hb); clear HO576; clear HB; have HO576 := n0_; have HO580 := n1_; have HB := n2_; clear n0_ n1_ n2_; (try clear hb); (try clear hb2); (try clear hk); (try clear hi); (try clear ho0))); go_upto_region 2 with (first | (go_at_call 30; (with_reducible refine (tattlelaw03_Few.calls (fun k_ => k_ < w.heap.size) _ _ l0 t574 _ ?side1 A3.out).mono ?_); (case side1 => exact Kd.V_mk HC0.out (Kd.F_below (Kd.C_F k52_heap HR0.out) (by repeat (first | (with_reducible first | exact HB.out | apply below_alloc | apply pw_below_drewN | apply below_drew1) | exact HB.out)))); rintro e w6 ⟨v575, rfl, ho0, hb⟩; have n0_ := Aside0.mk (Kd.V_lower (Kd.V_mono (ok' := fun k_ => True) ho0 (fun k_ hk_ => trivial)) (below_size (by repeat (first | (with_reducible first | exact HB.out | apply below_alloc | apply pw_below_drewN | apply below_drew1) | exact HB.out)))); have n1_ := Aside0.mk (below_step (by repeat (first | (with_reducible first | exact HB.out | apply below_alloc | apply pw_below_drewN | apply below_drew1) | exact HB.out)) hb); clear HB; have HO576 := n0_; have HB := n1_; clear n0_ n1_; (try clear hb); (try clear hb2); (try clear hk); (try clear hi); (try clear ho0); obtain ⟨Ao7, co7, eo7⟩ := Kd.V_slice HO576.out; subst eo7) | (go_at_call 31; (with_reducible refine (timer_Sort.calls _ _ t574 t577 t578 _ ?side1 ?side2 A4.out).mono ?_); (case side1 => repeat (first | exact (Kd.V_reads' HO576.out).2.2 | (with_reducible refine Kd.C_alloc ?_ _) | (with_reducible refine Kd.C_drewN ?_ _) | (with_reducible refine Kd.C_drew ?_))); (case side2 => exact (Kd.V_reads' HO576.out).2.1); rintro e w8 ⟨v579, rfl, ho0, hb⟩; have n0_ := Aside0.mk (Kd.V_elder' (by (with_reducible repeat (first | apply Kd.V_alloc | apply Kd.V_drewN | apply Kd.V_drew)); exact HO576.out) (Kd.R_base ho0) hb); have n1_ := Aside0.mk (Kd.R_lower ho0 (below_size (by repeat (first | (with_reducible first | exact HB.out | apply below_alloc | apply pw_below_drewN | apply below_drew1) | exact HB.out)))); have n2_ := Aside0.mk (below_step (by repeat (first | (with_reducible first | exact HB.out | apply below_alloc | apply pw_below_drewN | apply below_drew1) | exact HB.out)) hb); clear HO576; clear HB; have HO576 := n0_; have HO580 := n1_; have HB := n2_; clear n0_ n1_ n2_; (try clear hb); (try clear hb2); (try clear hk); (try clear hi); (try clear ho0))))
  (try simp only [Act.put, List.setIfInBounds_toArray, List.set_cons_zero, List.set_cons_succ])
  go_cut [25] (fun v25 wc => ∃ (kq : Nat) (x25_4 : Bool), v25 = .bool x25_4 ∧ Aside0 (tattlelaw03_TimerDrops.j0 kq t577 a1 x25_4 = some r) ∧ Aside0 (kq ≤ k) ∧ Aside0 (Kd.R k52 52 wc w.heap.size (fun _ => True) v579 t577) ∧ Aside0 (Below w.heap.size w wc))
  case first =>
    have H := HC5.out
    clear HC5
    by_cases c9 : t578 = 0
    · rw [if_pos c9] at H
      have c9b0 : (t578 == 0) = true := beq_iff_eq.mpr c9
      have c9b1 : (t578 != 0) = false := bne_eq_false_iff_eq.mpr c9
      clear c9
      (first | rw [c9b0] | (simp only [i64_w, i32_w]; rw [c9b0]) | skip)
      have H' := Aside0.mk H
      clear H
      obtain ⟨Ao10, co10, eo10⟩ := Kd.R_slice HO580.out
      subst eo10
      go_wp2
      repeat (go_quiet (fail); try go_wp2)
      go_meet
      case rel => exact ⟨_, (((t577.length : Int) == 0)), (by first | rfl | (simp; done) | (simp [*]; done)), H', ⟨by first | omega | exact Nat.le_refl _⟩, ⟨by (with_reducible repeat (first | apply Kd.R_alloc | apply Kd.R_drewN | apply Kd.R_drew)); exact HO580.out⟩, ⟨by repeat (first | (with_reducible first | exact HB.out | apply below_alloc | apply pw_below_drewN | apply below_drew1) | exact HB.out)⟩⟩
    · rw [if_neg c9] at H
      have c9b0 : (t578 == 0) = false := beq_eq_false_iff_ne.mpr c9
      have c9b1 : (t578 != 0) = true := bne_iff_ne.mpr c9
      (first | rw [c9b0] | (simp only [i64_w, i32_w]; rw [c9b0]) | skip)
      have H' := Aside0.mk H
      clear H
      go_wp2
      repeat (go_quiet (fail); try go_wp2)
      go_meet
      case rel => exact ⟨_, (true), (by first | rfl | (simp; done) | (simp [*]; done)), H', ⟨by first | omega | exact Nat.le_refl _⟩, ⟨by (with_reducible repeat (first | apply Kd.R_alloc | apply Kd.R_drewN | apply Kd.R_drew)); exact HO580.out⟩, ⟨by repeat (first | (with_reducible first | exact HB.out | apply below_alloc | apply pw_below_drewN | apply below_drew1) | exact HB.out)⟩⟩
  case rest =>
    clear HC5
    try clear c1
    try clear p2
    try clear c9
    try clear c9b0
    try clear c9b1
    obtain ⟨kq, x25_4, rfl, HA, HJ4, HO_0, HB⟩ := hcut
    cases kq with
    | zero => exact absurd HA.out (by simp [tattlelaw03_TimerDrops.j0])
    | succ kj4 =>
      have H := HA.out
      clear HA
      simp only [tattlelaw03_TimerDrops.j0] at H
      by_cases c11 : x25_4 = true
      · subst c11
        have H1 : (if (t577.length : Int) = 0 then ((tattlelaw03_awakeT.f).bind fun t581 => (some t581)) else (some false)) = some r := by rw [if_pos rfl] at H; exact H
        clear H
        have H := H1
        clear H1
        by_cases c12 : (t577.length : Int) = 0
        · rw [if_pos c12] at H
          have c12b0 : ((t577.length : Int) == 0) = true := beq_iff_eq.mpr c12
          have c12b1 : ((t577.length : Int) != 0) = false := bne_eq_false_iff_eq.mpr c12
          clear c12
          replace H := Option.bind_eq_some_iff.mp H
          obtain ⟨t581, A130, H⟩ := H
          replace H : (some t581) = some r := H
          have A13 := Aside0.mk A130
          clear A130
          obtain rfl := Option.some.inj H
          obtain ⟨Ao14, co14, eo14⟩ := Kd.R_slice HO_0.out
          subst eo14
          go_wp2_with (first | (go_at_call 29; (with_reducible refine (tattlelaw03_awakeT.calls  t581 _ A13.out).mono ?_); rintro e w15 ⟨rfl, hb⟩; have n0_ := Aside0.mk (below_step (by repeat (first | (with_reducible first | exact HB.out | apply below_alloc | apply pw_below_drewN | apply below_drew1) | exact HB.out)) hb); clear HB; have HB := n0_; clear n0_; (try clear hb); (try clear hb2); (try clear hk); (try clear hi)))
          repeat (go_quiet (first | (go_at_call 29; (with_reducible refine (tattlelaw03_awakeT.calls  t581 _ A13.out).mono ?_); rintro e w15 ⟨rfl, hb⟩; have n0_ := Aside0.mk (below_step (by repeat (first | (with_reducible first | exact HB.out | apply below_alloc | apply pw_below_drewN | apply below_drew1) | exact HB.out)) hb); clear HB; have HB := n0_; clear n0_; (try clear hb); (try clear hb2); (try clear hk); (try clear hi))); try go_wp2_with (first | (go_at_call 29; (with_reducible refine (tattlelaw03_awakeT.calls  t581 _ A13.out).mono ?_); rintro e w15 ⟨rfl, hb⟩; have n0_ := Aside0.mk (below_step (by repeat (first | (with_reducible first | exact HB.out | apply below_alloc | apply pw_below_drewN | apply below_drew1) | exact HB.out)) hb); clear HB; have HB := n0_; clear n0_; (try clear hb); (try clear hb2); (try clear hk); (try clear hi))))
          go_ret
          exact ⟨by first | rfl | (simp [errW_none, errW_some] <;> rfl) | (simp [*, errW_none, errW_some] <;> rfl), by repeat (first | (with_reducible first | exact HB.out | apply below_alloc | apply pw_below_drewN | apply below_drew1) | exact HB.out)⟩
        · rw [if_neg c12] at H
          have c12b0 : ((t577.length : Int) == 0) = false := beq_eq_false_iff_ne.mpr c12
          have c12b1 : ((t577.length : Int) != 0) = true := bne_iff_ne.mpr c12
          have c12b2 : ¬ (t577 = []) := fun h_ => c12 (by rw [h_]; rfl)
          exact absurd ((Option.some.inj H).trans hrt.out) (by decide)
      · replace c11 := Bool.eq_false_iff.mpr c11
        subst c11
        have H1 : (if (t577.length : Int) = 0 then (none) else (if 0 ≤ (Int.tmod (wrap64 (a1)) (t577.length : Int)) then (if (Int.tmod (wrap64 (a1)) (t577.length : Int)) < (t577.length : Int) then ((timer_Drop.f t577 ((rd_T52 t577 (Int.tmod (wrap64 (a1)) (t577.length : Int))).f1) ((rd_T52 t577 (Int.tmod (wrap64 (a1)) (t577.length : Int))).f2)).bind fun bt584 => ((timer_Drop.f bt584.1 ((rd_T52 t577 (Int.tmod (wrap64 (a1)) (t577.length : Int))).f1) ((rd_T52 t577 (Int.tmod (wrap64 (a1)) (t577.length : Int))).f2)).bind fun bt588 => (if bt584.2 = 0 then (if bt588.2 = 0 then ((tattleref03_Same.f kj4 bt584.1 bt588.1).bind fun t592 => (if t592 = true then (tattlelaw03_TimerDrops.j1 kj4 t577 bt584.1 (decide ((bt584.1.length : Int) ≥ (t577.length : Int))) ((rd_T52 t577 (Int.tmod (wrap64 (a1)) (t577.length : Int))).f0) ((rd_T52 t577 (Int.tmod (wrap64 (a1)) (t577.length : Int))).f1) ((rd_T52 t577 (Int.tmod (wrap64 (a1)) (t577.length : Int))).f2) ((rd_T52 t577 (Int.tmod (wrap64 (a1)) (t577.length : Int))).f3)) else (tattlelaw03_TimerDrops.j1 kj4 t577 bt584.1 true ((rd_T52 t577 (Int.tmod (wrap64 (a1)) (t577.length : Int))).f0) ((rd_T52 t577 (Int.tmod (wrap64 (a1)) (t577.length : Int))).f1) ((rd_T52 t577 (Int.tmod (wrap64 (a1)) (t577.length : Int))).f2) ((rd_T52 t577 (Int.tmod (wrap64 (a1)) (t577.length : Int))).f3)))) else (tattlelaw03_TimerDrops.j1 kj4 t577 bt584.1 true ((rd_T52 t577 (Int.tmod (wrap64 (a1)) (t577.length : Int))).f0) ((rd_T52 t577 (Int.tmod (wrap64 (a1)) (t577.length : Int))).f1) ((rd_T52 t577 (Int.tmod (wrap64 (a1)) (t577.length : Int))).f2) ((rd_T52 t577 (Int.tmod (wrap64 (a1)) (t577.length : Int))).f3))) else (tattlelaw03_TimerDrops.j1 kj4 t577 bt584.1 true ((rd_T52 t577 (Int.tmod (wrap64 (a1)) (t577.length : Int))).f0) ((rd_T52 t577 (Int.tmod (wrap64 (a1)) (t577.length : Int))).f1) ((rd_T52 t577 (Int.tmod (wrap64 (a1)) (t577.length : Int))).f2) ((rd_T52 t577 (Int.tmod (wrap64 (a1)) (t577.length : Int))).f3))))) else (none)) else (none))) = some r := by rw [if_neg (show ¬ (false = true) by decide)] at H; exact H
        clear H
        have H := H1
        clear H1
        by_cases c16 : (t577.length : Int) = 0
        · rw [if_pos c16] at H
          exact absurd H (by simp)
        · rw [if_neg c16] at H
          have c16b0 : ((t577.length : Int) == 0) = false := beq_eq_false_iff_ne.mpr c16
          have c16b1 : ((t577.length : Int) != 0) = true := bne_iff_ne.mpr c16
          have c16b2 : ¬ (t577 = []) := fun h_ => c16 (by rw [h_]; rfl)
          obtain ⟨ji17, hji17⟩ : ∃ j_ : Int, (Int.tmod (wrap64 (a1)) (t577.length : Int)) = j_ := ⟨_, rfl⟩
          replace H : (if 0 ≤ (ji17) then (if (ji17) < (t577.length : Int) then ((timer_Drop.f t577 ((rd_T52 t577 (ji17)).f1) ((rd_T52 t577 (ji17)).f2)).bind fun bt584 => ((timer_Drop.f bt584.1 ((rd_T52 t577 (ji17)).f1) ((rd_T52 t577 (ji17)).f2)).bind fun bt588 => (if bt584.2 = 0 then (if bt588.2 = 0 then ((tattleref03_Same.f kj4 bt584.1 bt588.1).bind fun t592 => (if t592 = true then (tattlelaw03_TimerDrops.j1 kj4 t577 bt584.1 (decide ((bt584.1.length : Int) ≥ (t577.length : Int))) ((rd_T52 t577 (ji17)).f0) ((rd_T52 t577 (ji17)).f1) ((rd_T52 t577 (ji17)).f2) ((rd_T52 t577 (ji17)).f3)) else (tattlelaw03_TimerDrops.j1 kj4 t577 bt584.1 true ((rd_T52 t577 (ji17)).f0) ((rd_T52 t577 (ji17)).f1) ((rd_T52 t577 (ji17)).f2) ((rd_T52 t577 (ji17)).f3)))) else (tattlelaw03_TimerDrops.j1 kj4 t577 bt584.1 true ((rd_T52 t577 (ji17)).f0) ((rd_T52 t577 (ji17)).f1) ((rd_T52 t577 (ji17)).f2) ((rd_T52 t577 (ji17)).f3))) else (tattlelaw03_TimerDrops.j1 kj4 t577 bt584.1 true ((rd_T52 t577 (ji17)).f0) ((rd_T52 t577 (ji17)).f1) ((rd_T52 t577 (ji17)).f2) ((rd_T52 t577 (ji17)).f3))))) else (none)) else (none)) = some r := by first | (rw [hji17] at H; exact H) | (simp only [hji17] at H ⊢; exact H)
          by_cases c18 : 0 ≤ (ji17)
          · rw [if_pos c18] at H
            have c18b0 : decide (0 ≤ (ji17)) = true := decide_eq_true c18
            clear c18
            by_cases c19 : (ji17) < (t577.length : Int)
            · rw [if_pos c19] at H
              have c19b0 : decide ((ji17) < (t577.length : Int)) = true := decide_eq_true c19
              clear c19
              replace H := Option.bind_eq_some_iff.mp H
              obtain ⟨⟨t584, t585⟩, A200, H⟩ := H
              replace H : ((timer_Drop.f t584 ((rd_T52 t577 (ji17)).f1) ((rd_T52 t577 (ji17)).f2)).bind fun bt588 => (if t585 = 0 then (if bt588.2 = 0 then ((tattleref03_Same.f kj4 t584 bt588.1).bind fun t592 => (if t592 = true then (tattlelaw03_TimerDrops.j1 kj4 t577 t584 (decide ((t584.length : Int) ≥ (t577.length : Int))) ((rd_T52 t577 (ji17)).f0) ((rd_T52 t577 (ji17)).f1) ((rd_T52 t577 (ji17)).f2) ((rd_T52 t577 (ji17)).f3)) else (tattlelaw03_TimerDrops.j1 kj4 t577 t584 true ((rd_T52 t577 (ji17)).f0) ((rd_T52 t577 (ji17)).f1) ((rd_T52 t577 (ji17)).f2) ((rd_T52 t577 (ji17)).f3)))) else (tattlelaw03_TimerDrops.j1 kj4 t577 t584 true ((rd_T52 t577 (ji17)).f0) ((rd_T52 t577 (ji17)).f1) ((rd_T52 t577 (ji17)).f2) ((rd_T52 t577 (ji17)).f3))) else (tattlelaw03_TimerDrops.j1 kj4 t577 t584 true ((rd_T52 t577 (ji17)).f0) ((rd_T52 t577 (ji17)).f1) ((rd_T52 t577 (ji17)).f2) ((rd_T52 t577 (ji17)).f3)))) = some r := H
              have A20 := Aside0.mk A200
              clear A200
              replace H := Option.bind_eq_some_iff.mp H
              obtain ⟨⟨t588, t589⟩, A210, H⟩ := H
              replace H : (if t585 = 0 then (if t589 = 0 then ((tattleref03_Same.f kj4 t584 t588).bind fun t592 => (if t592 = true then (tattlelaw03_TimerDrops.j1 kj4 t577 t584 (decide ((t584.length : Int) ≥ (t577.length : Int))) ((rd_T52 t577 (ji17)).f0) ((rd_T52 t577 (ji17)).f1) ((rd_T52 t577 (ji17)).f2) ((rd_T52 t577 (ji17)).f3)) else (tattlelaw03_TimerDrops.j1 kj4 t577 t584 true ((rd_T52 t577 (ji17)).f0) ((rd_T52 t577 (ji17)).f1) ((rd_T52 t577 (ji17)).f2) ((rd_T52 t577 (ji17)).f3)))) else (tattlelaw03_TimerDrops.j1 kj4 t577 t584 true ((rd_T52 t577 (ji17)).f0) ((rd_T52 t577 (ji17)).f1) ((rd_T52 t577 (ji17)).f2) ((rd_T52 t577 (ji17)).f3))) else (tattlelaw03_TimerDrops.j1 kj4 t577 t584 true ((rd_T52 t577 (ji17)).f0) ((rd_T52 t577 (ji17)).f1) ((rd_T52 t577 (ji17)).f2) ((rd_T52 t577 (ji17)).f3))) = some r := H
              have A21 := Aside0.mk A210
              clear A210
              have HC22 := Aside0.mk H
              clear H
              obtain ⟨Ao23, co23, eo23⟩ := Kd.R_slice HO_0.out
              subst eo23
              have p582 : 0 ≤ ((ji17) : Int) := of_decide_eq_true (by first | (with_reducible assumption) | assumption)
              have q582 : (ji17) < (t577.length : Int) := of_decide_eq_true (by first | (with_reducible assumption) | assumption)
              obtain ⟨ad582, e582, hx582_0, hx582_1, hx582_2, hx582_3⟩ := at_T52 (Kd.R_reads' HO_0.out).2.2 (ji17) p582 q582
              cases e582
              replace p582 := eq_true p582
              replace q582 := eq_true q582
              go_upto_region 7 with (first | ((with_reducible refine gate_dst (N := 6) rfl ?_); (try (refine gate_guard (by rfl) ?_; dsimp only)); refine box_event ?hg (N := 6) ?hd (cs := #[.int .i64 0, .int .i64 0, .int .i64 0, .int .u64 0]) (t := 52) ?hr ?_; (case hd => rfl); (case hg => rfl); (case hr => first | (go_simp; done) | (go_simp; rfl)); intro gb583 hg w24 hbox hb; have n0_ := Aside0.mk (Kd.R_below (Kd.R_elderB (by (with_reducible repeat (first | apply Kd.R_alloc | apply Kd.R_drewN | apply Kd.R_drew)); exact HO_0.out) gb583 (Nat.le_of_eq hg.symm)) hb); have n1_ := Aside0.mk (below_step (by repeat (first | (with_reducible first | exact HB.out | apply below_alloc | apply pw_below_drewN | apply below_drew1) | exact HB.out)) hb); have n2_ := Aside0.mk (hbox); have n3_ := Aside0.mk ((by rw [hg]; exact (below_size (by repeat (first | (with_reducible first | exact HB.out | apply below_alloc | apply pw_below_drewN | apply below_drew1) | exact HB.out))) : w.heap.size ≤ gb583)); have n4_ := Aside0.mk ((by rw [hg]; exact (below_size (by repeat (first | (with_reducible first | exact HB.out | apply below_alloc | apply pw_below_drewN | apply below_drew1) | exact HB.out))) : w.heap.size ≤ gb583)); clear HO_0; clear HB; have HO_0 := n0_; have HB := n1_; have BK583 := n2_; have GW583 := n3_; have GE583 := n4_; clear n0_ n1_ n2_ n3_ n4_; clear hb hbox hg; have hcz25_0 : w24.cell? ⟨gb583, 0, none⟩ = some (.int .i64 0) := (blk_cell BK583.out 0).trans rfl; have hcz25_1 : w24.cell? ⟨gb583, 1, none⟩ = some (.int .i64 0) := (blk_cell BK583.out 1).trans rfl; have hcz25_2 : w24.cell? ⟨gb583, 2, none⟩ = some (.int .i64 0) := (blk_cell BK583.out 2).trans rfl; have hcz25_3 : w24.cell? ⟨gb583, 3, none⟩ = some (.int .u64 0) := (blk_cell BK583.out 3).trans rfl; have hfz25_0 := blk_frozen BK583.out 0; have hfz25_1 := blk_frozen BK583.out 1; have hfz25_2 := blk_frozen BK583.out 2; have hfz25_3 := blk_frozen BK583.out 3) | (go_at_call 38; (with_reducible refine (timer_Drop.calls _ _ t577 ((rd_T52 t577 (ji17)).f1) ((rd_T52 t577 (ji17)).f2) t584 t585 _ ?side1 ?side2 A20.out).mono ?_); (case side1 => refine (Kd.R_reads' (e := 52) (base := w.heap.size) (ok := fun k_ => (True ∧ k_ ≠ gb583)) (n := t577.length) (c := co23) ?_).2.2; exact (by (with_reducible repeat (first | apply Kd.R_alloc | apply Kd.R_drewN | apply Kd.R_drew)); exact (Kd.R_mono (Kd.R_far (p := ⟨gb583, 3, none⟩) (Kd.R_far (p := ⟨gb583, 2, none⟩) (Kd.R_far (p := ⟨gb583, 1, none⟩) (Kd.R_far (p := ⟨gb583, 0, none⟩) (Kd.R_mono HO_0.out (fun k_ hk => (⟨hk, hk.2⟩ : _ ∧ k_ ≠ gb583))) (fun _ hk => hk.2) (.int .i64 ((rd_T52 t577 (ji17)).f0))) (fun _ hk => hk.2) (.int .i64 ((rd_T52 t577 (ji17)).f1))) (fun _ hk => hk.2) (.int .i64 ((rd_T52 t577 (ji17)).f2))) (fun _ hk => hk.2) (.int .u64 ((rd_T52 t577 (ji17)).f3))) (fun _ h_ => h_.1)))); (case side2 => exact (Kd.R_reads' HO_0.out).2.1); rintro e w26 ⟨v586, rfl, ho0, hb⟩; have n0_ := Aside0.mk (Kd.R_elder' (by (with_reducible repeat (first | apply Kd.R_alloc | apply Kd.R_drewN | apply Kd.R_drew)); exact (Kd.R_mono (Kd.R_far (p := ⟨gb583, 3, none⟩) (Kd.R_far (p := ⟨gb583, 2, none⟩) (Kd.R_far (p := ⟨gb583, 1, none⟩) (Kd.R_far (p := ⟨gb583, 0, none⟩) (Kd.R_mono HO_0.out (fun k_ hk => (⟨hk, hk.2⟩ : _ ∧ k_ ≠ gb583))) (fun _ hk => hk.2) (.int .i64 ((rd_T52 t577 (ji17)).f0))) (fun _ hk => hk.2) (.int .i64 ((rd_T52 t577 (ji17)).f1))) (fun _ hk => hk.2) (.int .i64 ((rd_T52 t577 (ji17)).f2))) (fun _ hk => hk.2) (.int .u64 ((rd_T52 t577 (ji17)).f3))) (fun _ h_ => h_.1))) (Kd.R_base ho0) hb); have n1_ := Aside0.mk (Kd.R_lower (Kd.R_newB (Kd.R_new' ho0 (Kd.R_lt (by (with_reducible repeat (first | apply Kd.R_alloc | apply Kd.R_drewN | apply Kd.R_drew)); exact (Kd.R_mono (Kd.R_far (p := ⟨gb583, 3, none⟩) (Kd.R_far (p := ⟨gb583, 2, none⟩) (Kd.R_far (p := ⟨gb583, 1, none⟩) (Kd.R_far (p := ⟨gb583, 0, none⟩) (Kd.R_mono HO_0.out (fun k_ hk => (⟨hk, hk.2⟩ : _ ∧ k_ ≠ gb583))) (fun _ hk => hk.2) (.int .i64 ((rd_T52 t577 (ji17)).f0))) (fun _ hk => hk.2) (.int .i64 ((rd_T52 t577 (ji17)).f1))) (fun _ hk => hk.2) (.int .i64 ((rd_T52 t577 (ji17)).f2))) (fun _ hk => hk.2) (.int .u64 ((rd_T52 t577 (ji17)).f3))) (fun _ h_ => h_.1))))) (g := gb583) (o := .cells #[.int .i64 ((rd_T52 t577 (ji17)).f0), .int .i64 ((rd_T52 t577 (ji17)).f1), .int .i64 ((rd_T52 t577 (ji17)).f2), .int .u64 ((rd_T52 t577 (ji17)).f3)] 52 (0, 0)) (by (with_reducible repeat (first | refine blk_drewN ?_ _ | refine blk_drew ?_ | refine blk_alloc ?_ _)); refine blk_put (cs := #[.int .i64 ((rd_T52 t577 (ji17)).f0), .int .i64 ((rd_T52 t577 (ji17)).f1), .int .i64 ((rd_T52 t577 (ji17)).f2), .int .u64 0]) ?_ 3 _ rfl; (with_reducible repeat (first | refine blk_drewN ?_ _ | refine blk_drew ?_ | refine blk_alloc ?_ _)); refine blk_put (cs := #[.int .i64 ((rd_T52 t577 (ji17)).f0), .int .i64 ((rd_T52 t577 (ji17)).f1), .int .i64 0, .int .u64 0]) ?_ 2 _ rfl; (with_reducible repeat (first | refine blk_drewN ?_ _ | refine blk_drew ?_ | refine blk_alloc ?_ _)); refine blk_put (cs := #[.int .i64 ((rd_T52 t577 (ji17)).f0), .int .i64 0, .int .i64 0, .int .u64 0]) ?_ 1 _ rfl; (with_reducible repeat (first | refine blk_drewN ?_ _ | refine blk_drew ?_ | refine blk_alloc ?_ _)); refine blk_put (cs := #[.int .i64 0, .int .i64 0, .int .i64 0, .int .u64 0]) ?_ 0 _ rfl; (with_reducible repeat (first | refine blk_drewN ?_ _ | refine blk_drew ?_ | refine blk_alloc ?_ _)); exact BK583.out)) (below_size (by repeat (first | (with_reducible first | exact HB.out | apply below_alloc | apply pw_below_drewN | apply below_drew1 | refine below_set ?_ GE583.out) | exact HB.out)))); have n2_ := Aside0.mk (blk_below (g := gb583) (o := .cells #[.int .i64 ((rd_T52 t577 (ji17)).f0), .int .i64 ((rd_T52 t577 (ji17)).f1), .int .i64 ((rd_T52 t577 (ji17)).f2), .int .u64 ((rd_T52 t577 (ji17)).f3)] 52 (0, 0)) (by (with_reducible repeat (first | refine blk_drewN ?_ _ | refine blk_drew ?_ | refine blk_alloc ?_ _)); refine blk_put (cs := #[.int .i64 ((rd_T52 t577 (ji17)).f0), .int .i64 ((rd_T52 t577 (ji17)).f1), .int .i64 ((rd_T52 t577 (ji17)).f2), .int .u64 0]) ?_ 3 _ rfl; (with_reducible repeat (first | refine blk_drewN ?_ _ | refine blk_drew ?_ | refine blk_alloc ?_ _)); refine blk_put (cs := #[.int .i64 ((rd_T52 t577 (ji17)).f0), .int .i64 ((rd_T52 t577 (ji17)).f1), .int .i64 0, .int .u64 0]) ?_ 2 _ rfl; (with_reducible repeat (first | refine blk_drewN ?_ _ | refine blk_drew ?_ | refine blk_alloc ?_ _)); refine blk_put (cs := #[.int .i64 ((rd_T52 t577 (ji17)).f0), .int .i64 0, .int .i64 0, .int .u64 0]) ?_ 1 _ rfl; (with_reducible repeat (first | refine blk_drewN ?_ _ | refine blk_drew ?_ | refine blk_alloc ?_ _)); refine blk_put (cs := #[.int .i64 0, .int .i64 0, .int .i64 0, .int .u64 0]) ?_ 0 _ rfl; (with_reducible repeat (first | refine blk_drewN ?_ _ | refine blk_drew ?_ | refine blk_alloc ?_ _)); exact BK583.out) hb); have n3_ := Aside0.mk (below_step (by repeat (first | (with_reducible first | exact HB.out | apply below_alloc | apply pw_below_drewN | apply below_drew1 | refine below_set ?_ GE583.out) | exact HB.out)) hb); clear HO_0; clear BK583; clear HB; have HO_0 := n0_; have HO587 := n1_; have BK583 := n2_; have HB := n3_; clear n0_ n1_ n2_ n3_; (try clear hb); (try clear hb2); (try clear hk); (try clear hi); (try clear ho0); have hcz27_0 : w26.cell? ⟨gb583, 0, none⟩ = some (.int .i64 ((rd_T52 t577 (ji17)).f0)) := (blk_cell BK583.out 0).trans rfl; have hcz27_1 : w26.cell? ⟨gb583, 1, none⟩ = some (.int .i64 ((rd_T52 t577 (ji17)).f1)) := (blk_cell BK583.out 1).trans rfl; have hcz27_2 : w26.cell? ⟨gb583, 2, none⟩ = some (.int .i64 ((rd_T52 t577 (ji17)).f2)) := (blk_cell BK583.out 2).trans rfl; have hcz27_3 : w26.cell? ⟨gb583, 3, none⟩ = some (.int .u64 ((rd_T52 t577 (ji17)).f3)) := (blk_cell BK583.out 3).trans rfl; have hfz27_0 := blk_frozen BK583.out 0; have hfz27_1 := blk_frozen BK583.out 1; have hfz27_2 := blk_frozen BK583.out 2; have hfz27_3 := blk_frozen BK583.out 3; obtain ⟨Ao28, co28, eo28⟩ := Kd.R_slice HO587.out; subst eo28) | (go_at_call 38; (with_reducible refine (timer_Drop.calls _ _ t584 ((rd_T52 t577 (ji17)).f1) ((rd_T52 t577 (ji17)).f2) t588 t589 _ ?side1 ?side2 A21.out).mono ?_); (case side1 => repeat (first | exact (Kd.R_reads' HO587.out).2.2 | (with_reducible refine Kd.C_alloc ?_ _) | (with_reducible refine Kd.C_drewN ?_ _) | (with_reducible refine Kd.C_drew ?_))); (case side2 => exact (Kd.R_reads' HO587.out).2.1); rintro e w29 ⟨v590, rfl, ho0, hb⟩; have n0_ := Aside0.mk (Kd.R_elder' (by (with_reducible repeat (first | apply Kd.R_alloc | apply Kd.R_drewN | apply Kd.R_drew)); exact HO_0.out) (Kd.R_base ho0) hb); have n1_ := Aside0.mk (Kd.R_elder' (by (with_reducible repeat (first | apply Kd.R_alloc | apply Kd.R_drewN | apply Kd.R_drew)); exact HO587.out) (Kd.R_base ho0) hb); have n2_ := Aside0.mk (Kd.R_lower (Kd.R_newB (Kd.R_new' (Kd.R_new' ho0 (Kd.R_lt (by (with_reducible repeat (first | apply Kd.R_alloc | apply Kd.R_drewN | apply Kd.R_drew)); exact HO_0.out))) (Kd.R_lt (by (with_reducible repeat (first | apply Kd.R_alloc | apply Kd.R_drewN | apply Kd.R_drew)); exact HO587.out))) (g := gb583) (o := .cells #[.int .i64 ((rd_T52 t577 (ji17)).f0), .int .i64 ((rd_T52 t577 (ji17)).f1), .int .i64 ((rd_T52 t577 (ji17)).f2), .int .u64 ((rd_T52 t577 (ji17)).f3)] 52 (0, 0)) (by (with_reducible repeat (first | refine blk_drewN ?_ _ | refine blk_drew ?_ | refine blk_alloc ?_ _)); exact BK583.out)) (below_size (by repeat (first | (with_reducible first | exact HB.out | apply below_alloc | apply pw_below_drewN | apply below_drew1 | refine below_set ?_ GE583.out) | exact HB.out)))); have n3_ := Aside0.mk (blk_below (g := gb583) (o := .cells #[.int .i64 ((rd_T52 t577 (ji17)).f0), .int .i64 ((rd_T52 t577 (ji17)).f1), .int .i64 ((rd_T52 t577 (ji17)).f2), .int .u64 ((rd_T52 t577 (ji17)).f3)] 52 (0, 0)) (by (with_reducible repeat (first | refine blk_drewN ?_ _ | refine blk_drew ?_ | refine blk_alloc ?_ _)); exact BK583.out) hb); have n4_ := Aside0.mk (below_step (by repeat (first | (with_reducible first | exact HB.out | apply below_alloc | apply pw_below_drewN | apply below_drew1 | refine below_set ?_ GE583.out) | exact HB.out)) hb); clear HO_0; clear HO587; clear BK583; clear HB; have HO_0 := n0_; have HO587 := n1_; have HO591 := n2_; have BK583 := n3_; have HB := n4_; clear n0_ n1_ n2_ n3_ n4_; (try clear hb); (try clear hb2); (try clear hk); (try clear hi); (try clear ho0)))
              repeat (go_quiet (first | ((with_reducible refine gate_dst (N := 6) rfl ?_); (try (refine gate_guard (by rfl) ?_; dsimp only)); refine box_event ?hg (N := 6) ?hd (cs := #[.int .i64 0, .int .i64 0, .int .i64 0, .int .u64 0]) (t := 52) ?hr ?_; (case hd => rfl); (case hg => rfl); (case hr => first | (go_simp; done) | (go_simp; rfl)); intro gb583 hg w24 hbox hb; have n0_ := Aside0.mk (Kd.R_below (Kd.R_elderB (by (with_reducible repeat (first | apply Kd.R_alloc | apply Kd.R_drewN | apply Kd.R_drew)); exact HO_0.out) gb583 (Nat.le_of_eq hg.symm)) hb); have n1_ := Aside0.mk (below_step (by repeat (first | (with_reducible first | exact HB.out | apply below_alloc | apply pw_below_drewN | apply below_drew1) | exact HB.out)) hb); have n2_ := Aside0.mk (hbox); have n3_ := Aside0.mk ((by rw [hg]; exact (below_size (by repeat (first | (with_reducible first | exact HB.out | apply below_alloc | apply pw_below_drewN | apply below_drew1) | exact HB.out))) : w.heap.size ≤ gb583)); have n4_ := Aside0.mk ((by rw [hg]; exact (below_size (by repeat (first | (with_reducible first | exact HB.out | apply below_alloc | apply pw_below_drewN | apply below_drew1) | exact HB.out))) : w.heap.size ≤ gb583)); clear HO_0; clear HB; have HO_0 := n0_; have HB := n1_; have BK583 := n2_; have GW583 := n3_; have GE583 := n4_; clear n0_ n1_ n2_ n3_ n4_; clear hb hbox hg; have hcz25_0 : w24.cell? ⟨gb583, 0, none⟩ = some (.int .i64 0) := (blk_cell BK583.out 0).trans rfl; have hcz25_1 : w24.cell? ⟨gb583, 1, none⟩ = some (.int .i64 0) := (blk_cell BK583.out 1).trans rfl; have hcz25_2 : w24.cell? ⟨gb583, 2, none⟩ = some (.int .i64 0) := (blk_cell BK583.out 2).trans rfl; have hcz25_3 : w24.cell? ⟨gb583, 3, none⟩ = some (.int .u64 0) := (blk_cell BK583.out 3).trans rfl; have hfz25_0 := blk_frozen BK583.out 0; have hfz25_1 := blk_frozen BK583.out 1; have hfz25_2 := blk_frozen BK583.out 2; have hfz25_3 := blk_frozen BK583.out 3) | (go_at_call 38; (with_reducible refine (timer_Drop.calls _ _ t577 ((rd_T52 t577 (ji17)).f1) ((rd_T52 t577 (ji17)).f2) t584 t585 _ ?side1 ?side2 A20.out).mono ?_); (case side1 => refine (Kd.R_reads' (e := 52) (base := w.heap.size) (ok := fun k_ => (True ∧ k_ ≠ gb583)) (n := t577.length) (c := co23) ?_).2.2; exact (by (with_reducible repeat (first | apply Kd.R_alloc | apply Kd.R_drewN | apply Kd.R_drew)); exact (Kd.R_mono (Kd.R_far (p := ⟨gb583, 3, none⟩) (Kd.R_far (p := ⟨gb583, 2, none⟩) (Kd.R_far (p := ⟨gb583, 1, none⟩) (Kd.R_far (p := ⟨gb583, 0, none⟩) (Kd.R_mono HO_0.out (fun k_ hk => (⟨hk, hk.2⟩ : _ ∧ k_ ≠ gb583))) (fun _ hk => hk.2) (.int .i64 ((rd_T52 t577 (ji17)).f0))) (fun _ hk => hk.2) (.int .i64 ((rd_T52 t577 (ji17)).f1))) (fun _ hk => hk.2) (.int .i64 ((rd_T52 t577 (ji17)).f2))) (fun _ hk => hk.2) (.int .u64 ((rd_T52 t577 (ji17)).f3))) (fun _ h_ => h_.1)))); (case side2 => exact (Kd.R_reads' HO_0.out).2.1); rintro e w26 ⟨v586, rfl, ho0, hb⟩; have n0_ := Aside0.mk (Kd.R_elder' (by (with_reducible repeat (first | apply Kd.R_alloc | apply Kd.R_drewN | apply Kd.R_drew)); exact (Kd.R_mono (Kd.R_far (p := ⟨gb583, 3, none⟩) (Kd.R_far (p := ⟨gb583, 2, none⟩) (Kd.R_far (p := ⟨gb583, 1, none⟩) (Kd.R_far (p := ⟨gb583, 0, none⟩) (Kd.R_mono HO_0.out (fun k_ hk => (⟨hk, hk.2⟩ : _ ∧ k_ ≠ gb583))) (fun _ hk => hk.2) (.int .i64 ((rd_T52 t577 (ji17)).f0))) (fun _ hk => hk.2) (.int .i64 ((rd_T52 t577 (ji17)).f1))) (fun _ hk => hk.2) (.int .i64 ((rd_T52 t577 (ji17)).f2))) (fun _ hk => hk.2) (.int .u64 ((rd_T52 t577 (ji17)).f3))) (fun _ h_ => h_.1))) (Kd.R_base ho0) hb); have n1_ := Aside0.mk (Kd.R_lower (Kd.R_newB (Kd.R_new' ho0 (Kd.R_lt (by (with_reducible repeat (first | apply Kd.R_alloc | apply Kd.R_drewN | apply Kd.R_drew)); exact (Kd.R_mono (Kd.R_far (p := ⟨gb583, 3, none⟩) (Kd.R_far (p := ⟨gb583, 2, none⟩) (Kd.R_far (p := ⟨gb583, 1, none⟩) (Kd.R_far (p := ⟨gb583, 0, none⟩) (Kd.R_mono HO_0.out (fun k_ hk => (⟨hk, hk.2⟩ : _ ∧ k_ ≠ gb583))) (fun _ hk => hk.2) (.int .i64 ((rd_T52 t577 (ji17)).f0))) (fun _ hk => hk.2) (.int .i64 ((rd_T52 t577 (ji17)).f1))) (fun _ hk => hk.2) (.int .i64 ((rd_T52 t577 (ji17)).f2))) (fun _ hk => hk.2) (.int .u64 ((rd_T52 t577 (ji17)).f3))) (fun _ h_ => h_.1))))) (g := gb583) (o := .cells #[.int .i64 ((rd_T52 t577 (ji17)).f0), .int .i64 ((rd_T52 t577 (ji17)).f1), .int .i64 ((rd_T52 t577 (ji17)).f2), .int .u64 ((rd_T52 t577 (ji17)).f3)] 52 (0, 0)) (by (with_reducible repeat (first | refine blk_drewN ?_ _ | refine blk_drew ?_ | refine blk_alloc ?_ _)); refine blk_put (cs := #[.int .i64 ((rd_T52 t577 (ji17)).f0), .int .i64 ((rd_T52 t577 (ji17)).f1), .int .i64 ((rd_T52 t577 (ji17)).f2), .int .u64 0]) ?_ 3 _ rfl; (with_reducible repeat (first | refine blk_drewN ?_ _ | refine blk_drew ?_ | refine blk_alloc ?_ _)); refine blk_put (cs := #[.int .i64 ((rd_T52 t577 (ji17)).f0), .int .i64 ((rd_T52 t577 (ji17)).f1), .int .i64 0, .int .u64 0]) ?_ 2 _ rfl; (with_reducible repeat (first | refine blk_drewN ?_ _ | refine blk_drew ?_ | refine blk_alloc ?_ _)); refine blk_put (cs := #[.int .i64 ((rd_T52 t577 (ji17)).f0), .int .i64 0, .int .i64 0, .int .u64 0]) ?_ 1 _ rfl; (with_reducible repeat (first | refine blk_drewN ?_ _ | refine blk_drew ?_ | refine blk_alloc ?_ _)); refine blk_put (cs := #[.int .i64 0, .int .i64 0, .int .i64 0, .int .u64 0]) ?_ 0 _ rfl; (with_reducible repeat (first | refine blk_drewN ?_ _ | refine blk_drew ?_ | refine blk_alloc ?_ _)); exact BK583.out)) (below_size (by repeat (first | (with_reducible first | exact HB.out | apply below_alloc | apply pw_below_drewN | apply below_drew1 | refine below_set ?_ GE583.out) | exact HB.out)))); have n2_ := Aside0.mk (blk_below (g := gb583) (o := .cells #[.int .i64 ((rd_T52 t577 (ji17)).f0), .int .i64 ((rd_T52 t577 (ji17)).f1), .int .i64 ((rd_T52 t577 (ji17)).f2), .int .u64 ((rd_T52 t577 (ji17)).f3)] 52 (0, 0)) (by (with_reducible repeat (first | refine blk_drewN ?_ _ | refine blk_drew ?_ | refine blk_alloc ?_ _)); refine blk_put (cs := #[.int .i64 ((rd_T52 t577 (ji17)).f0), .int .i64 ((rd_T52 t577 (ji17)).f1), .int .i64 ((rd_T52 t577 (ji17)).f2), .int .u64 0]) ?_ 3 _ rfl; (with_reducible repeat (first | refine blk_drewN ?_ _ | refine blk_drew ?_ | refine blk_alloc ?_ _)); refine blk_put (cs := #[.int .i64 ((rd_T52 t577 (ji17)).f0), .int .i64 ((rd_T52 t577 (ji17)).f1), .int .i64 0, .int .u64 0]) ?_ 2 _ rfl; (with_reducible repeat (first | refine blk_drewN ?_ _ | refine blk_drew ?_ | refine blk_alloc ?_ _)); refine blk_put (cs := #[.int .i64 ((rd_T52 t577 (ji17)).f0), .int .i64 0, .int .i64 0, .int .u64 0]) ?_ 1 _ rfl; (with_reducible repeat (first | refine blk_drewN ?_ _ | refine blk_drew ?_ | refine blk_alloc ?_ _)); refine blk_put (cs := #[.int .i64 0, .int .i64 0, .int .i64 0, .int .u64 0]) ?_ 0 _ rfl; (with_reducible repeat (first | refine blk_drewN ?_ _ | refine blk_drew ?_ | refine blk_alloc ?_ _)); exact BK583.out) hb); have n3_ := Aside0.mk (below_step (by repeat (first | (with_reducible first | exact HB.out | apply below_alloc | apply pw_below_drewN | apply below_drew1 | refine below_set ?_ GE583.out) | exact HB.out)) hb); clear HO_0; clear BK583; clear HB; have HO_0 := n0_; have HO587 := n1_; have BK583 := n2_; have HB := n3_; clear n0_ n1_ n2_ n3_; (try clear hb); (try clear hb2); (try clear hk); (try clear hi); (try clear ho0); have hcz27_0 : w26.cell? ⟨gb583, 0, none⟩ = some (.int .i64 ((rd_T52 t577 (ji17)).f0)) := (blk_cell BK583.out 0).trans rfl; have hcz27_1 : w26.cell? ⟨gb583, 1, none⟩ = some (.int .i64 ((rd_T52 t577 (ji17)).f1)) := (blk_cell BK583.out 1).trans rfl; have hcz27_2 : w26.cell? ⟨gb583, 2, none⟩ = some (.int .i64 ((rd_T52 t577 (ji17)).f2)) := (blk_cell BK583.out 2).trans rfl; have hcz27_3 : w26.cell? ⟨gb583, 3, none⟩ = some (.int .u64 ((rd_T52 t577 (ji17)).f3)) := (blk_cell BK583.out 3).trans rfl; have hfz27_0 := blk_frozen BK583.out 0; have hfz27_1 := blk_frozen BK583.out 1; have hfz27_2 := blk_frozen BK583.out 2; have hfz27_3 := blk_frozen BK583.out 3; obtain ⟨Ao28, co28, eo28⟩ := Kd.R_slice HO587.out; subst eo28) | (go_at_call 38; (with_reducible refine (timer_Drop.calls _ _ t584 ((rd_T52 t577 (ji17)).f1) ((rd_T52 t577 (ji17)).f2) t588 t589 _ ?side1 ?side2 A21.out).mono ?_); (case side1 => repeat (first | exact (Kd.R_reads' HO587.out).2.2 | (with_reducible refine Kd.C_alloc ?_ _) | (with_reducible refine Kd.C_drewN ?_ _) | (with_reducible refine Kd.C_drew ?_))); (case side2 => exact (Kd.R_reads' HO587.out).2.1); rintro e w29 ⟨v590, rfl, ho0, hb⟩; have n0_ := Aside0.mk (Kd.R_elder' (by (with_reducible repeat (first | apply Kd.R_alloc | apply Kd.R_drewN | apply Kd.R_drew)); exact HO_0.out) (Kd.R_base ho0) hb); have n1_ := Aside0.mk (Kd.R_elder' (by (with_reducible repeat (first | apply Kd.R_alloc | apply Kd.R_drewN | apply Kd.R_drew)); exact HO587.out) (Kd.R_base ho0) hb); have n2_ := Aside0.mk (Kd.R_lower (Kd.R_newB (Kd.R_new' (Kd.R_new' ho0 (Kd.R_lt (by (with_reducible repeat (first | apply Kd.R_alloc | apply Kd.R_drewN | apply Kd.R_drew)); exact HO_0.out))) (Kd.R_lt (by (with_reducible repeat (first | apply Kd.R_alloc | apply Kd.R_drewN | apply Kd.R_drew)); exact HO587.out))) (g := gb583) (o := .cells #[.int .i64 ((rd_T52 t577 (ji17)).f0), .int .i64 ((rd_T52 t577 (ji17)).f1), .int .i64 ((rd_T52 t577 (ji17)).f2), .int .u64 ((rd_T52 t577 (ji17)).f3)] 52 (0, 0)) (by (with_reducible repeat (first | refine blk_drewN ?_ _ | refine blk_drew ?_ | refine blk_alloc ?_ _)); exact BK583.out)) (below_size (by repeat (first | (with_reducible first | exact HB.out | apply below_alloc | apply pw_below_drewN | apply below_drew1 | refine below_set ?_ GE583.out) | exact HB.out)))); have n3_ := Aside0.mk (blk_below (g := gb583) (o := .cells #[.int .i64 ((rd_T52 t577 (ji17)).f0), .int .i64 ((rd_T52 t577 (ji17)).f1), .int .i64 ((rd_T52 t577 (ji17)).f2), .int .u64 ((rd_T52 t577 (ji17)).f3)] 52 (0, 0)) (by (with_reducible repeat (first | refine blk_drewN ?_ _ | refine blk_drew ?_ | refine blk_alloc ?_ _)); exact BK583.out) hb); have n4_ := Aside0.mk (below_step (by repeat (first | (with_reducible first | exact HB.out | apply below_alloc | apply pw_below_drewN | apply below_drew1 | refine below_set ?_ GE583.out) | exact HB.out)) hb); clear HO_0; clear HO587; clear BK583; clear HB; have HO_0 := n0_; have HO587 := n1_; have HO591 := n2_; have BK583 := n3_; have HB := n4_; clear n0_ n1_ n2_ n3_ n4_; (try clear hb); (try clear hb2); (try clear hk); (try clear hi); (try clear ho0))); go_upto_region 7 with (first | ((with_reducible refine gate_dst (N := 6) rfl ?_); (try (refine gate_guard (by rfl) ?_; dsimp only)); refine box_event ?hg (N := 6) ?hd (cs := #[.int .i64 0, .int .i64 0, .int .i64 0, .int .u64 0]) (t := 52) ?hr ?_; (case hd => rfl); (case hg => rfl); (case hr => first | (go_simp; done) | (go_simp; rfl)); intro gb583 hg w24 hbox hb; have n0_ := Aside0.mk (Kd.R_below (Kd.R_elderB (by (with_reducible repeat (first | apply Kd.R_alloc | apply Kd.R_drewN | apply Kd.R_drew)); exact HO_0.out) gb583 (Nat.le_of_eq hg.symm)) hb); have n1_ := Aside0.mk (below_step (by repeat (first | (with_reducible first | exact HB.out | apply below_alloc | apply pw_below_drewN | apply below_drew1) | exact HB.out)) hb); have n2_ := Aside0.mk (hbox); have n3_ := Aside0.mk ((by rw [hg]; exact (below_size (by repeat (first | (with_reducible first | exact HB.out | apply below_alloc | apply pw_below_drewN | apply below_drew1) | exact HB.out))) : w.heap.size ≤ gb583)); have n4_ := Aside0.mk ((by rw [hg]; exact (below_size (by repeat (first | (with_reducible first | exact HB.out | apply below_alloc | apply pw_below_drewN | apply below_drew1) | exact HB.out))) : w.heap.size ≤ gb583)); clear HO_0; clear HB; have HO_0 := n0_; have HB := n1_; have BK583 := n2_; have GW583 := n3_; have GE583 := n4_; clear n0_ n1_ n2_ n3_ n4_; clear hb hbox hg; have hcz25_0 : w24.cell? ⟨gb583, 0, none⟩ = some (.int .i64 0) := (blk_cell BK583.out 0).trans rfl; have hcz25_1 : w24.cell? ⟨gb583, 1, none⟩ = some (.int .i64 0) := (blk_cell BK583.out 1).trans rfl; have hcz25_2 : w24.cell? ⟨gb583, 2, none⟩ = some (.int .i64 0) := (blk_cell BK583.out 2).trans rfl; have hcz25_3 : w24.cell? ⟨gb583, 3, none⟩ = some (.int .u64 0) := (blk_cell BK583.out 3).trans rfl; have hfz25_0 := blk_frozen BK583.out 0; have hfz25_1 := blk_frozen BK583.out 1; have hfz25_2 := blk_frozen BK583.out 2; have hfz25_3 := blk_frozen BK583.out 3) | (go_at_call 38; (with_reducible refine (timer_Drop.calls _ _ t577 ((rd_T52 t577 (ji17)).f1) ((rd_T52 t577 (ji17)).f2) t584 t585 _ ?side1 ?side2 A20.out).mono ?_); (case side1 => refine (Kd.R_reads' (e := 52) (base := w.heap.size) (ok := fun k_ => (True ∧ k_ ≠ gb583)) (n := t577.length) (c := co23) ?_).2.2; exact (by (with_reducible repeat (first | apply Kd.R_alloc | apply Kd.R_drewN | apply Kd.R_drew)); exact (Kd.R_mono (Kd.R_far (p := ⟨gb583, 3, none⟩) (Kd.R_far (p := ⟨gb583, 2, none⟩) (Kd.R_far (p := ⟨gb583, 1, none⟩) (Kd.R_far (p := ⟨gb583, 0, none⟩) (Kd.R_mono HO_0.out (fun k_ hk => (⟨hk, hk.2⟩ : _ ∧ k_ ≠ gb583))) (fun _ hk => hk.2) (.int .i64 ((rd_T52 t577 (ji17)).f0))) (fun _ hk => hk.2) (.int .i64 ((rd_T52 t577 (ji17)).f1))) (fun _ hk => hk.2) (.int .i64 ((rd_T52 t577 (ji17)).f2))) (fun _ hk => hk.2) (.int .u64 ((rd_T52 t577 (ji17)).f3))) (fun _ h_ => h_.1)))); (case side2 => exact (Kd.R_reads' HO_0.out).2.1); rintro e w26 ⟨v586, rfl, ho0, hb⟩; have n0_ := Aside0.mk (Kd.R_elder' (by (with_reducible repeat (first | apply Kd.R_alloc | apply Kd.R_drewN | apply Kd.R_drew)); exact (Kd.R_mono (Kd.R_far (p := ⟨gb583, 3, none⟩) (Kd.R_far (p := ⟨gb583, 2, none⟩) (Kd.R_far (p := ⟨gb583, 1, none⟩) (Kd.R_far (p := ⟨gb583, 0, none⟩) (Kd.R_mono HO_0.out (fun k_ hk => (⟨hk, hk.2⟩ : _ ∧ k_ ≠ gb583))) (fun _ hk => hk.2) (.int .i64 ((rd_T52 t577 (ji17)).f0))) (fun _ hk => hk.2) (.int .i64 ((rd_T52 t577 (ji17)).f1))) (fun _ hk => hk.2) (.int .i64 ((rd_T52 t577 (ji17)).f2))) (fun _ hk => hk.2) (.int .u64 ((rd_T52 t577 (ji17)).f3))) (fun _ h_ => h_.1))) (Kd.R_base ho0) hb); have n1_ := Aside0.mk (Kd.R_lower (Kd.R_newB (Kd.R_new' ho0 (Kd.R_lt (by (with_reducible repeat (first | apply Kd.R_alloc | apply Kd.R_drewN | apply Kd.R_drew)); exact (Kd.R_mono (Kd.R_far (p := ⟨gb583, 3, none⟩) (Kd.R_far (p := ⟨gb583, 2, none⟩) (Kd.R_far (p := ⟨gb583, 1, none⟩) (Kd.R_far (p := ⟨gb583, 0, none⟩) (Kd.R_mono HO_0.out (fun k_ hk => (⟨hk, hk.2⟩ : _ ∧ k_ ≠ gb583))) (fun _ hk => hk.2) (.int .i64 ((rd_T52 t577 (ji17)).f0))) (fun _ hk => hk.2) (.int .i64 ((rd_T52 t577 (ji17)).f1))) (fun _ hk => hk.2) (.int .i64 ((rd_T52 t577 (ji17)).f2))) (fun _ hk => hk.2) (.int .u64 ((rd_T52 t577 (ji17)).f3))) (fun _ h_ => h_.1))))) (g := gb583) (o := .cells #[.int .i64 ((rd_T52 t577 (ji17)).f0), .int .i64 ((rd_T52 t577 (ji17)).f1), .int .i64 ((rd_T52 t577 (ji17)).f2), .int .u64 ((rd_T52 t577 (ji17)).f3)] 52 (0, 0)) (by (with_reducible repeat (first | refine blk_drewN ?_ _ | refine blk_drew ?_ | refine blk_alloc ?_ _)); refine blk_put (cs := #[.int .i64 ((rd_T52 t577 (ji17)).f0), .int .i64 ((rd_T52 t577 (ji17)).f1), .int .i64 ((rd_T52 t577 (ji17)).f2), .int .u64 0]) ?_ 3 _ rfl; (with_reducible repeat (first | refine blk_drewN ?_ _ | refine blk_drew ?_ | refine blk_alloc ?_ _)); refine blk_put (cs := #[.int .i64 ((rd_T52 t577 (ji17)).f0), .int .i64 ((rd_T52 t577 (ji17)).f1), .int .i64 0, .int .u64 0]) ?_ 2 _ rfl; (with_reducible repeat (first | refine blk_drewN ?_ _ | refine blk_drew ?_ | refine blk_alloc ?_ _)); refine blk_put (cs := #[.int .i64 ((rd_T52 t577 (ji17)).f0), .int .i64 0, .int .i64 0, .int .u64 0]) ?_ 1 _ rfl; (with_reducible repeat (first | refine blk_drewN ?_ _ | refine blk_drew ?_ | refine blk_alloc ?_ _)); refine blk_put (cs := #[.int .i64 0, .int .i64 0, .int .i64 0, .int .u64 0]) ?_ 0 _ rfl; (with_reducible repeat (first | refine blk_drewN ?_ _ | refine blk_drew ?_ | refine blk_alloc ?_ _)); exact BK583.out)) (below_size (by repeat (first | (with_reducible first | exact HB.out | apply below_alloc | apply pw_below_drewN | apply below_drew1 | refine below_set ?_ GE583.out) | exact HB.out)))); have n2_ := Aside0.mk (blk_below (g := gb583) (o := .cells #[.int .i64 ((rd_T52 t577 (ji17)).f0), .int .i64 ((rd_T52 t577 (ji17)).f1), .int .i64 ((rd_T52 t577 (ji17)).f2), .int .u64 ((rd_T52 t577 (ji17)).f3)] 52 (0, 0)) (by (with_reducible repeat (first | refine blk_drewN ?_ _ | refine blk_drew ?_ | refine blk_alloc ?_ _)); refine blk_put (cs := #[.int .i64 ((rd_T52 t577 (ji17)).f0), .int .i64 ((rd_T52 t577 (ji17)).f1), .int .i64 ((rd_T52 t577 (ji17)).f2), .int .u64 0]) ?_ 3 _ rfl; (with_reducible repeat (first | refine blk_drewN ?_ _ | refine blk_drew ?_ | refine blk_alloc ?_ _)); refine blk_put (cs := #[.int .i64 ((rd_T52 t577 (ji17)).f0), .int .i64 ((rd_T52 t577 (ji17)).f1), .int .i64 0, .int .u64 0]) ?_ 2 _ rfl; (with_reducible repeat (first | refine blk_drewN ?_ _ | refine blk_drew ?_ | refine blk_alloc ?_ _)); refine blk_put (cs := #[.int .i64 ((rd_T52 t577 (ji17)).f0), .int .i64 0, .int .i64 0, .int .u64 0]) ?_ 1 _ rfl; (with_reducible repeat (first | refine blk_drewN ?_ _ | refine blk_drew ?_ | refine blk_alloc ?_ _)); refine blk_put (cs := #[.int .i64 0, .int .i64 0, .int .i64 0, .int .u64 0]) ?_ 0 _ rfl; (with_reducible repeat (first | refine blk_drewN ?_ _ | refine blk_drew ?_ | refine blk_alloc ?_ _)); exact BK583.out) hb); have n3_ := Aside0.mk (below_step (by repeat (first | (with_reducible first | exact HB.out | apply below_alloc | apply pw_below_drewN | apply below_drew1 | refine below_set ?_ GE583.out) | exact HB.out)) hb); clear HO_0; clear BK583; clear HB; have HO_0 := n0_; have HO587 := n1_; have BK583 := n2_; have HB := n3_; clear n0_ n1_ n2_ n3_; (try clear hb); (try clear hb2); (try clear hk); (try clear hi); (try clear ho0); have hcz27_0 : w26.cell? ⟨gb583, 0, none⟩ = some (.int .i64 ((rd_T52 t577 (ji17)).f0)) := (blk_cell BK583.out 0).trans rfl; have hcz27_1 : w26.cell? ⟨gb583, 1, none⟩ = some (.int .i64 ((rd_T52 t577 (ji17)).f1)) := (blk_cell BK583.out 1).trans rfl; have hcz27_2 : w26.cell? ⟨gb583, 2, none⟩ = some (.int .i64 ((rd_T52 t577 (ji17)).f2)) := (blk_cell BK583.out 2).trans rfl; have hcz27_3 : w26.cell? ⟨gb583, 3, none⟩ = some (.int .u64 ((rd_T52 t577 (ji17)).f3)) := (blk_cell BK583.out 3).trans rfl; have hfz27_0 := blk_frozen BK583.out 0; have hfz27_1 := blk_frozen BK583.out 1; have hfz27_2 := blk_frozen BK583.out 2; have hfz27_3 := blk_frozen BK583.out 3; obtain ⟨Ao28, co28, eo28⟩ := Kd.R_slice HO587.out; subst eo28) | (go_at_call 38; (with_reducible refine (timer_Drop.calls _ _ t584 ((rd_T52 t577 (ji17)).f1) ((rd_T52 t577 (ji17)).f2) t588 t589 _ ?side1 ?side2 A21.out).mono ?_); (case side1 => repeat (first | exact (Kd.R_reads' HO587.out).2.2 | (with_reducible refine Kd.C_alloc ?_ _) | (with_reducible refine Kd.C_drewN ?_ _) | (with_reducible refine Kd.C_drew ?_))); (case side2 => exact (Kd.R_reads' HO587.out).2.1); rintro e w29 ⟨v590, rfl, ho0, hb⟩; have n0_ := Aside0.mk (Kd.R_elder' (by (with_reducible repeat (first | apply Kd.R_alloc | apply Kd.R_drewN | apply Kd.R_drew)); exact HO_0.out) (Kd.R_base ho0) hb); have n1_ := Aside0.mk (Kd.R_elder' (by (with_reducible repeat (first | apply Kd.R_alloc | apply Kd.R_drewN | apply Kd.R_drew)); exact HO587.out) (Kd.R_base ho0) hb); have n2_ := Aside0.mk (Kd.R_lower (Kd.R_newB (Kd.R_new' (Kd.R_new' ho0 (Kd.R_lt (by (with_reducible repeat (first | apply Kd.R_alloc | apply Kd.R_drewN | apply Kd.R_drew)); exact HO_0.out))) (Kd.R_lt (by (with_reducible repeat (first | apply Kd.R_alloc | apply Kd.R_drewN | apply Kd.R_drew)); exact HO587.out))) (g := gb583) (o := .cells #[.int .i64 ((rd_T52 t577 (ji17)).f0), .int .i64 ((rd_T52 t577 (ji17)).f1), .int .i64 ((rd_T52 t577 (ji17)).f2), .int .u64 ((rd_T52 t577 (ji17)).f3)] 52 (0, 0)) (by (with_reducible repeat (first | refine blk_drewN ?_ _ | refine blk_drew ?_ | refine blk_alloc ?_ _)); exact BK583.out)) (below_size (by repeat (first | (with_reducible first | exact HB.out | apply below_alloc | apply pw_below_drewN | apply below_drew1 | refine below_set ?_ GE583.out) | exact HB.out)))); have n3_ := Aside0.mk (blk_below (g := gb583) (o := .cells #[.int .i64 ((rd_T52 t577 (ji17)).f0), .int .i64 ((rd_T52 t577 (ji17)).f1), .int .i64 ((rd_T52 t577 (ji17)).f2), .int .u64 ((rd_T52 t577 (ji17)).f3)] 52 (0, 0)) (by (with_reducible repeat (first | refine blk_drewN ?_ _ | refine blk_drew ?_ | refine blk_alloc ?_ _)); exact BK583.out) hb); have n4_ := Aside0.mk (below_step (by repeat (first | (with_reducible first | exact HB.out | apply below_alloc | apply pw_below_drewN | apply below_drew1 | refine below_set ?_ GE583.out) | exact HB.out)) hb); clear HO_0; clear HO587; clear BK583; clear HB; have HO_0 := n0_; have HO587 := n1_; have HO591 := n2_; have BK583 := n3_; have HB := n4_; clear n0_ n1_ n2_ n3_ n4_; (try clear hb); (try clear hb2); (try clear hk); (try clear hi); (try clear ho0))))
              (try simp only [Act.put, List.setIfInBounds_toArray, List.set_cons_zero, List.set_cons_succ])
              go_cut [76] (fun v76 wc => ∃ (kq : Nat) (x76_21 : Bool), v76 = .bool x76_21 ∧ Aside0 (tattlelaw03_TimerDrops.j1 kq t577 t584 x76_21 ((rd_T52 t577 (ji17)).f0) ((rd_T52 t577 (ji17)).f1) ((rd_T52 t577 (ji17)).f2) ((rd_T52 t577 (ji17)).f3) = some r) ∧ Aside0 (kq ≤ kj4) ∧ Aside0 (Kd.R k52 52 wc w.heap.size (fun k_ => some k_ ≠ ((.slice Ao28 t584.length co28) : Value).ownBlock ∧ k_ ≠ gb583) (.slice (some ad582) t577.length co23) t577) ∧ Aside0 (Kd.R k52 52 wc w.heap.size (fun k_ => some k_ ≠ ((.slice (some ad582) t577.length co23) : Value).ownBlock ∧ k_ ≠ gb583) (.slice Ao28 t584.length co28) t584) ∧ Aside0 (wc.heap[gb583]? = some (.cells #[.int .i64 ((rd_T52 t577 (ji17)).f0), .int .i64 ((rd_T52 t577 (ji17)).f1), .int .i64 ((rd_T52 t577 (ji17)).f2), .int .u64 ((rd_T52 t577 (ji17)).f3)] 52 (0, 0))) ∧ Aside0 (Below w.heap.size w wc))
              case first =>
                have H := HC22.out
                clear HC22
                by_cases c30 : t585 = 0
                · rw [if_pos c30] at H
                  have c30b0 : (t585 == 0) = true := beq_iff_eq.mpr c30
                  have c30b1 : (t585 != 0) = false := bne_eq_false_iff_eq.mpr c30
                  clear c30
                  (first | rw [c30b0] | (simp only [i64_w, i32_w]; rw [c30b0]) | skip)
                  by_cases c31 : t589 = 0
                  · rw [if_pos c31] at H
                    have c31b0 : (t589 == 0) = true := beq_iff_eq.mpr c31
                    have c31b1 : (t589 != 0) = false := bne_eq_false_iff_eq.mpr c31
                    clear c31
                    replace H := Option.bind_eq_some_iff.mp H
                    obtain ⟨t592, A320, H⟩ := H
                    replace H : (if t592 = true then (tattlelaw03_TimerDrops.j1 kj4 t577 t584 (decide ((t584.length : Int) ≥ (t577.length : Int))) ((rd_T52 t577 (ji17)).f0) ((rd_T52 t577 (ji17)).f1) ((rd_T52 t577 (ji17)).f2) ((rd_T52 t577 (ji17)).f3)) else (tattlelaw03_TimerDrops.j1 kj4 t577 t584 true ((rd_T52 t577 (ji17)).f0) ((rd_T52 t577 (ji17)).f1) ((rd_T52 t577 (ji17)).f2) ((rd_T52 t577 (ji17)).f3))) = some r := H
                    have A32 := Aside0.mk A320
                    clear A320
                    by_cases c33 : t592 = true
                    · subst c33
                      have H1 : (tattlelaw03_TimerDrops.j1 kj4 t577 t584 (decide ((t584.length : Int) ≥ (t577.length : Int))) ((rd_T52 t577 (ji17)).f0) ((rd_T52 t577 (ji17)).f1) ((rd_T52 t577 (ji17)).f2) ((rd_T52 t577 (ji17)).f3)) = some r := by rw [if_pos rfl] at H; exact H
                      clear H
                      have H := H1
                      clear H1
                      have H' := Aside0.mk H
                      clear H
                      obtain ⟨Ao34, co34, eo34⟩ := Kd.R_slice HO591.out
                      subst eo34
                      go_wp2_with (first | (go_at_call 28; (with_reducible refine (tattleref03_Same.calls kj4 _ _ t584 _ _ t588 true _ ?side1 ?side2 ?side3 ?side4 A32.out).mono ?_); (case side1 => repeat (first | exact (Kd.R_reads' HO587.out).2.2 | (with_reducible refine Kd.C_alloc ?_ _) | (with_reducible refine Kd.C_drewN ?_ _) | (with_reducible refine Kd.C_drew ?_))); (case side2 => exact (Kd.R_reads' HO587.out).2.1); (case side3 => repeat (first | exact (Kd.R_reads' HO591.out).2.2 | (with_reducible refine Kd.C_alloc ?_ _) | (with_reducible refine Kd.C_drewN ?_ _) | (with_reducible refine Kd.C_drew ?_))); (case side4 => exact (Kd.R_reads' HO591.out).2.1); rintro e w' ⟨rfl, ⟨nd, rfl⟩⟩; (try first | exact ⟨rfl, _, World.drewN_drewN _ _ _⟩ | exact ⟨rfl, _, Eq.trans (World.drewN_drewN _ _ _) (congrArg (World.drewN _) (Nat.add_assoc _ _ _))⟩)))
                      repeat (go_quiet (first | (go_at_call 28; (with_reducible refine (tattleref03_Same.calls kj4 _ _ t584 _ _ t588 true _ ?side1 ?side2 ?side3 ?side4 A32.out).mono ?_); (case side1 => repeat (first | exact (Kd.R_reads' HO587.out).2.2 | (with_reducible refine Kd.C_alloc ?_ _) | (with_reducible refine Kd.C_drewN ?_ _) | (with_reducible refine Kd.C_drew ?_))); (case side2 => exact (Kd.R_reads' HO587.out).2.1); (case side3 => repeat (first | exact (Kd.R_reads' HO591.out).2.2 | (with_reducible refine Kd.C_alloc ?_ _) | (with_reducible refine Kd.C_drewN ?_ _) | (with_reducible refine Kd.C_drew ?_))); (case side4 => exact (Kd.R_reads' HO591.out).2.1); rintro e w' ⟨rfl, ⟨nd, rfl⟩⟩; (try first | exact ⟨rfl, _, World.drewN_drewN _ _ _⟩ | exact ⟨rfl, _, Eq.trans (World.drewN_drewN _ _ _) (congrArg (World.drewN _) (Nat.add_assoc _ _ _))⟩))); try go_wp2_with (first | (go_at_call 28; (with_reducible refine (tattleref03_Same.calls kj4 _ _ t584 _ _ t588 true _ ?side1 ?side2 ?side3 ?side4 A32.out).mono ?_); (case side1 => repeat (first | exact (Kd.R_reads' HO587.out).2.2 | (with_reducible refine Kd.C_alloc ?_ _) | (with_reducible refine Kd.C_drewN ?_ _) | (with_reducible refine Kd.C_drew ?_))); (case side2 => exact (Kd.R_reads' HO587.out).2.1); (case side3 => repeat (first | exact (Kd.R_reads' HO591.out).2.2 | (with_reducible refine Kd.C_alloc ?_ _) | (with_reducible refine Kd.C_drewN ?_ _) | (with_reducible refine Kd.C_drew ?_))); (case side4 => exact (Kd.R_reads' HO591.out).2.1); rintro e w' ⟨rfl, ⟨nd, rfl⟩⟩; (try first | exact ⟨rfl, _, World.drewN_drewN _ _ _⟩ | exact ⟨rfl, _, Eq.trans (World.drewN_drewN _ _ _) (congrArg (World.drewN _) (Nat.add_assoc _ _ _))⟩))))
                      go_meet
                      case rel => exact ⟨_, (decide ((t584.length : Int) ≥ (t577.length : Int))), (by first | rfl | (simp; done) | (simp [*]; done)), H', ⟨by have := HJ4.out; first | omega | exact Nat.le_refl _⟩, ⟨by (with_reducible repeat (first | apply Kd.R_alloc | apply Kd.R_drewN | apply Kd.R_drew)); exact Kd.R_mono HO_0.out (fun _ hk => ⟨hk.1.2, hk.1.1.2⟩)⟩, ⟨by (with_reducible repeat (first | apply Kd.R_alloc | apply Kd.R_drewN | apply Kd.R_drew)); exact Kd.R_mono HO587.out (fun _ hk => ⟨hk.1.1.2, hk.1.2⟩)⟩, ⟨by (with_reducible repeat (first | refine blk_drewN ?_ _ | refine blk_drew ?_ | refine blk_alloc ?_ _)); exact BK583.out⟩, ⟨by repeat (first | (with_reducible first | exact HB.out | apply below_alloc | apply pw_below_drewN | apply below_drew1 | refine below_set ?_ GE583.out) | exact HB.out)⟩⟩
                    · replace c33 := Bool.eq_false_iff.mpr c33
                      subst c33
                      have H1 : (tattlelaw03_TimerDrops.j1 kj4 t577 t584 true ((rd_T52 t577 (ji17)).f0) ((rd_T52 t577 (ji17)).f1) ((rd_T52 t577 (ji17)).f2) ((rd_T52 t577 (ji17)).f3)) = some r := by rw [if_neg (show ¬ (false = true) by decide)] at H; exact H
                      clear H
                      have H := H1
                      clear H1
                      have H' := Aside0.mk H
                      clear H
                      obtain ⟨Ao35, co35, eo35⟩ := Kd.R_slice HO591.out
                      subst eo35
                      go_wp2_with (first | (go_at_call 28; (with_reducible refine (tattleref03_Same.calls kj4 _ _ t584 _ _ t588 false _ ?side1 ?side2 ?side3 ?side4 A32.out).mono ?_); (case side1 => repeat (first | exact (Kd.R_reads' HO587.out).2.2 | (with_reducible refine Kd.C_alloc ?_ _) | (with_reducible refine Kd.C_drewN ?_ _) | (with_reducible refine Kd.C_drew ?_))); (case side2 => exact (Kd.R_reads' HO587.out).2.1); (case side3 => repeat (first | exact (Kd.R_reads' HO591.out).2.2 | (with_reducible refine Kd.C_alloc ?_ _) | (with_reducible refine Kd.C_drewN ?_ _) | (with_reducible refine Kd.C_drew ?_))); (case side4 => exact (Kd.R_reads' HO591.out).2.1); rintro e w' ⟨rfl, ⟨nd, rfl⟩⟩; (try first | exact ⟨rfl, _, World.drewN_drewN _ _ _⟩ | exact ⟨rfl, _, Eq.trans (World.drewN_drewN _ _ _) (congrArg (World.drewN _) (Nat.add_assoc _ _ _))⟩)))
                      repeat (go_quiet (first | (go_at_call 28; (with_reducible refine (tattleref03_Same.calls kj4 _ _ t584 _ _ t588 false _ ?side1 ?side2 ?side3 ?side4 A32.out).mono ?_); (case side1 => repeat (first | exact (Kd.R_reads' HO587.out).2.2 | (with_reducible refine Kd.C_alloc ?_ _) | (with_reducible refine Kd.C_drewN ?_ _) | (with_reducible refine Kd.C_drew ?_))); (case side2 => exact (Kd.R_reads' HO587.out).2.1); (case side3 => repeat (first | exact (Kd.R_reads' HO591.out).2.2 | (with_reducible refine Kd.C_alloc ?_ _) | (with_reducible refine Kd.C_drewN ?_ _) | (with_reducible refine Kd.C_drew ?_))); (case side4 => exact (Kd.R_reads' HO591.out).2.1); rintro e w' ⟨rfl, ⟨nd, rfl⟩⟩; (try first | exact ⟨rfl, _, World.drewN_drewN _ _ _⟩ | exact ⟨rfl, _, Eq.trans (World.drewN_drewN _ _ _) (congrArg (World.drewN _) (Nat.add_assoc _ _ _))⟩))); try go_wp2_with (first | (go_at_call 28; (with_reducible refine (tattleref03_Same.calls kj4 _ _ t584 _ _ t588 false _ ?side1 ?side2 ?side3 ?side4 A32.out).mono ?_); (case side1 => repeat (first | exact (Kd.R_reads' HO587.out).2.2 | (with_reducible refine Kd.C_alloc ?_ _) | (with_reducible refine Kd.C_drewN ?_ _) | (with_reducible refine Kd.C_drew ?_))); (case side2 => exact (Kd.R_reads' HO587.out).2.1); (case side3 => repeat (first | exact (Kd.R_reads' HO591.out).2.2 | (with_reducible refine Kd.C_alloc ?_ _) | (with_reducible refine Kd.C_drewN ?_ _) | (with_reducible refine Kd.C_drew ?_))); (case side4 => exact (Kd.R_reads' HO591.out).2.1); rintro e w' ⟨rfl, ⟨nd, rfl⟩⟩; (try first | exact ⟨rfl, _, World.drewN_drewN _ _ _⟩ | exact ⟨rfl, _, Eq.trans (World.drewN_drewN _ _ _) (congrArg (World.drewN _) (Nat.add_assoc _ _ _))⟩))))
                      go_meet
                      case rel => exact ⟨_, (true), (by first | rfl | (simp; done) | (simp [*]; done)), H', ⟨by have := HJ4.out; first | omega | exact Nat.le_refl _⟩, ⟨by (with_reducible repeat (first | apply Kd.R_alloc | apply Kd.R_drewN | apply Kd.R_drew)); exact Kd.R_mono HO_0.out (fun _ hk => ⟨hk.1.2, hk.1.1.2⟩)⟩, ⟨by (with_reducible repeat (first | apply Kd.R_alloc | apply Kd.R_drewN | apply Kd.R_drew)); exact Kd.R_mono HO587.out (fun _ hk => ⟨hk.1.1.2, hk.1.2⟩)⟩, ⟨by (with_reducible repeat (first | refine blk_drewN ?_ _ | refine blk_drew ?_ | refine blk_alloc ?_ _)); exact BK583.out⟩, ⟨by repeat (first | (with_reducible first | exact HB.out | apply below_alloc | apply pw_below_drewN | apply below_drew1 | refine below_set ?_ GE583.out) | exact HB.out)⟩⟩
                  · rw [if_neg c31] at H
                    have c31b0 : (t589 == 0) = false := beq_eq_false_iff_ne.mpr c31
                    have c31b1 : (t589 != 0) = true := bne_iff_ne.mpr c31
                    have H' := Aside0.mk H
                    clear H
                    go_wp2
                    repeat (go_quiet (fail); try go_wp2)
                    go_meet
                    case rel => exact ⟨_, (true), (by first | rfl | (simp; done) | (simp [*]; done)), H', ⟨by have := HJ4.out; first | omega | exact Nat.le_refl _⟩, ⟨by (with_reducible repeat (first | apply Kd.R_alloc | apply Kd.R_drewN | apply Kd.R_drew)); exact Kd.R_mono HO_0.out (fun _ hk => ⟨hk.1.2, hk.1.1.2⟩)⟩, ⟨by (with_reducible repeat (first | apply Kd.R_alloc | apply Kd.R_drewN | apply Kd.R_drew)); exact Kd.R_mono HO587.out (fun _ hk => ⟨hk.1.1.2, hk.1.2⟩)⟩, ⟨by (with_reducible repeat (first | refine blk_drewN ?_ _ | refine blk_drew ?_ | refine blk_alloc ?_ _)); exact BK583.out⟩, ⟨by repeat (first | (with_reducible first | exact HB.out | apply below_alloc | apply pw_below_drewN | apply below_drew1 | refine below_set ?_ GE583.out) | exact HB.out)⟩⟩
                · rw [if_neg c30] at H
                  have c30b0 : (t585 == 0) = false := beq_eq_false_iff_ne.mpr c30
                  have c30b1 : (t585 != 0) = true := bne_iff_ne.mpr c30
                  (first | rw [c30b0] | (simp only [i64_w, i32_w]; rw [c30b0]) | skip)
                  have H' := Aside0.mk H
                  clear H
                  go_wp2
                  repeat (go_quiet (fail); try go_wp2)
                  go_meet
                  case rel => exact ⟨_, (true), (by first | rfl | (simp; done) | (simp [*]; done)), H', ⟨by have := HJ4.out; first | omega | exact Nat.le_refl _⟩, ⟨by (with_reducible repeat (first | apply Kd.R_alloc | apply Kd.R_drewN | apply Kd.R_drew)); exact Kd.R_mono HO_0.out (fun _ hk => ⟨hk.1.2, hk.1.1.2⟩)⟩, ⟨by (with_reducible repeat (first | apply Kd.R_alloc | apply Kd.R_drewN | apply Kd.R_drew)); exact Kd.R_mono HO587.out (fun _ hk => ⟨hk.1.1.2, hk.1.2⟩)⟩, ⟨by (with_reducible repeat (first | refine blk_drewN ?_ _ | refine blk_drew ?_ | refine blk_alloc ?_ _)); exact BK583.out⟩, ⟨by repeat (first | (with_reducible first | exact HB.out | apply below_alloc | apply pw_below_drewN | apply below_drew1 | refine below_set ?_ GE583.out) | exact HB.out)⟩⟩
              case rest =>
                clear HC22
                try clear c1
                try clear p2
                try clear c3
                try clear p5
                try clear q5
                try clear hx5
                try clear p6
                try clear c9
                try clear c9b0
                try clear c9b1
                try clear c11
                try clear c12
                try clear c12b0
                try clear c12b1
                try clear c12b2
                try clear c13
                try clear c16
                try clear c16b0
                try clear c16b1
                try clear c16b2
                try clear c18
                try clear c18b0
                try clear c19
                try clear c19b0
                try clear c30
                try clear c30b0
                try clear c30b1
                try clear c31
                try clear c31b0
                try clear c31b1
                try clear c33
                try clear hcz25_0
                try clear hcz25_1
                try clear hcz25_2
                try clear hcz25_3
                try clear hcz27_0
                try clear hcz27_1
                try clear hcz27_2
                try clear hcz27_3
                try clear hfz25_0
                try clear hfz25_1
                try clear hfz25_2
                try clear hfz25_3
                try clear hfz27_0
                try clear hfz27_1
                try clear hfz27_2
                try clear hfz27_3
                try clear hx582_0
                try clear hx582_1
                try clear hx582_2
                try clear hx582_3
                try clear p2
                try clear p582
                try clear q582
                obtain ⟨kq, x76_21, rfl, HA, HJ21, HO_0, HO_7, BK583, HB⟩ := hcut
                cases kq with
                | zero => exact absurd HA.out (by simp [tattlelaw03_TimerDrops.j1])
                | succ kj21 =>
                  have H := HA.out
                  clear HA
                  simp only [tattlelaw03_TimerDrops.j1] at H
                  by_cases c36 : x76_21 = true
                  · subst c36
                    have H1 : (some false) = some r := by rw [if_pos rfl] at H; exact H
                    clear H
                    have H := H1
                    clear H1
                    exact absurd ((Option.some.inj H).trans hrt.out) (by decide)
                  · replace c36 := Bool.eq_false_iff.mpr c36
                    subst c36
                    have H1 : (tattlelaw03_TimerDrops.l0 kj21 t577 t584 0 0 ((rd_T52 t577 (ji17)).f0) ((rd_T52 t577 (ji17)).f1) ((rd_T52 t577 (ji17)).f2) ((rd_T52 t577 (ji17)).f3)) = some r := by rw [if_neg (show ¬ (false = true) by decide)] at H; exact H
                    clear H
                    have H := H1
                    clear H1
                    have H' := Aside0.mk H
                    clear H
                    go_wp2
                    repeat (go_quiet (fail); try go_wp2)
                    go_loopg [11, 12] kj21 (fun kq v11 v12 w' => ∃ (x11_3 : Int) (x12_3 : Int), v11 = .int .i64 x11_3 ∧ v12 = .int .i64 x12_3 ∧ Aside0 (tattlelaw03_TimerDrops.l0 kq t577 t584 x11_3 x12_3 ((rd_T52 t577 (ji17)).f0) ((rd_T52 t577 (ji17)).f1) ((rd_T52 t577 (ji17)).f2) ((rd_T52 t577 (ji17)).f3) = some r) ∧ Aside0 (kq ≤ kj21) ∧ Aside0 (Kd.R k52 52 w' w.heap.size (fun k_ => some k_ ≠ ((.slice Ao28 t584.length co28) : Value).ownBlock ∧ k_ ≠ gb583) (.slice (some ad582) t577.length co23) t577) ∧ Aside0 (Kd.R k52 52 w' w.heap.size (fun k_ => some k_ ≠ ((.slice (some ad582) t577.length co23) : Value).ownBlock ∧ k_ ≠ gb583) (.slice Ao28 t584.length co28) t584) ∧ Aside0 (w'.heap[gb583]? = some (.cells #[.int .i64 ((rd_T52 t577 (ji17)).f0), .int .i64 ((rd_T52 t577 (ji17)).f1), .int .i64 ((rd_T52 t577 (ji17)).f2), .int .u64 ((rd_T52 t577 (ji17)).f3)] 52 (0, 0))) ∧ Aside0 (Below w.heap.size w w'))
                    case atStart => exact ⟨(0), (0), (by first | rfl | (simp; done) | (simp [*]; done)), (by first | rfl | (simp; done) | (simp [*]; done)), H', ⟨Nat.le_refl _⟩, ⟨by (with_reducible repeat (first | apply Kd.R_alloc | apply Kd.R_drewN | apply Kd.R_drew)); exact HO_0.out⟩, ⟨by (with_reducible repeat (first | apply Kd.R_alloc | apply Kd.R_drewN | apply Kd.R_drew)); exact HO_7.out⟩, ⟨by (with_reducible repeat (first | refine blk_drewN ?_ _ | refine blk_drew ?_ | refine blk_alloc ?_ _)); exact BK583.out⟩, ⟨by repeat (first | (with_reducible first | exact HB.out | apply below_alloc | apply pw_below_drewN | apply below_drew1 | refine below_set ?_ GE583.out) | exact HB.out)⟩⟩
                    case round =>
                      clear H'
                      try clear c1
                      try clear p2
                      try clear c3
                      try clear p5
                      try clear q5
                      try clear hx5
                      try clear p6
                      try clear c9
                      try clear c9b0
                      try clear c9b1
                      try clear c11
                      try clear c12
                      try clear c12b0
                      try clear c12b1
                      try clear c12b2
                      try clear c13
                      try clear c16
                      try clear c16b0
                      try clear c16b1
                      try clear c16b2
                      try clear c18
                      try clear c18b0
                      try clear c19
                      try clear c19b0
                      try clear c30
                      try clear c30b0
                      try clear c30b1
                      try clear c31
                      try clear c31b0
                      try clear c31b1
                      try clear c33
                      try clear c36
                      try clear hcz25_0
                      try clear hcz25_1
                      try clear hcz25_2
                      try clear hcz25_3
                      try clear hcz27_0
                      try clear hcz27_1
                      try clear hcz27_2
                      try clear hcz27_3
                      try clear hfz25_0
                      try clear hfz25_1
                      try clear hfz25_2
                      try clear hfz25_3
                      try clear hfz27_0
                      try clear hfz27_1
                      try clear hfz27_2
                      try clear hfz27_3
                      try clear hx582_0
                      try clear hx582_1
                      try clear hx582_2
                      try clear hx582_3
                      try clear p2
                      try clear p5
                      try clear p582
                      try clear p6
                      try clear q5
                      try clear q582
                      obtain ⟨x11_3, x12_3, rfl, rfl, HA, HK3, HO_0, HO_7, BK583, HB⟩ := hrel
                      cases gk with
                      | zero => exact absurd HA.out (by simp [tattlelaw03_TimerDrops.l0])
                      | succ k3 =>
                        have H := HA.out
                        clear HA
                        simp only [tattlelaw03_TimerDrops.l0] at H
                        by_cases c37 : x12_3 < (t577.length : Int)
                        · rw [if_pos c37] at H
                          have c37b0 : decide (x12_3 < (t577.length : Int)) = true := decide_eq_true c37
                          clear c37
                          have HC38 := Aside0.mk H
                          clear H
                          go_upto_region 13 with (fail)
                          repeat (go_quiet (fail); go_upto_region 13 with (fail))
                          go_cut [100] (fun v100 wc => ∃ (kq : Nat) (x100_37 : Bool), v100 = .bool x100_37 ∧ Aside0 (tattlelaw03_TimerDrops.j3 kq t577 t584 x11_3 x12_3 x100_37 ((rd_T52 t577 (ji17)).f0) ((rd_T52 t577 (ji17)).f1) ((rd_T52 t577 (ji17)).f2) ((rd_T52 t577 (ji17)).f3) = some r) ∧ Aside0 (kq ≤ k3) ∧ Aside0 (Kd.R k52 52 wc w.heap.size (fun k_ => some k_ ≠ ((.slice Ao28 t584.length co28) : Value).ownBlock ∧ k_ ≠ gb583) (.slice (some ad582) t577.length co23) t577) ∧ Aside0 (Kd.R k52 52 wc w.heap.size (fun k_ => some k_ ≠ ((.slice (some ad582) t577.length co23) : Value).ownBlock ∧ k_ ≠ gb583) (.slice Ao28 t584.length co28) t584) ∧ Aside0 (wc.heap[gb583]? = some (.cells #[.int .i64 ((rd_T52 t577 (ji17)).f0), .int .i64 ((rd_T52 t577 (ji17)).f1), .int .i64 ((rd_T52 t577 (ji17)).f2), .int .u64 ((rd_T52 t577 (ji17)).f3)] 52 (0, 0))) ∧ Aside0 (Below w.heap.size w wc))
                          case first =>
                            have H := HC38.out
                            clear HC38
                            by_cases c39 : 0 ≤ x12_3
                            · rw [if_pos c39] at H
                              have c39b0 : decide (0 ≤ x12_3) = true := decide_eq_true c39
                              clear c39
                              (first | rw [c39b0] | (simp only [i64_w, i32_w]; rw [c39b0]) | skip)
                              by_cases c40 : ((rd_T52 t577 x12_3).f1) = ((rd_T52 t577 (ji17)).f1)
                              · rw [if_pos c40] at H
                                have c40b0 : (((rd_T52 t577 x12_3).f1) == ((rd_T52 t577 (ji17)).f1)) = true := beq_iff_eq.mpr c40
                                have c40b1 : (((rd_T52 t577 x12_3).f1) != ((rd_T52 t577 (ji17)).f1)) = false := bne_eq_false_iff_eq.mpr c40
                                clear c40
                                have H' := Aside0.mk H
                                clear H
                                have p594 : 0 ≤ (x12_3 : Int) := of_decide_eq_true (by first | (with_reducible assumption) | assumption)
                                have q594 : x12_3 < (t577.length : Int) := of_decide_eq_true (by first | (with_reducible assumption) | assumption)
                                obtain ⟨ad594, e594, hx594_0, hx594_1, hx594_2, hx594_3⟩ := at_T52 (Kd.R_reads' HO_0.out).2.2 x12_3 p594 q594
                                obtain rfl : ad582 = ad594 := (by injection e594)
                                replace p594 := eq_true p594
                                replace q594 := eq_true q594
                                have hcz41_0 : wr.cell? ⟨gb583, 0, none⟩ = some (.int .i64 ((rd_T52 t577 (ji17)).f0)) := (blk_cell BK583.out 0).trans rfl
                                have hcz41_1 : wr.cell? ⟨gb583, 1, none⟩ = some (.int .i64 ((rd_T52 t577 (ji17)).f1)) := (blk_cell BK583.out 1).trans rfl
                                have hcz41_2 : wr.cell? ⟨gb583, 2, none⟩ = some (.int .i64 ((rd_T52 t577 (ji17)).f2)) := (blk_cell BK583.out 2).trans rfl
                                have hcz41_3 : wr.cell? ⟨gb583, 3, none⟩ = some (.int .u64 ((rd_T52 t577 (ji17)).f3)) := (blk_cell BK583.out 3).trans rfl
                                have hfz41_0 := blk_frozen BK583.out 0
                                have hfz41_1 := blk_frozen BK583.out 1
                                have hfz41_2 := blk_frozen BK583.out 2
                                have hfz41_3 := blk_frozen BK583.out 3
                                have p595 : 0 ≤ (x12_3 : Int) := of_decide_eq_true (by first | (with_reducible assumption) | assumption)
                                have q595 : x12_3 < (t577.length : Int) := of_decide_eq_true (by first | (with_reducible assumption) | assumption)
                                obtain ⟨ad595, e595, hx595_0, hx595_1, hx595_2, hx595_3⟩ := at_T52 (Kd.R_reads' HO_0.out).2.2 x12_3 p595 q595
                                obtain rfl : ad582 = ad595 := (by injection e595)
                                replace p595 := eq_true p595
                                replace q595 := eq_true q595
                                go_wp2
                                repeat (go_quiet (fail); try go_wp2)
                                go_meet
                                case rel => exact ⟨_, ((((rd_T52 t577 x12_3).f2) == ((rd_T52 t577 (ji17)).f2))), (by first | rfl | (simp; done) | (simp only [← hji17] <;> (first | rfl | simp)) | (simp [*]; done)), H', ⟨by have := HJ4.out; have := HJ21.out; have := HK3.out; first | omega | exact Nat.le_refl _⟩, ⟨by (with_reducible repeat (first | apply Kd.R_alloc | apply Kd.R_drewN | apply Kd.R_drew)); exact HO_0.out⟩, ⟨by (with_reducible repeat (first | apply Kd.R_alloc | apply Kd.R_drewN | apply Kd.R_drew)); exact HO_7.out⟩, ⟨by (with_reducible repeat (first | refine blk_drewN ?_ _ | refine blk_drew ?_ | refine blk_alloc ?_ _)); exact BK583.out⟩, ⟨by repeat (first | (with_reducible first | exact HB.out | apply below_alloc | apply pw_below_drewN | apply below_drew1 | refine below_set ?_ GE583.out) | exact HB.out)⟩⟩
                              · rw [if_neg c40] at H
                                have c40b0 : (((rd_T52 t577 x12_3).f1) == ((rd_T52 t577 (ji17)).f1)) = false := beq_eq_false_iff_ne.mpr c40
                                have c40b1 : (((rd_T52 t577 x12_3).f1) != ((rd_T52 t577 (ji17)).f1)) = true := bne_iff_ne.mpr c40
                                have H' := Aside0.mk H
                                clear H
                                have p594 : 0 ≤ (x12_3 : Int) := of_decide_eq_true (by first | (with_reducible assumption) | assumption)
                                have q594 : x12_3 < (t577.length : Int) := of_decide_eq_true (by first | (with_reducible assumption) | assumption)
                                obtain ⟨ad594, e594, hx594_0, hx594_1, hx594_2, hx594_3⟩ := at_T52 (Kd.R_reads' HO_0.out).2.2 x12_3 p594 q594
                                obtain rfl : ad582 = ad594 := (by injection e594)
                                replace p594 := eq_true p594
                                replace q594 := eq_true q594
                                have hcz42_0 : wr.cell? ⟨gb583, 0, none⟩ = some (.int .i64 ((rd_T52 t577 (ji17)).f0)) := (blk_cell BK583.out 0).trans rfl
                                have hcz42_1 : wr.cell? ⟨gb583, 1, none⟩ = some (.int .i64 ((rd_T52 t577 (ji17)).f1)) := (blk_cell BK583.out 1).trans rfl
                                have hcz42_2 : wr.cell? ⟨gb583, 2, none⟩ = some (.int .i64 ((rd_T52 t577 (ji17)).f2)) := (blk_cell BK583.out 2).trans rfl
                                have hcz42_3 : wr.cell? ⟨gb583, 3, none⟩ = some (.int .u64 ((rd_T52 t577 (ji17)).f3)) := (blk_cell BK583.out 3).trans rfl
                                have hfz42_0 := blk_frozen BK583.out 0
                                have hfz42_1 := blk_frozen BK583.out 1
                                have hfz42_2 := blk_frozen BK583.out 2
                                have hfz42_3 := blk_frozen BK583.out 3
                                go_wp2
                                repeat (go_quiet (fail); try go_wp2)
                                go_meet
                                case rel => exact ⟨_, (false), (by first | rfl | (simp; done) | (simp [*]; done)), H', ⟨by have := HJ4.out; have := HJ21.out; have := HK3.out; first | omega | exact Nat.le_refl _⟩, ⟨by (with_reducible repeat (first | apply Kd.R_alloc | apply Kd.R_drewN | apply Kd.R_drew)); exact HO_0.out⟩, ⟨by (with_reducible repeat (first | apply Kd.R_alloc | apply Kd.R_drewN | apply Kd.R_drew)); exact HO_7.out⟩, ⟨by (with_reducible repeat (first | refine blk_drewN ?_ _ | refine blk_drew ?_ | refine blk_alloc ?_ _)); exact BK583.out⟩, ⟨by repeat (first | (with_reducible first | exact HB.out | apply below_alloc | apply pw_below_drewN | apply below_drew1 | refine below_set ?_ GE583.out) | exact HB.out)⟩⟩
                            · rw [if_neg c39] at H
                              exact absurd H (by simp)
                          case rest =>
                            clear HC38
                            try clear c1
                            try clear p2
                            try clear c3
                            try clear c4
                            try clear p5
                            try clear q5
                            try clear hx5
                            try clear p6
                            try clear c9
                            try clear c9b0
                            try clear c9b1
                            try clear c11
                            try clear c12
                            try clear c12b0
                            try clear c12b1
                            try clear c12b2
                            try clear c13
                            try clear c16
                            try clear c16b0
                            try clear c16b1
                            try clear c16b2
                            try clear c18
                            try clear c18b0
                            try clear c19
                            try clear c19b0
                            try clear c30
                            try clear c30b0
                            try clear c30b1
                            try clear c31
                            try clear c31b0
                            try clear c31b1
                            try clear c33
                            try clear c36
                            try clear c37
                            try clear c37b0
                            try clear c39
                            try clear c39b0
                            try clear c40
                            try clear c40b0
                            try clear c40b1
                            try clear hcz25_0
                            try clear hcz25_1
                            try clear hcz25_2
                            try clear hcz25_3
                            try clear hcz27_0
                            try clear hcz27_1
                            try clear hcz27_2
                            try clear hcz27_3
                            try clear hcz41_0
                            try clear hcz41_1
                            try clear hcz41_2
                            try clear hcz41_3
                            try clear hcz42_0
                            try clear hcz42_1
                            try clear hcz42_2
                            try clear hcz42_3
                            try clear hfz25_0
                            try clear hfz25_1
                            try clear hfz25_2
                            try clear hfz25_3
                            try clear hfz27_0
                            try clear hfz27_1
                            try clear hfz27_2
                            try clear hfz27_3
                            try clear hfz41_0
                            try clear hfz41_1
                            try clear hfz41_2
                            try clear hfz41_3
                            try clear hfz42_0
                            try clear hfz42_1
                            try clear hfz42_2
                            try clear hfz42_3
                            try clear hx582_0
                            try clear hx582_1
                            try clear hx582_2
                            try clear hx582_3
                            try clear hx594_0
                            try clear hx594_1
                            try clear hx594_2
                            try clear hx594_3
                            try clear hx595_0
                            try clear hx595_1
                            try clear hx595_2
                            try clear hx595_3
                            try clear p2
                            try clear p5
                            try clear p582
                            try clear p594
                            try clear p595
                            try clear p6
                            try clear q5
                            try clear q582
                            try clear q594
                            try clear q595
                            obtain ⟨kq, x100_37, rfl, HA, HJ37, HO_0, HO_7, BK583, HB⟩ := hcut
                            cases kq with
                            | zero => exact absurd HA.out (by simp [tattlelaw03_TimerDrops.j3])
                            | succ kj37 =>
                              have H := HA.out
                              clear HA
                              simp only [tattlelaw03_TimerDrops.j3] at H
                              by_cases c43 : x100_37 = true
                              · subst c43
                                have H1 : (tattlelaw03_TimerDrops.l0 kj37 t577 t584 x11_3 (wrap64 (x12_3 + 1)) ((rd_T52 t577 (ji17)).f0) ((rd_T52 t577 (ji17)).f1) ((rd_T52 t577 (ji17)).f2) ((rd_T52 t577 (ji17)).f3)) = some r := by rw [if_pos rfl] at H; exact H
                                clear H
                                have H := H1
                                clear H1
                                have H' := Aside0.mk H
                                clear H
                                go_wp2
                                repeat (go_quiet (fail); try go_wp2)
                                go_roundg kj37
                                case measure => have := HJ4.out; have := HJ21.out; have := HK3.out; have := HJ37.out; omega
                                case rel => exact ⟨(x11_3), (wrap64 (x12_3 + 1)), (by first | rfl | (simp; done) | (simp [*]; done)), (by first | rfl | (simp; done) | (simp [*]; done)), H', ⟨by have := HJ4.out; have := HJ21.out; have := HK3.out; have := HJ37.out; omega⟩, ⟨by (with_reducible repeat (first | apply Kd.R_alloc | apply Kd.R_drewN | apply Kd.R_drew)); exact HO_0.out⟩, ⟨by (with_reducible repeat (first | apply Kd.R_alloc | apply Kd.R_drewN | apply Kd.R_drew)); exact HO_7.out⟩, ⟨by (with_reducible repeat (first | refine blk_drewN ?_ _ | refine blk_drew ?_ | refine blk_alloc ?_ _)); exact BK583.out⟩, ⟨by repeat (first | (with_reducible first | exact HB.out | apply below_alloc | apply pw_below_drewN | apply below_drew1 | refine below_set ?_ GE583.out) | exact HB.out)⟩⟩
                              · replace c43 := Bool.eq_false_iff.mpr c43
                                subst c43
                                have H1 : (if x11_3 ≥ (t584.length : Int) then (some false) else (if 0 ≤ x11_3 then (if x11_3 < (t584.length : Int) then (if 0 ≤ x12_3 then (if x12_3 < (t577.length : Int) then (if (!(((rd_T52 t584 x11_3).f0) == ((rd_T52 t577 x12_3).f0)) || (!(((rd_T52 t584 x11_3).f1) == ((rd_T52 t577 x12_3).f1)) || (!(((rd_T52 t584 x11_3).f2) == ((rd_T52 t577 x12_3).f2)) || (!(((rd_T52 t584 x11_3).f3) == ((rd_T52 t577 x12_3).f3)))))) = true then (some false) else (tattlelaw03_TimerDrops.l0 kj37 t577 t584 (wrap64 (x11_3 + 1)) (wrap64 (x12_3 + 1)) ((rd_T52 t577 (ji17)).f0) ((rd_T52 t577 (ji17)).f1) ((rd_T52 t577 (ji17)).f2) ((rd_T52 t577 (ji17)).f3))) else (none)) else (none)) else (none)) else (none))) = some r := by rw [if_neg (show ¬ (false = true) by decide)] at H; exact H
                                clear H
                                have H := H1
                                clear H1
                                by_cases c44 : x11_3 ≥ (t584.length : Int)
                                · rw [if_pos c44] at H
                                  have c44b0 : decide ((t584.length : Int) ≤ x11_3) = true := decide_eq_true c44
                                  clear c44
                                  exact absurd ((Option.some.inj H).trans hrt.out) (by decide)
                                · rw [if_neg c44] at H
                                  have c44b0 : decide ((t584.length : Int) ≤ x11_3) = false := decide_eq_false c44
                                  clear c44
                                  by_cases c45 : 0 ≤ x11_3
                                  · rw [if_pos c45] at H
                                    have c45b0 : decide (0 ≤ x11_3) = true := decide_eq_true c45
                                    clear c45
                                    by_cases c46 : x11_3 < (t584.length : Int)
                                    · rw [if_pos c46] at H
                                      have c46b0 : decide (x11_3 < (t584.length : Int)) = true := decide_eq_true c46
                                      clear c46
                                      by_cases c47 : 0 ≤ x12_3
                                      · rw [if_pos c47] at H
                                        have c47b0 : decide (0 ≤ x12_3) = true := decide_eq_true c47
                                        clear c47
                                        by_cases c48 : x12_3 < (t577.length : Int)
                                        · rw [if_pos c48] at H
                                          have c48b0 : decide (x12_3 < (t577.length : Int)) = true := decide_eq_true c48
                                          clear c48
                                          by_cases c49 : (!(((rd_T52 t584 x11_3).f0) == ((rd_T52 t577 x12_3).f0)) || (!(((rd_T52 t584 x11_3).f1) == ((rd_T52 t577 x12_3).f1)) || (!(((rd_T52 t584 x11_3).f2) == ((rd_T52 t577 x12_3).f2)) || (!(((rd_T52 t584 x11_3).f3) == ((rd_T52 t577 x12_3).f3)))))) = true
                                          · rw [if_pos c49] at H
                                            have c49b0 : (!(((rd_T52 t584 x11_3).f0) == ((rd_T52 t577 x12_3).f0)) || (!(((rd_T52 t584 x11_3).f1) == ((rd_T52 t577 x12_3).f1)) || (!(((rd_T52 t584 x11_3).f2) == ((rd_T52 t577 x12_3).f2)) || (!(((rd_T52 t584 x11_3).f3) == ((rd_T52 t577 x12_3).f3)))))) = true := c49
                                            clear c49
                                            exact absurd ((Option.some.inj H).trans hrt.out) (by decide)
                                          · rw [if_neg c49] at H
                                            have c49b0 : (!(((rd_T52 t584 x11_3).f0) == ((rd_T52 t577 x12_3).f0)) || (!(((rd_T52 t584 x11_3).f1) == ((rd_T52 t577 x12_3).f1)) || (!(((rd_T52 t584 x11_3).f2) == ((rd_T52 t577 x12_3).f2)) || (!(((rd_T52 t584 x11_3).f3) == ((rd_T52 t577 x12_3).f3)))))) = false := by simpa using c49
                                            clear c49
                                            have H' := Aside0.mk H
                                            clear H
                                            have p596 : 0 ≤ (x11_3 : Int) := of_decide_eq_true (by first | (with_reducible assumption) | assumption)
                                            have q596 : x11_3 < (t584.length : Int) := of_decide_eq_true (by first | (with_reducible assumption) | assumption)
                                            obtain ⟨ad596, e596, hx596_0, hx596_1, hx596_2, hx596_3⟩ := at_T52 (Kd.R_reads' HO_7.out).2.2 x11_3 p596 q596
                                            cases e596
                                            replace p596 := eq_true p596
                                            replace q596 := eq_true q596
                                            have p597 : 0 ≤ (x12_3 : Int) := of_decide_eq_true (by first | (with_reducible assumption) | assumption)
                                            have q597 : x12_3 < (t577.length : Int) := of_decide_eq_true (by first | (with_reducible assumption) | assumption)
                                            obtain ⟨ad597, e597, hx597_0, hx597_1, hx597_2, hx597_3⟩ := at_T52 (Kd.R_reads' HO_0.out).2.2 x12_3 p597 q597
                                            obtain rfl : ad582 = ad597 := (by injection e597)
                                            replace p597 := eq_true p597
                                            replace q597 := eq_true q597
                                            go_wp2
                                            repeat (go_quiet (fail); try go_wp2)
                                            go_roundg kj37
                                            case measure => have := HJ4.out; have := HJ21.out; have := HK3.out; have := HJ37.out; omega
                                            case rel => exact ⟨(wrap64 (x11_3 + 1)), (wrap64 (x12_3 + 1)), (by first | rfl | (simp; done) | (simp [*]; done)), (by first | rfl | (simp; done) | (simp [*]; done)), H', ⟨by have := HJ4.out; have := HJ21.out; have := HK3.out; have := HJ37.out; omega⟩, ⟨by (with_reducible repeat (first | apply Kd.R_alloc | apply Kd.R_drewN | apply Kd.R_drew)); exact HO_0.out⟩, ⟨by (with_reducible repeat (first | apply Kd.R_alloc | apply Kd.R_drewN | apply Kd.R_drew)); exact HO_7.out⟩, ⟨by (with_reducible repeat (first | refine blk_drewN ?_ _ | refine blk_drew ?_ | refine blk_alloc ?_ _)); exact BK583.out⟩, ⟨by repeat (first | (with_reducible first | exact HB.out | apply below_alloc | apply pw_below_drewN | apply below_drew1 | refine below_set ?_ GE583.out) | exact HB.out)⟩⟩
                                        · rw [if_neg c48] at H
                                          exact absurd H (by simp)
                                      · rw [if_neg c47] at H
                                        exact absurd H (by simp)
                                    · rw [if_neg c46] at H
                                      exact absurd H (by simp)
                                  · rw [if_neg c45] at H
                                    exact absurd H (by simp)
                        · rw [if_neg c37] at H
                          have c37b0 : decide (x12_3 < (t577.length : Int)) = false := decide_eq_false c37
                          clear c37
                          by_cases c50 : x11_3 = (t584.length : Int)
                          · rw [if_pos c50] at H
                            have c50b0 : (x11_3 == (t584.length : Int)) = true := beq_iff_eq.mpr c50
                            have c50b1 : (x11_3 != (t584.length : Int)) = false := bne_eq_false_iff_eq.mpr c50
                            clear c50
                            replace H := Option.bind_eq_some_iff.mp H
                            obtain ⟨t593, A510, H⟩ := H
                            replace H : (some t593) = some r := H
                            have A51 := Aside0.mk A510
                            clear A510
                            obtain rfl := Option.some.inj H
                            go_wp2_with (first | (go_at_call 29; (with_reducible refine (tattlelaw03_awakeT.calls  t593 _ A51.out).mono ?_); rintro e w52 ⟨rfl, hb⟩; have n0_ := Aside0.mk (Kd.R_below (by (with_reducible repeat (first | apply Kd.R_alloc | apply Kd.R_drewN | apply Kd.R_drew)); exact HO_0.out) hb); have n1_ := Aside0.mk (Kd.R_below (by (with_reducible repeat (first | apply Kd.R_alloc | apply Kd.R_drewN | apply Kd.R_drew)); exact HO_7.out) hb); have n2_ := Aside0.mk (blk_below (g := gb583) (o := .cells #[.int .i64 ((rd_T52 t577 (ji17)).f0), .int .i64 ((rd_T52 t577 (ji17)).f1), .int .i64 ((rd_T52 t577 (ji17)).f2), .int .u64 ((rd_T52 t577 (ji17)).f3)] 52 (0, 0)) (by (with_reducible repeat (first | refine blk_drewN ?_ _ | refine blk_drew ?_ | refine blk_alloc ?_ _)); exact BK583.out) hb); have n3_ := Aside0.mk (below_step (by repeat (first | (with_reducible first | exact HB.out | apply below_alloc | apply pw_below_drewN | apply below_drew1 | refine below_set ?_ GE583.out) | exact HB.out)) hb); clear HO_0; clear HO_7; clear BK583; clear HB; have HO_0 := n0_; have HO_7 := n1_; have BK583 := n2_; have HB := n3_; clear n0_ n1_ n2_ n3_; (try clear hb); (try clear hb2); (try clear hk); (try clear hi)))
                            repeat (go_quiet (first | (go_at_call 29; (with_reducible refine (tattlelaw03_awakeT.calls  t593 _ A51.out).mono ?_); rintro e w52 ⟨rfl, hb⟩; have n0_ := Aside0.mk (Kd.R_below (by (with_reducible repeat (first | apply Kd.R_alloc | apply Kd.R_drewN | apply Kd.R_drew)); exact HO_0.out) hb); have n1_ := Aside0.mk (Kd.R_below (by (with_reducible repeat (first | apply Kd.R_alloc | apply Kd.R_drewN | apply Kd.R_drew)); exact HO_7.out) hb); have n2_ := Aside0.mk (blk_below (g := gb583) (o := .cells #[.int .i64 ((rd_T52 t577 (ji17)).f0), .int .i64 ((rd_T52 t577 (ji17)).f1), .int .i64 ((rd_T52 t577 (ji17)).f2), .int .u64 ((rd_T52 t577 (ji17)).f3)] 52 (0, 0)) (by (with_reducible repeat (first | refine blk_drewN ?_ _ | refine blk_drew ?_ | refine blk_alloc ?_ _)); exact BK583.out) hb); have n3_ := Aside0.mk (below_step (by repeat (first | (with_reducible first | exact HB.out | apply below_alloc | apply pw_below_drewN | apply below_drew1 | refine below_set ?_ GE583.out) | exact HB.out)) hb); clear HO_0; clear HO_7; clear BK583; clear HB; have HO_0 := n0_; have HO_7 := n1_; have BK583 := n2_; have HB := n3_; clear n0_ n1_ n2_ n3_; (try clear hb); (try clear hb2); (try clear hk); (try clear hi))); try go_wp2_with (first | (go_at_call 29; (with_reducible refine (tattlelaw03_awakeT.calls  t593 _ A51.out).mono ?_); rintro e w52 ⟨rfl, hb⟩; have n0_ := Aside0.mk (Kd.R_below (by (with_reducible repeat (first | apply Kd.R_alloc | apply Kd.R_drewN | apply Kd.R_drew)); exact HO_0.out) hb); have n1_ := Aside0.mk (Kd.R_below (by (with_reducible repeat (first | apply Kd.R_alloc | apply Kd.R_drewN | apply Kd.R_drew)); exact HO_7.out) hb); have n2_ := Aside0.mk (blk_below (g := gb583) (o := .cells #[.int .i64 ((rd_T52 t577 (ji17)).f0), .int .i64 ((rd_T52 t577 (ji17)).f1), .int .i64 ((rd_T52 t577 (ji17)).f2), .int .u64 ((rd_T52 t577 (ji17)).f3)] 52 (0, 0)) (by (with_reducible repeat (first | refine blk_drewN ?_ _ | refine blk_drew ?_ | refine blk_alloc ?_ _)); exact BK583.out) hb); have n3_ := Aside0.mk (below_step (by repeat (first | (with_reducible first | exact HB.out | apply below_alloc | apply pw_below_drewN | apply below_drew1 | refine below_set ?_ GE583.out) | exact HB.out)) hb); clear HO_0; clear HO_7; clear BK583; clear HB; have HO_0 := n0_; have HO_7 := n1_; have BK583 := n2_; have HB := n3_; clear n0_ n1_ n2_ n3_; (try clear hb); (try clear hb2); (try clear hk); (try clear hi))))
                            go_ret
                            exact ⟨by first | rfl | (simp [errW_none, errW_some] <;> rfl) | (simp only [← hji17]; first | rfl | (simp [errW_none, errW_some] <;> rfl)) | (simp [*, errW_none, errW_some] <;> rfl), by repeat (first | (with_reducible first | exact HB.out | apply below_alloc | apply pw_below_drewN | apply below_drew1 | refine below_set ?_ GE583.out) | exact HB.out)⟩
                          · rw [if_neg c50] at H
                            have c50b0 : (x11_3 == (t584.length : Int)) = false := beq_eq_false_iff_ne.mpr c50
                            have c50b1 : (x11_3 != (t584.length : Int)) = true := bne_iff_ne.mpr c50
                            exact absurd ((Option.some.inj H).trans hrt.out) (by decide)
            · rw [if_neg c19] at H
              exact absurd H (by simp)
          · rw [if_neg c18] at H
            exact absurd H (by simp)

end Go.Proofs.Ytahppppkepcbkaa.Fn
