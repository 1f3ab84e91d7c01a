-- Written by program (a turned copy of the kit's print) for this seat: functions, contracts. Lean checks it.
import Derived.Test.YtjamociekniepaaFnx0
import Derived.Test.YtjamociekniepaaFnx14
import Derived.Test.YtjamociekniepaaFnx15
import Derived.Test.YtjamociekniepaaFnx19
import Derived.Test.YtjamociekniepaaAw28
import Derived.Test.YtjamociekniepaaExTab
namespace Go.Proofs.Ytjamociekniepaa.Fn
open Go.RowKit Go.Proofs.YtjamociekniepaaW.PrintWords Go.Proofs.YtjamociekniepaaW.PrintLast Go.Proofs.YtjamociekniepaaW.PrintMore
attribute [local go_sem] max2_int min2_int max_two min_two max_three min_three max_four min_four   -- for this text's walks alone
set_option linter.unusedVariables false
set_option linter.unusedSimpArgs false

/-! ### tattlelaw06_TableParts: function 10 -/
mutual
def tattlelaw06_TableParts.j0 : Nat → List (S26) → Int → Bool → Option (Bool)
  | 0, _, _, _ => none
  | k + 1, x0, x1, x23 => if x23 = true then ((tattlelaw06_awakeT.f).bind fun t375 => (some t375)) else (if (x0.length : Int) = 0 then (none) else (if 0 ≤ (Int.tmod (wrap64 (x1)) (x0.length : Int)) then (if (Int.tmod (wrap64 (x1)) (x0.length : Int)) < (x0.length : Int) then (if ((rd_T26 x0 (Int.tmod (wrap64 (x1)) (x0.length : Int))).f0) = 18446744073709551615 then ((tattlelaw06_awakeT.f).bind fun t377 => (some t377)) else ((table_Up.f x0).bind fun t378 => ((table_Lowest.f x0).bind fun bt381 => (if ((bt381.2 == 0) != (decide ((t378.length : Int) > 0))) = true then (tattlelaw06_TableParts.j1 k x0 (Int.tmod (wrap64 (x1)) (x0.length : Int)) true) else (if bt381.2 = 0 then (if 0 < (t378.length : Int) then (tattlelaw06_TableParts.j1 k x0 (Int.tmod (wrap64 (x1)) (x0.length : Int)) (bt381.1 != (rd t378 0))) else (none)) else (tattlelaw06_TableParts.j1 k x0 (Int.tmod (wrap64 (x1)) (x0.length : Int)) false)))))) else (none)) else (none)))
def tattlelaw06_TableParts.j1 : Nat → List (S26) → Int → Bool → Option (Bool)
  | 0, _, _, _ => none
  | k + 1, x0, x5, x60 => if x60 = true then (some false) else (if 0 ≤ x5 then (if x5 < (x0.length : Int) then ((table_Apply.f k x0 x5 ((rd_T26 x0 x5).f0) 3).bind fun bt385 => (if bt385.2.2 = 0 then (tattlelaw06_TableParts.j2 k x0 x5 bt385.1 (bt385.2.1 != (((rd_T26 x0 x5).f1) != 3))) else (tattlelaw06_TableParts.j2 k x0 x5 bt385.1 true))) else (none)) else (none))
def tattlelaw06_TableParts.j2 : Nat → List (S26) → Int → List (S26) → Bool → Option (Bool)
  | 0, _, _, _, _ => none
  | k + 1, x0, x5, x9, x85 => if x85 = true then (some false) else ((table_Up.f x9).bind fun t391 => ((tattleref02_Many.f k t391 x5).bind fun t394 => (if t394 = 0 then ((table_Others.f x9 (-1)).bind fun t395 => ((tattleref02_Many.f k t395 x5).bind fun t398 => (if t398 = 0 then ((table_Others.f x0 x5).bind fun t399 => ((tattleref02_Many.f k t399 x5).bind fun t402 => (tattlelaw06_TableParts.j3 k x0 x5 x9 (t402 != 0)))) else (tattlelaw06_TableParts.j3 k x0 x5 x9 true)))) else (tattlelaw06_TableParts.j3 k x0 x5 x9 true))))
def tattlelaw06_TableParts.j3 : Nat → List (S26) → Int → List (S26) → Bool → Option (Bool)
  | 0, _, _, _, _ => none
  | k + 1, x0, x5, x9, x105 => if x105 = true then (some false) else (if 0 ≤ x5 then (if x5 < (x0.length : Int) then ((table_Apply.f k x9 x5 (IntKind.u64.wrap (((rd_T26 x0 x5).f0) + 1)) 0).bind fun bt404 => (if bt404.2.1 = true then (if bt404.2.2 = 0 then ((table_Up.f bt404.1).bind fun t409 => ((tattleref02_Many.f k t409 x5).bind fun t412 => (if t412 = 1 then ((tattlelaw06_awakeT.f).bind fun t413 => (some t413)) else (some false)))) else (some false)) else (some false))) else (none)) else (none))
end
def tattlelaw06_TableParts.f (k : Nat) (l0 : List (S26)) (a1 : Int) : Option (Bool) := (tattlelaw06_Few.f l0).bind fun t371 => ((table_Check.f k t371).bind fun t374 => (if t374 = 0 then (tattlelaw06_TableParts.j0 k t371 a1 ((t371.length : Int) == 0)) else (tattlelaw06_TableParts.j0 k t371 a1 true)))
theorem tattlelaw06_TableParts.mono_l : ∀ k, (∀ y0 y1 y2, LeO (tattlelaw06_TableParts.j0 k y0 y1 y2) (tattlelaw06_TableParts.j0 (k + 1) y0 y1 y2)) ∧ (∀ y0 y1 y2, LeO (tattlelaw06_TableParts.j1 k y0 y1 y2) (tattlelaw06_TableParts.j1 (k + 1) y0 y1 y2)) ∧ (∀ y0 y1 y2 y3, LeO (tattlelaw06_TableParts.j2 k y0 y1 y2 y3) (tattlelaw06_TableParts.j2 (k + 1) y0 y1 y2 y3)) ∧ (∀ y0 y1 y2 y3, LeO (tattlelaw06_TableParts.j3 k y0 y1 y2 y3) (tattlelaw06_TableParts.j3 (k + 1) y0 y1 y2 y3))
  | 0 => ⟨fun _ _ _ r h => by simp [tattlelaw06_TableParts.j0] at h, fun _ _ _ r h => by simp [tattlelaw06_TableParts.j1] at h, fun _ _ _ _ r h => by simp [tattlelaw06_TableParts.j2] at h, fun _ _ _ _ r h => by simp [tattlelaw06_TableParts.j3] at h⟩
  | k + 1 => by
    obtain ⟨ih0, ih1, ih2, ih3⟩ := tattlelaw06_TableParts.mono_l k
    refine ⟨?_, ?_, ?_, ?_⟩
    · intro y0 y1 y2
      unfold tattlelaw06_TableParts.j0
      repeat' first
      | (with_reducible exact ih0 _ _ _)
      | (with_reducible exact ih1 _ _ _)
      | (with_reducible exact ih2 _ _ _ _)
      | (with_reducible exact ih3 _ _ _ _)
      | (with_reducible exact table_Apply.mono _ _ _ _ _)
      | (with_reducible exact table_Check.mono _ _)
      | (with_reducible exact tattleref02_Many.mono _ _ _)
      | (with_reducible exact LeO.refl _)
      | (with_reducible exact LeO.none _)
      | (with_reducible refine LeO.ite ?_ ?_)
      | (with_reducible refine LeO.bind ?_ (fun _ => ?_))
      | exact ih0 _ _ _
      | exact ih1 _ _ _
      | exact ih2 _ _ _ _
      | exact ih3 _ _ _ _
      | exact table_Apply.mono _ _ _ _ _
      | exact table_Check.mono _ _
      | exact tattleref02_Many.mono _ _ _
      | exact LeO.none _
      | refine LeO.ite ?_ ?_
      | refine LeO.bind ?_ (fun _ => ?_)
    · intro y0 y1 y2
      unfold tattlelaw06_TableParts.j1
      repeat' first
      | (with_reducible exact ih0 _ _ _)
      | (with_reducible exact ih1 _ _ _)
      | (with_reducible exact ih2 _ _ _ _)
      | (with_reducible exact ih3 _ _ _ _)
      | (with_reducible exact table_Apply.mono _ _ _ _ _)
      | (with_reducible exact table_Check.mono _ _)
      | (with_reducible exact tattleref02_Many.mono _ _ _)
      | (with_reducible exact LeO.refl _)
      | (with_reducible exact LeO.none _)
      | (with_reducible refine LeO.ite ?_ ?_)
      | (with_reducible refine LeO.bind ?_ (fun _ => ?_))
      | exact ih0 _ _ _
      | exact ih1 _ _ _
      | exact ih2 _ _ _ _
      | exact ih3 _ _ _ _
      | exact table_Apply.mono _ _ _ _ _
      | exact table_Check.mono _ _
      | exact tattleref02_Many.mono _ _ _
      | exact LeO.none _
      | refine LeO.ite ?_ ?_
      | refine LeO.bind ?_ (fun _ => ?_)
    · intro y0 y1 y2 y3
      unfold tattlelaw06_TableParts.j2
      repeat' first
      | (with_reducible exact ih0 _ _ _)
      | (with_reducible exact ih1 _ _ _)
      | (with_reducible exact ih2 _ _ _ _)
      | (with_reducible exact ih3 _ _ _ _)
      | (with_reducible exact table_Apply.mono _ _ _ _ _)
      | (with_reducible exact table_Check.mono _ _)
      | (with_reducible exact tattleref02_Many.mono _ _ _)
      | (with_reducible exact LeO.refl _)
      | (with_reducible exact LeO.none _)
      | (with_reducible refine LeO.ite ?_ ?_)
      | (with_reducible refine LeO.bind ?_ (fun _ => ?_))
      | exact ih0 _ _ _
      | exact ih1 _ _ _
      | exact ih2 _ _ _ _
      | exact ih3 _ _ _ _
      | exact table_Apply.mono _ _ _ _ _
      | exact table_Check.mono _ _
      | exact tattleref02_Many.mono _ _ _
      | exact LeO.none _
      | refine LeO.ite ?_ ?_
      | refine LeO.bind ?_ (fun _ => ?_)
    · intro y0 y1 y2 y3
      unfold tattlelaw06_TableParts.j3
      repeat' first
      | (with_reducible exact ih0 _ _ _)
      | (with_reducible exact ih1 _ _ _)
      | (with_reducible exact ih2 _ _ _ _)
      | (with_reducible exact ih3 _ _ _ _)
      | (with_reducible exact table_Apply.mono _ _ _ _ _)
      | (with_reducible exact table_Check.mono _ _)
      | (with_reducible exact tattleref02_Many.mono _ _ _)
      | (with_reducible exact LeO.refl _)
      | (with_reducible exact LeO.none _)
      | (with_reducible refine LeO.ite ?_ ?_)
      | (with_reducible refine LeO.bind ?_ (fun _ => ?_))
      | exact ih0 _ _ _
      | exact ih1 _ _ _
      | exact ih2 _ _ _ _
      | exact ih3 _ _ _ _
      | exact table_Apply.mono _ _ _ _ _
      | exact table_Check.mono _ _
      | exact tattleref02_Many.mono _ _ _
      | exact LeO.none _
      | refine LeO.ite ?_ ?_
      | refine LeO.bind ?_ (fun _ => ?_)
theorem tattlelaw06_TableParts.mono : ∀ a0 a1 k, LeO (tattlelaw06_TableParts.f k a0 a1) (tattlelaw06_TableParts.f (k + 1) a0 a1) := by
  intro a0 a1 k
  obtain ⟨ih0, ih1, ih2, ih3⟩ := tattlelaw06_TableParts.mono_l k
  unfold tattlelaw06_TableParts.f
  repeat' first
      | (with_reducible exact ih0 _ _ _)
      | (with_reducible exact ih1 _ _ _)
      | (with_reducible exact ih2 _ _ _ _)
      | (with_reducible exact ih3 _ _ _ _)
      | (with_reducible exact table_Apply.mono _ _ _ _ _)
      | (with_reducible exact table_Check.mono _ _)
      | (with_reducible exact tattleref02_Many.mono _ _ _)
      | (with_reducible exact LeO.refl _)
      | (with_reducible exact LeO.none _)
      | (with_reducible refine LeO.ite ?_ ?_)
      | (with_reducible refine LeO.bind ?_ (fun _ => ?_))
      | exact ih0 _ _ _
      | exact ih1 _ _ _
      | exact ih2 _ _ _ _
      | exact ih3 _ _ _ _
      | exact table_Apply.mono _ _ _ _ _
      | exact table_Check.mono _ _
      | exact tattleref02_Many.mono _ _ _
      | exact LeO.none _
      | refine LeO.ite ?_ ?_
      | refine LeO.bind ?_ (fun _ => ?_)
set_option maxHeartbeats 8000000 in
set_option maxRecDepth 100000 in
theorem tattlelaw06_TableParts.calls (k : Nat) (A0 : Option Addr) (c0 : Nat) (l0 : List (S26)) (a1 : Int) (r : Bool) (w : World) (hr0 : Kd.C k26 w A0 l0.length l0) (hc0 : l0.length ≤ c0) (hrt : Aside0 (r = true)) (h : tattlelaw06_TableParts.f k l0 a1 = some r) :
    Calls Try.prog 10 #[.slice A0 l0.length c0, .int .u8 a1] w fun e w' => e = .returned (.bool r) ∧ Below w.heap.size w w' := by
  have hu26 := Try.underlying26
  have HR0 := Aside0.mk hr0
  have HC0 := Aside0.mk hc0
  clear hr0 hc0
  have HB := Aside0.mk (Below.refl w.heap.size w)
  have H : ((tattlelaw06_Few.f l0).bind fun t371 => ((table_Check.f k t371).bind fun t374 => (if t374 = 0 then (tattlelaw06_TableParts.j0 k t371 a1 ((t371.length : Int) == 0)) else (tattlelaw06_TableParts.j0 k t371 a1 true)))) = some r := h
  clear h
  replace H := Option.bind_eq_some_iff.mp H
  obtain ⟨t371, A30, H⟩ := H
  replace H : ((table_Check.f k t371).bind fun t374 => (if t374 = 0 then (tattlelaw06_TableParts.j0 k t371 a1 ((t371.length : Int) == 0)) else (tattlelaw06_TableParts.j0 k t371 a1 true))) = some r := H
  have A3 := Aside0.mk A30
  clear A30
  have HC4 := Aside0.mk H
  clear H
  go_enter Try.func10, Try.ntmps10
  go_upto_region 2 with (first | ((with_reducible refine gate_callee (f := 26) rfl ?_); refine goesL_ (some 15) rfl rfl Try.func26 (by kernel_rfl) rfl #[.slice A0 l0.length c0] rfl (by (try simp only [List.map_toArray, List.map_cons, List.map_nil]); first | done | rfl | (simp only [List.length_drop, List.length_take]; rfl)) ?_; (with_reducible refine (tattlelaw06_Few.calls (fun k_ => k_ < w.heap.size) _ _ l0 t371 _ ?side1 A3.out).mono ?_); (case side1 => exact Kd.V_mk HC0.out (Kd.F_below (Kd.C_F k26_heap HR0.out) (by repeat (first | (with_reducible first | exact HB.out | apply below_alloc | apply pw_below_drewN | apply below_drew1) | exact HB.out)))); rintro e w5 ⟨v372, rfl, ho0, hb⟩; refine ⟨_, rfl, ?_⟩; have n0_ := Aside0.mk (Kd.V_lower (Kd.V_mono (ok' := fun k_ => True) ho0 (fun k_ hk_ => trivial)) (below_size (by repeat (first | (with_reducible first | exact HB.out | apply below_alloc | apply pw_below_drewN | apply below_drew1) | exact HB.out)))); have n1_ := Aside0.mk (below_step (by repeat (first | (with_reducible first | exact HB.out | apply below_alloc | apply pw_below_drewN | apply below_drew1) | exact HB.out)) hb); clear HB; have HO373 := n0_; have HB := n1_; clear n0_ n1_; (try clear hb); (try clear hb2); (try clear hk); (try clear hi); (try clear ho0)))
  (try simp only [Act.put, List.setIfInBounds_toArray, List.set_cons_zero, List.set_cons_succ])
  go_cut [23] (fun v23 wc => ∃ (kq : Nat) (x23_3 : Bool), v23 = .bool x23_3 ∧ Aside0 (tattlelaw06_TableParts.j0 kq t371 a1 x23_3 = some r) ∧ Aside0 (kq ≤ k) ∧ Aside0 (Kd.V k26 26 wc w.heap.size (fun _ => True) v372 t371) ∧ Aside0 (Below w.heap.size w wc))
  case first =>
    have H := HC4.out
    clear HC4
    replace H := Option.bind_eq_some_iff.mp H
    obtain ⟨t374, A60, H⟩ := H
    replace H : (if t374 = 0 then (tattlelaw06_TableParts.j0 k t371 a1 ((t371.length : Int) == 0)) else (tattlelaw06_TableParts.j0 k t371 a1 true)) = some r := H
    have A6 := Aside0.mk A60
    clear A60
    by_cases c7 : t374 = 0
    · rw [if_pos c7] at H
      have c7b0 : (t374 == 0) = true := beq_iff_eq.mpr c7
      have c7b1 : (t374 != 0) = false := bne_eq_false_iff_eq.mpr c7
      clear c7
      (first | rw [c7b0] | (simp only [i64_w, i32_w]; rw [c7b0]) | skip)
      have H' := Aside0.mk H
      clear H
      obtain ⟨Ao8, co8, eo8⟩ := Kd.V_slice HO373.out
      subst eo8
      go_wp2_with (first | ((with_reducible refine gate_callee (f := 27) rfl ?_); refine goesL_ (some 17) rfl rfl Try.func27 (by kernel_rfl) rfl #[.slice Ao8 t371.length co8] rfl (by (try simp only [List.map_toArray, List.map_cons, List.map_nil]); first | done | rfl | (simp only [List.length_drop, List.length_take]; rfl)) ?_; (with_reducible refine (table_Check.calls k _ _ t371 t374 _ ?side1 ?side2 A6.out).mono ?_); (case side1 => repeat (first | exact (Kd.V_reads' HO373.out).2.2 | (with_reducible refine Kd.C_alloc ?_ _) | (with_reducible refine Kd.C_drewN ?_ _) | (with_reducible refine Kd.C_drew ?_))); (case side2 => exact (Kd.V_reads' HO373.out).2.1); rintro e w9 ⟨rfl, hb⟩; refine ⟨_, rfl, ?_⟩; have n0_ := Aside0.mk (Kd.V_below (by (with_reducible repeat (first | apply Kd.V_alloc | apply Kd.V_drewN | apply Kd.V_drew)); exact HO373.out) hb); have n1_ := Aside0.mk (below_step (by repeat (first | (with_reducible first | exact HB.out | apply below_alloc | apply pw_below_drewN | apply below_drew1) | exact HB.out)) hb); clear HO373; clear HB; have HO373 := n0_; have HB := n1_; clear n0_ n1_; (try clear hb); (try clear hb2); (try clear hk); (try clear hi)))
      go_meet
      case rel => exact ⟨_, (((t371.length : Int) == 0)), (by first | rfl | (simp; done) | (simp [*]; done)), H', ⟨by first | omega | exact Nat.le_refl _⟩, ⟨by (with_reducible repeat (first | apply Kd.V_alloc | apply Kd.V_drewN | apply Kd.V_drew)); exact HO373.out⟩, ⟨by repeat (first | (with_reducible first | exact HB.out | apply below_alloc | apply pw_below_drewN | apply below_drew1) | exact HB.out)⟩⟩
    · rw [if_neg c7] at H
      have c7b0 : (t374 == 0) = false := beq_eq_false_iff_ne.mpr c7
      have c7b1 : (t374 != 0) = true := bne_iff_ne.mpr c7
      (first | rw [c7b0] | (simp only [i64_w, i32_w]; rw [c7b0]) | skip)
      have H' := Aside0.mk H
      clear H
      obtain ⟨Ao10, co10, eo10⟩ := Kd.V_slice HO373.out
      subst eo10
      go_wp2_with (first | ((with_reducible refine gate_callee (f := 27) rfl ?_); refine goesL_ (some 17) rfl rfl Try.func27 (by kernel_rfl) rfl #[.slice Ao10 t371.length co10] rfl (by (try simp only [List.map_toArray, List.map_cons, List.map_nil]); first | done | rfl | (simp only [List.length_drop, List.length_take]; rfl)) ?_; (with_reducible refine (table_Check.calls k _ _ t371 t374 _ ?side1 ?side2 A6.out).mono ?_); (case side1 => repeat (first | exact (Kd.V_reads' HO373.out).2.2 | (with_reducible refine Kd.C_alloc ?_ _) | (with_reducible refine Kd.C_drewN ?_ _) | (with_reducible refine Kd.C_drew ?_))); (case side2 => exact (Kd.V_reads' HO373.out).2.1); rintro e w11 ⟨rfl, hb⟩; refine ⟨_, rfl, ?_⟩; have n0_ := Aside0.mk (Kd.V_below (by (with_reducible repeat (first | apply Kd.V_alloc | apply Kd.V_drewN | apply Kd.V_drew)); exact HO373.out) hb); have n1_ := Aside0.mk (below_step (by repeat (first | (with_reducible first | exact HB.out | apply below_alloc | apply pw_below_drewN | apply below_drew1) | exact HB.out)) hb); clear HO373; clear HB; have HO373 := n0_; have HB := n1_; clear n0_ n1_; (try clear hb); (try clear hb2); (try clear hk); (try clear hi)))
      go_meet
      case rel => exact ⟨_, (true), (by first | rfl | (simp; done) | (simp [*]; done)), H', ⟨by first | omega | exact Nat.le_refl _⟩, ⟨by (with_reducible repeat (first | apply Kd.V_alloc | apply Kd.V_drewN | apply Kd.V_drew)); exact HO373.out⟩, ⟨by repeat (first | (with_reducible first | exact HB.out | apply below_alloc | apply pw_below_drewN | apply below_drew1) | exact HB.out)⟩⟩
  case rest =>
    clear HC4
    try clear c1
    try clear c2
    try clear p2
    try clear c7
    try clear c7b0
    try clear c7b1
    try clear c10
    obtain ⟨kq, x23_3, rfl, HA, HJ3, HO_0, HB⟩ := hcut
    cases kq with
    | zero => exact absurd HA.out (by simp [tattlelaw06_TableParts.j0])
    | succ kj3 =>
      have H := HA.out
      clear HA
      simp only [tattlelaw06_TableParts.j0] at H
      by_cases c12 : x23_3 = true
      · subst c12
        have H1 : ((tattlelaw06_awakeT.f).bind fun t375 => (some t375)) = some r := by rw [if_pos rfl] at H; exact H
        clear H
        have H := H1
        clear H1
        replace H := Option.bind_eq_some_iff.mp H
        obtain ⟨t375, A130, H⟩ := H
        replace H : (some t375) = some r := H
        have A13 := Aside0.mk A130
        clear A130
        obtain rfl := Option.some.inj H
        go_wp2_with (first | ((with_reducible refine gate_callee (f := 28) rfl ?_); refine goesL_ (some 24) rfl rfl Try.func28 (by kernel_rfl) rfl #[] rfl (by (try simp only [List.map_toArray, List.map_cons, List.map_nil]); first | done | rfl | (simp only [List.length_drop, List.length_take]; rfl)) ?_; (with_reducible refine (tattlelaw06_awakeT.calls  t375 _ A13.out).mono ?_); rintro e w14 ⟨rfl, hb⟩; refine ⟨_, rfl, ?_⟩; have n0_ := Aside0.mk (below_step (by repeat (first | (with_reducible first | exact HB.out | apply below_alloc | apply pw_below_drewN | apply below_drew1) | exact HB.out)) hb); clear HB; have HB := n0_; clear n0_; (try clear hb); (try clear hb2); (try clear hk); (try clear hi)))
        go_ret
        exact ⟨by first | rfl | (simp [errW_none, errW_some] <;> rfl) | (simp [*, errW_none, errW_some] <;> rfl), by repeat (first | (with_reducible first | exact HB.out | apply below_alloc | apply pw_below_drewN | apply below_drew1) | exact HB.out)⟩
      · replace c12 := Bool.eq_false_iff.mpr c12
        subst c12
        have H1 : (if (t371.length : Int) = 0 then (none) else (if 0 ≤ (Int.tmod (wrap64 (a1)) (t371.length : Int)) then (if (Int.tmod (wrap64 (a1)) (t371.length : Int)) < (t371.length : Int) then (if ((rd_T26 t371 (Int.tmod (wrap64 (a1)) (t371.length : Int))).f0) = 18446744073709551615 then ((tattlelaw06_awakeT.f).bind fun t377 => (some t377)) else ((table_Up.f t371).bind fun t378 => ((table_Lowest.f t371).bind fun bt381 => (if ((bt381.2 == 0) != (decide ((t378.length : Int) > 0))) = true then (tattlelaw06_TableParts.j1 kj3 t371 (Int.tmod (wrap64 (a1)) (t371.length : Int)) true) else (if bt381.2 = 0 then (if 0 < (t378.length : Int) then (tattlelaw06_TableParts.j1 kj3 t371 (Int.tmod (wrap64 (a1)) (t371.length : Int)) (bt381.1 != (rd t378 0))) else (none)) else (tattlelaw06_TableParts.j1 kj3 t371 (Int.tmod (wrap64 (a1)) (t371.length : Int)) false)))))) else (none)) else (none))) = some r := by rw [if_neg (show ¬ (false = true) by decide)] at H; exact H
        clear H
        have H := H1
        clear H1
        by_cases c15 : (t371.length : Int) = 0
        · rw [if_pos c15] at H
          exact absurd H (by simp)
        · rw [if_neg c15] at H
          have c15b0 : ((t371.length : Int) == 0) = false := beq_eq_false_iff_ne.mpr c15
          have c15b1 : ((t371.length : Int) != 0) = true := bne_iff_ne.mpr c15
          have c15b2 : ¬ (t371 = []) := fun h_ => c15 (by rw [h_]; rfl)
          obtain ⟨ji16, hji16⟩ : ∃ j_ : Int, (Int.tmod (wrap64 (a1)) (t371.length : Int)) = j_ := ⟨_, rfl⟩
          replace H : (if 0 ≤ (ji16) then (if (ji16) < (t371.length : Int) then (if ((rd_T26 t371 (ji16)).f0) = 18446744073709551615 then ((tattlelaw06_awakeT.f).bind fun t377 => (some t377)) else ((table_Up.f t371).bind fun t378 => ((table_Lowest.f t371).bind fun bt381 => (if ((bt381.2 == 0) != (decide ((t378.length : Int) > 0))) = true then (tattlelaw06_TableParts.j1 kj3 t371 ji16 true) else (if bt381.2 = 0 then (if 0 < (t378.length : Int) then (tattlelaw06_TableParts.j1 kj3 t371 ji16 (bt381.1 != (rd t378 0))) else (none)) else (tattlelaw06_TableParts.j1 kj3 t371 ji16 false)))))) else (none)) else (none)) = some r := by first | (rw [hji16] at H; exact H) | (simp only [hji16] at H ⊢; exact H)
          by_cases c17 : 0 ≤ (ji16)
          · rw [if_pos c17] at H
            have c17b0 : decide (0 ≤ (ji16)) = true := decide_eq_true c17
            clear c17
            by_cases c18 : (ji16) < (t371.length : Int)
            · rw [if_pos c18] at H
              have c18b0 : decide ((ji16) < (t371.length : Int)) = true := decide_eq_true c18
              clear c18
              by_cases c19 : ((rd_T26 t371 (ji16)).f0) = 18446744073709551615
              · rw [if_pos c19] at H
                have c19b0 : (((rd_T26 t371 (ji16)).f0) == 18446744073709551615) = true := beq_iff_eq.mpr c19
                have c19b1 : (((rd_T26 t371 (ji16)).f0) != 18446744073709551615) = false := bne_eq_false_iff_eq.mpr c19
                clear c19
                replace H := Option.bind_eq_some_iff.mp H
                obtain ⟨t377, A200, H⟩ := H
                replace H : (some t377) = some r := H
                have A20 := Aside0.mk A200
                clear A200
                obtain rfl := Option.some.inj H
                obtain ⟨Ao21, co21, eo21⟩ := Kd.V_slice HO_0.out
                subst eo21
                have p376 : 0 ≤ ((ji16) : Int) := of_decide_eq_true (by first | (with_reducible assumption) | assumption)
                have q376 : (ji16) < (t371.length : Int) := of_decide_eq_true (by first | (with_reducible assumption) | assumption)
                obtain ⟨ad376, e376, hx376_0, hx376_1⟩ := at_T26 (Kd.V_reads' HO_0.out).2.2 (ji16) p376 q376
                cases e376
                replace p376 := eq_true p376
                replace q376 := eq_true q376
                go_wp2_with (first | ((with_reducible refine gate_callee (f := 28) rfl ?_); refine goesL_ (some 36) rfl rfl Try.func28 (by kernel_rfl) rfl #[] rfl (by (try simp only [List.map_toArray, List.map_cons, List.map_nil]); first | done | rfl | (simp only [List.length_drop, List.length_take]; rfl)) ?_; (with_reducible refine (tattlelaw06_awakeT.calls  t377 _ A20.out).mono ?_); rintro e w22 ⟨rfl, hb⟩; refine ⟨_, rfl, ?_⟩; have n0_ := Aside0.mk (below_step (by repeat (first | (with_reducible first | exact HB.out | apply below_alloc | apply pw_below_drewN | apply below_drew1) | exact HB.out)) hb); clear HB; have HB := n0_; clear n0_; (try clear hb); (try clear hb2); (try clear hk); (try clear hi)))
                go_ret
                exact ⟨by first | rfl | (simp [errW_none, errW_some] <;> rfl) | (simp only [← hji16]; first | rfl | (simp [errW_none, errW_some] <;> rfl)) | (simp [*, errW_none, errW_some] <;> rfl), by repeat (first | (with_reducible first | exact HB.out | apply below_alloc | apply pw_below_drewN | apply below_drew1) | exact HB.out)⟩
              · rw [if_neg c19] at H
                have c19b0 : (((rd_T26 t371 (ji16)).f0) == 18446744073709551615) = false := beq_eq_false_iff_ne.mpr c19
                have c19b1 : (((rd_T26 t371 (ji16)).f0) != 18446744073709551615) = true := bne_iff_ne.mpr c19
                replace H := Option.bind_eq_some_iff.mp H
                obtain ⟨t378, A230, H⟩ := H
                replace H : ((table_Lowest.f t371).bind fun bt381 => (if ((bt381.2 == 0) != (decide ((t378.length : Int) > 0))) = true then (tattlelaw06_TableParts.j1 kj3 t371 ji16 true) else (if bt381.2 = 0 then (if 0 < (t378.length : Int) then (tattlelaw06_TableParts.j1 kj3 t371 ji16 (bt381.1 != (rd t378 0))) else (none)) else (tattlelaw06_TableParts.j1 kj3 t371 ji16 false)))) = some r := H
                have A23 := Aside0.mk A230
                clear A230
                replace H := Option.bind_eq_some_iff.mp H
                obtain ⟨⟨t381, t382⟩, A240, H⟩ := H
                replace H : (if ((t382 == 0) != (decide ((t378.length : Int) > 0))) = true then (tattlelaw06_TableParts.j1 kj3 t371 ji16 true) else (if t382 = 0 then (if 0 < (t378.length : Int) then (tattlelaw06_TableParts.j1 kj3 t371 ji16 (t381 != (rd t378 0))) else (none)) else (tattlelaw06_TableParts.j1 kj3 t371 ji16 false))) = some r := H
                have A24 := Aside0.mk A240
                clear A240
                have HC25 := Aside0.mk H
                clear H
                obtain ⟨Ao26, co26, eo26⟩ := Kd.V_slice HO_0.out
                subst eo26
                have p376 : 0 ≤ ((ji16) : Int) := of_decide_eq_true (by first | (with_reducible assumption) | assumption)
                have q376 : (ji16) < (t371.length : Int) := of_decide_eq_true (by first | (with_reducible assumption) | assumption)
                obtain ⟨ad376, e376, hx376_0, hx376_1⟩ := at_T26 (Kd.V_reads' HO_0.out).2.2 (ji16) p376 q376
                cases e376
                replace p376 := eq_true p376
                replace q376 := eq_true q376
                go_upto_region 9 with (first | ((with_reducible refine gate_callee (f := 31) rfl ?_); refine goesL_ (some 38) rfl rfl Try.func31 (by kernel_rfl) rfl #[.slice (some ad376) t371.length co26] rfl (by (try simp only [List.map_toArray, List.map_cons, List.map_nil]); first | done | rfl | (simp only [List.length_drop, List.length_take]; rfl)) ?_; (with_reducible refine (table_Up.calls _ _ t371 t378 _ ?side1 ?side2 A23.out).mono ?_); (case side1 => repeat (first | exact (Kd.V_reads' HO_0.out).2.2 | (with_reducible refine Kd.C_alloc ?_ _) | (with_reducible refine Kd.C_drewN ?_ _) | (with_reducible refine Kd.C_drew ?_))); (case side2 => exact (Kd.V_reads' HO_0.out).2.1); rintro e w27 ⟨v379, rfl, ho0, hb⟩; refine ⟨_, rfl, ?_⟩; have n0_ := Aside0.mk (Kd.V_elder' (by (with_reducible repeat (first | apply Kd.V_alloc | apply Kd.V_drewN | apply Kd.V_drew)); exact HO_0.out) (Kd.R_base ho0) hb); have n1_ := Aside0.mk (Kd.R_lower ho0 (below_size (by repeat (first | (with_reducible first | exact HB.out | apply below_alloc | apply pw_below_drewN | apply below_drew1) | exact HB.out)))); have n2_ := Aside0.mk (below_step (by repeat (first | (with_reducible first | exact HB.out | apply below_alloc | apply pw_below_drewN | apply below_drew1) | exact HB.out)) hb); clear HO_0; clear HB; have HO_0 := n0_; have HO380 := n1_; have HB := n2_; clear n0_ n1_ n2_; (try clear hb); (try clear hb2); (try clear hk); (try clear hi); (try clear ho0)) | ((with_reducible refine gate_callee (f := 32) rfl ?_); refine goesL_ (some 41) rfl rfl Try.func32 (by kernel_rfl) rfl #[.slice (some ad376) t371.length co26] rfl (by (try simp only [List.map_toArray, List.map_cons, List.map_nil]); first | done | rfl | (simp only [List.length_drop, List.length_take]; rfl)) ?_; (with_reducible refine (table_Lowest.calls _ _ t371 t381 t382 _ ?side1 ?side2 A24.out).mono ?_); (case side1 => repeat (first | exact (Kd.V_reads' HO_0.out).2.2 | (with_reducible refine Kd.C_alloc ?_ _) | (with_reducible refine Kd.C_drewN ?_ _) | (with_reducible refine Kd.C_drew ?_))); (case side2 => exact (Kd.V_reads' HO_0.out).2.1); rintro e w28 ⟨rfl, hb⟩; refine ⟨_, rfl, ?_⟩; have n0_ := Aside0.mk (Kd.V_below (by (with_reducible repeat (first | apply Kd.V_alloc | apply Kd.V_drewN | apply Kd.V_drew)); exact HO_0.out) hb); have n1_ := Aside0.mk (Kd.R_below (by (with_reducible repeat (first | apply Kd.R_alloc | apply Kd.R_drewN | apply Kd.R_drew)); exact HO380.out) hb); have n2_ := Aside0.mk (below_step (by repeat (first | (with_reducible first | exact HB.out | apply below_alloc | apply pw_below_drewN | apply below_drew1) | exact HB.out)) hb); clear HO_0; clear HO380; clear HB; have HO_0 := n0_; have HO380 := n1_; have HB := n2_; clear n0_ n1_ n2_; (try clear hb); (try clear hb2); (try clear hk); (try clear hi)))
                (try simp only [Act.put, List.setIfInBounds_toArray, List.set_cons_zero, List.set_cons_succ])
                go_cut [60] (fun v60 wc => ∃ (kq : Nat) (x60_24 : Bool), v60 = .bool x60_24 ∧ Aside0 (tattlelaw06_TableParts.j1 kq t371 ji16 x60_24 = some r) ∧ Aside0 (kq ≤ kj3) ∧ Aside0 (Kd.V k26 26 wc w.heap.size (fun _ => True) (.slice (some ad376) t371.length co26) t371) ∧ Aside0 (Below w.heap.size w wc))
                case first =>
                  have H := HC25.out
                  clear HC25
                  by_cases q1_ : t382 = 0
                  · by_cases q2_ : 0 < (t378.length : Int)
                    · have h1_ : (t382 == 0) = true := beq_iff_eq.mpr q1_
                      have h1n_ : (t382 != 0) = false := bne_eq_false_iff_eq.mpr q1_
                      have h2_ : decide (0 < (t378.length : Int)) = true := decide_eq_true q2_
                      have h3_ : decide (0 < t378.length) = true := decide_eq_true (by omega)
                      have h4_ : decide ((t378.length : Int) > 0) = true := h2_
                      have c29 : ¬((t382 == 0) != (decide ((t378.length : Int) > 0))) = true := by rw [h1_, h4_]; decide
                      rw [if_neg c29, if_pos q1_, if_pos q2_] at H
                      clear c29
                      clear q1_ q2_ h4_
                      have H' := Aside0.mk H
                      clear H
                      obtain ⟨Ao33, co33, eo33⟩ := Kd.R_slice HO380.out
                      subst eo33
                      have p383 : 0 ≤ (0 : Int) := (by omega)
                      have q383 : 0 < (t378.length : Int) := of_decide_eq_true (by first | (with_reducible assumption) | assumption)
                      obtain ⟨ad383, e383, hx383_0⟩ := Kd.at_int (Kd.R_reads' HO380.out).2.2 0 p383 q383
                      cases e383
                      have qi383 : (0 < t378.length) = True := eq_true (by omega)
                      (try rw [show ((0 : Int)).toNat = 0 from rfl] at hx383_0)
                      (try rw [Addr.add_zero'] at hx383_0)
                      replace p383 := eq_true p383
                      replace q383 := eq_true q383
                      go_wp2
                      go_meet
                      case rel => exact ⟨_, ((t381 != (rd t378 0))), (by first | rfl | (simp; done) | (simp [*]; done)), H', ⟨by have := HJ3.out; first | omega | exact Nat.le_refl _⟩, ⟨by (with_reducible repeat (first | apply Kd.V_alloc | apply Kd.V_drewN | apply Kd.V_drew)); exact Kd.V_mono HO_0.out (fun _ hk => trivial)⟩, ⟨by repeat (first | (with_reducible first | exact HB.out | apply below_alloc | apply pw_below_drewN | apply below_drew1) | exact HB.out)⟩⟩
                    · have h1_ : (t382 == 0) = true := beq_iff_eq.mpr q1_
                      have h1n_ : (t382 != 0) = false := bne_eq_false_iff_eq.mpr q1_
                      have h2_ : decide (0 < (t378.length : Int)) = false := decide_eq_false q2_
                      have h3_ : decide (0 < t378.length) = false := decide_eq_false (by omega)
                      have h4_ : decide ((t378.length : Int) > 0) = false := h2_
                      have c29 : ((t382 == 0) != (decide ((t378.length : Int) > 0))) = true := by rw [h1_, h4_]; decide
                      rw [if_pos c29] at H
                      clear c29
                      clear q1_ q2_ h4_
                      have H' := Aside0.mk H
                      clear H
                      obtain ⟨Ao30, co30, eo30⟩ := Kd.R_slice HO380.out
                      subst eo30
                      go_wp2
                      go_meet
                      case rel => exact ⟨_, (true), (by first | rfl | (simp; done) | (simp [*]; done)), H', ⟨by have := HJ3.out; first | omega | exact Nat.le_refl _⟩, ⟨by (with_reducible repeat (first | apply Kd.V_alloc | apply Kd.V_drewN | apply Kd.V_drew)); exact Kd.V_mono HO_0.out (fun _ hk => trivial)⟩, ⟨by repeat (first | (with_reducible first | exact HB.out | apply below_alloc | apply pw_below_drewN | apply below_drew1) | exact HB.out)⟩⟩
                  · by_cases q2_ : 0 < (t378.length : Int)
                    · have h1_ : (t382 == 0) = false := beq_eq_false_iff_ne.mpr q1_
                      have h1n_ : (t382 != 0) = true := bne_iff_ne.mpr q1_
                      have h2_ : decide (0 < (t378.length : Int)) = true := decide_eq_true q2_
                      have h3_ : decide (0 < t378.length) = true := decide_eq_true (by omega)
                      have h4_ : decide ((t378.length : Int) > 0) = true := h2_
                      have c29 : ((t382 == 0) != (decide ((t378.length : Int) > 0))) = true := by rw [h1_, h4_]; decide
                      rw [if_pos c29] at H
                      clear c29
                      clear q1_ q2_ h4_
                      have H' := Aside0.mk H
                      clear H
                      obtain ⟨Ao30, co30, eo30⟩ := Kd.R_slice HO380.out
                      subst eo30
                      go_wp2
                      go_meet
                      case rel => exact ⟨_, (true), (by first | rfl | (simp; done) | (simp [*]; done)), H', ⟨by have := HJ3.out; first | omega | exact Nat.le_refl _⟩, ⟨by (with_reducible repeat (first | apply Kd.V_alloc | apply Kd.V_drewN | apply Kd.V_drew)); exact Kd.V_mono HO_0.out (fun _ hk => trivial)⟩, ⟨by repeat (first | (with_reducible first | exact HB.out | apply below_alloc | apply pw_below_drewN | apply below_drew1) | exact HB.out)⟩⟩
                    · have h1_ : (t382 == 0) = false := beq_eq_false_iff_ne.mpr q1_
                      have h1n_ : (t382 != 0) = true := bne_iff_ne.mpr q1_
                      have h2_ : decide (0 < (t378.length : Int)) = false := decide_eq_false q2_
                      have h3_ : decide (0 < t378.length) = false := decide_eq_false (by omega)
                      have h4_ : decide ((t378.length : Int) > 0) = false := h2_
                      have c29 : ¬((t382 == 0) != (decide ((t378.length : Int) > 0))) = true := by rw [h1_, h4_]; decide
                      rw [if_neg c29, if_neg q1_] at H
                      clear c29
                      clear q1_ q2_ h4_
                      have H' := Aside0.mk H
                      clear H
                      obtain ⟨Ao34, co34, eo34⟩ := Kd.R_slice HO380.out
                      subst eo34
                      go_wp2
                      go_meet
                      case rel => exact ⟨_, (false), (by first | rfl | (simp; done) | (simp [*]; done)), H', ⟨by have := HJ3.out; first | omega | exact Nat.le_refl _⟩, ⟨by (with_reducible repeat (first | apply Kd.V_alloc | apply Kd.V_drewN | apply Kd.V_drew)); exact Kd.V_mono HO_0.out (fun _ hk => trivial)⟩, ⟨by repeat (first | (with_reducible first | exact HB.out | apply below_alloc | apply pw_below_drewN | apply below_drew1) | exact HB.out)⟩⟩
                case rest =>
                  clear HC25
                  try clear c1
                  try clear c2
                  try clear p2
                  try clear c3
                  try clear p3
                  try clear q3
                  try clear hx3
                  try clear qi3
                  try clear p6
                  try clear c7
                  try clear c7b0
                  try clear c7b1
                  try clear c10
                  try clear c12
                  try clear c15
                  try clear c15b0
                  try clear c15b1
                  try clear c15b2
                  try clear c17
                  try clear c17b0
                  try clear c18
                  try clear c18b0
                  try clear c19
                  try clear c19b0
                  try clear c19b1
                  try clear c26
                  try clear c27
                  try clear c28
                  try clear c29
                  try clear c29b0
                  try clear c29b1
                  try clear c29b2
                  try clear c31
                  try clear c31b0
                  try clear c31b1
                  try clear c32
                  try clear c32b0
                  try clear c32b1
                  try clear hx376_0
                  try clear hx376_1
                  try clear hx383_0
                  try clear p2
                  try clear p376
                  try clear p383
                  try clear q376
                  try clear q383
                  obtain ⟨kq, x60_24, rfl, HA, HJ24, HO_0, HB⟩ := hcut
                  cases kq with
                  | zero => exact absurd HA.out (by simp [tattlelaw06_TableParts.j1])
                  | succ kj24 =>
                    have H := HA.out
                    clear HA
                    simp only [tattlelaw06_TableParts.j1] at H
                    by_cases c35 : x60_24 = true
                    · subst c35
                      have H1 : (some false) = some r := by rw [if_pos rfl] at H; exact H
                      clear H
                      have H := H1
                      clear H1
                      exact absurd ((Option.some.inj H).trans hrt.out) (by decide)
                    · replace c35 := Bool.eq_false_iff.mpr c35
                      subst c35
                      have H1 : (if 0 ≤ ji16 then (if ji16 < (t371.length : Int) then ((table_Apply.f kj24 t371 ji16 ((rd_T26 t371 ji16).f0) 3).bind fun bt385 => (if bt385.2.2 = 0 then (tattlelaw06_TableParts.j2 kj24 t371 ji16 bt385.1 (bt385.2.1 != (((rd_T26 t371 ji16).f1) != 3))) else (tattlelaw06_TableParts.j2 kj24 t371 ji16 bt385.1 true))) else (none)) else (none)) = some r := by rw [if_neg (show ¬ (false = true) by decide)] at H; exact H
                      clear H
                      have H := H1
                      clear H1
                      by_cases c36 : 0 ≤ ji16
                      · rw [if_pos c36] at H
                        have c36b0 : decide (0 ≤ ji16) = true := decide_eq_true c36
                        clear c36
                        by_cases c37 : ji16 < (t371.length : Int)
                        · rw [if_pos c37] at H
                          have c37b0 : decide (ji16 < (t371.length : Int)) = true := decide_eq_true c37
                          clear c37
                          replace H := Option.bind_eq_some_iff.mp H
                          obtain ⟨⟨t385, t388, t389⟩, A380, H⟩ := H
                          replace H : (if t389 = 0 then (tattlelaw06_TableParts.j2 kj24 t371 ji16 t385 (t388 != (((rd_T26 t371 ji16).f1) != 3))) else (tattlelaw06_TableParts.j2 kj24 t371 ji16 t385 true)) = some r := H
                          have A38 := Aside0.mk A380
                          clear A380
                          have HC39 := Aside0.mk H
                          clear H
                          have p384 : 0 ≤ (ji16 : Int) := of_decide_eq_true (by first | (with_reducible assumption) | assumption)
                          have q384 : ji16 < (t371.length : Int) := of_decide_eq_true (by first | (with_reducible assumption) | assumption)
                          obtain ⟨ad384, e384, hx384_0, hx384_1⟩ := at_T26 (Kd.V_reads' HO_0.out).2.2 ji16 p384 q384
                          obtain rfl : ad376 = ad384 := (by injection e384)
                          replace p384 := eq_true p384
                          replace q384 := eq_true q384
                          go_upto_region 12 with (first | ((with_reducible refine gate_callee (f := 29) rfl ?_); refine goesL_ (some 70) rfl rfl Try.func29 (by kernel_rfl) rfl #[.slice (some ad376) t371.length co26, .int .i64 ji16, .agg #[.int .u64 ((rd_T26 t371 ji16).f0), .int .i64 3]] rfl (by (try simp only [List.map_toArray, List.map_cons, List.map_nil]); first | done | (simp only [hji16]; rfl) | rfl | (simp only [List.length_drop, List.length_take]; rfl)) ?_; (with_reducible refine (table_Apply.calls kj24 (fun k_ => True) _ _ t371 ji16 ((rd_T26 t371 ji16).f0) 3 t385 t388 t389 _ ?side1 A38.out).mono ?_); (case side1 => exact HO_0.out); rintro e w40 ⟨v386, rfl, ho0, hb⟩; refine ⟨_, rfl, ?_⟩; have n0_ := Aside0.mk (Kd.V_below (by (with_reducible repeat (first | apply Kd.V_alloc | apply Kd.V_drewN | apply Kd.V_drew)); exact HO_0.out) hb); have n1_ := Aside0.mk (Kd.V_lower (Kd.V_mono (ok' := fun k_ => True) ho0 (fun k_ hk_ => trivial)) (below_size (by repeat (first | (with_reducible first | exact HB.out | apply below_alloc | apply pw_below_drewN | apply below_drew1) | exact HB.out)))); have n2_ := Aside0.mk (below_step (by repeat (first | (with_reducible first | exact HB.out | apply below_alloc | apply pw_below_drewN | apply below_drew1) | exact HB.out)) hb); clear HO_0; clear HB; have HO_0 := n0_; have HO387 := n1_; have HB := n2_; clear n0_ n1_ n2_; (try clear hb); (try clear hb2); (try clear hk); (try clear hi); (try clear ho0)))
                          (try simp only [Act.put, List.setIfInBounds_toArray, List.set_cons_zero, List.set_cons_succ])
                          go_cut [85] (fun v85 wc => ∃ (kq : Nat) (x85_38 : Bool), v85 = .bool x85_38 ∧ Aside0 (tattlelaw06_TableParts.j2 kq t371 ji16 t385 x85_38 = some r) ∧ Aside0 (kq ≤ kj24) ∧ Aside0 (Kd.V k26 26 wc w.heap.size (fun _ => True) (.slice (some ad376) t371.length co26) t371) ∧ Aside0 (Kd.V k26 26 wc w.heap.size (fun _ => True) v386 t385) ∧ Aside0 (Below w.heap.size w wc))
                          case first =>
                            have H := HC39.out
                            clear HC39
                            by_cases c41 : t389 = 0
                            · rw [if_pos c41] at H
                              have c41b0 : (t389 == 0) = true := beq_iff_eq.mpr c41
                              have c41b1 : (t389 != 0) = false := bne_eq_false_iff_eq.mpr c41
                              clear c41
                              (first | rw [c41b0] | (simp only [i64_w, i32_w]; rw [c41b0]) | skip)
                              have H' := Aside0.mk H
                              clear H
                              have p390 : 0 ≤ (ji16 : Int) := of_decide_eq_true (by first | (with_reducible assumption) | assumption)
                              have q390 : ji16 < (t371.length : Int) := of_decide_eq_true (by first | (with_reducible assumption) | assumption)
                              obtain ⟨ad390, e390, hx390_0, hx390_1⟩ := at_T26 (Kd.V_reads' HO_0.out).2.2 ji16 p390 q390
                              obtain rfl : ad376 = ad390 := (by injection e390)
                              replace p390 := eq_true p390
                              replace q390 := eq_true q390
                              go_wp2
                              go_meet
                              case rel => exact ⟨_, ((t388 != (((rd_T26 t371 ji16).f1) != 3))), (by first | rfl | (simp; done) | (simp only [← hji16] <;> (first | rfl | simp)) | (simp [*]; done)), H', ⟨by have := HJ3.out; have := HJ24.out; first | omega | exact Nat.le_refl _⟩, ⟨by (with_reducible repeat (first | apply Kd.V_alloc | apply Kd.V_drewN | apply Kd.V_drew)); exact HO_0.out⟩, ⟨by (with_reducible repeat (first | apply Kd.V_alloc | apply Kd.V_drewN | apply Kd.V_drew)); exact HO387.out⟩, ⟨by repeat (first | (with_reducible first | exact HB.out | apply below_alloc | apply pw_below_drewN | apply below_drew1) | exact HB.out)⟩⟩
                            · rw [if_neg c41] at H
                              have c41b0 : (t389 == 0) = false := beq_eq_false_iff_ne.mpr c41
                              have c41b1 : (t389 != 0) = true := bne_iff_ne.mpr c41
                              (first | rw [c41b0] | (simp only [i64_w, i32_w]; rw [c41b0]) | skip)
                              have H' := Aside0.mk H
                              clear H
                              go_wp2
                              go_meet
                              case rel => exact ⟨_, (true), (by first | rfl | (simp; done) | (simp [*]; done)), H', ⟨by have := HJ3.out; have := HJ24.out; first | omega | exact Nat.le_refl _⟩, ⟨by (with_reducible repeat (first | apply Kd.V_alloc | apply Kd.V_drewN | apply Kd.V_drew)); exact HO_0.out⟩, ⟨by (with_reducible repeat (first | apply Kd.V_alloc | apply Kd.V_drewN | apply Kd.V_drew)); exact HO387.out⟩, ⟨by repeat (first | (with_reducible first | exact HB.out | apply below_alloc | apply pw_below_drewN | apply below_drew1) | exact HB.out)⟩⟩
                          case rest =>
                            clear HC39
                            try clear c1
                            try clear c2
                            try clear p2
                            try clear c3
                            try clear p3
                            try clear q3
                            try clear hx3
                            try clear qi3
                            try clear c4
                            try clear p6
                            try clear c7
                            try clear c7b0
                            try clear c7b1
                            try clear c10
                            try clear c12
                            try clear c15
                            try clear c15b0
                            try clear c15b1
                            try clear c15b2
                            try clear c17
                            try clear c17b0
                            try clear c18
                            try clear c18b0
                            try clear c19
                            try clear c19b0
                            try clear c19b1
                            try clear c26
                            try clear c27
                            try clear c28
                            try clear c29
                            try clear c29b0
                            try clear c29b1
                            try clear c29b2
                            try clear c31
                            try clear c31b0
                            try clear c31b1
                            try clear c32
                            try clear c32b0
                            try clear c32b1
                            try clear c35
                            try clear c36
                            try clear c36b0
                            try clear c37
                            try clear c37b0
                            try clear p37
                            try clear q37
                            try clear hx37
                            try clear p38
                            try clear q38
                            try clear hx38
                            try clear qi38
                            try clear p39
                            try clear q39
                            try clear hx39
                            try clear c41
                            try clear c41b0
                            try clear c41b1
                            try clear hx376_0
                            try clear hx376_1
                            try clear hx383_0
                            try clear hx384_0
                            try clear hx384_1
                            try clear hx390_0
                            try clear hx390_1
                            try clear p2
                            try clear p3
                            try clear p376
                            try clear p383
                            try clear p384
                            try clear p390
                            try clear p6
                            try clear q3
                            try clear q376
                            try clear q383
                            try clear q384
                            try clear q390
                            obtain ⟨kq, x85_38, rfl, HA, HJ38, HO_0, HO_9, HB⟩ := hcut
                            cases kq with
                            | zero => exact absurd HA.out (by simp [tattlelaw06_TableParts.j2])
                            | succ kj38 =>
                              have H := HA.out
                              clear HA
                              simp only [tattlelaw06_TableParts.j2] at H
                              by_cases c42 : x85_38 = true
                              · subst c42
                                have H1 : (some false) = some r := by rw [if_pos rfl] at H; exact H
                                clear H
                                have H := H1
                                clear H1
                                exact absurd ((Option.some.inj H).trans hrt.out) (by decide)
                              · replace c42 := Bool.eq_false_iff.mpr c42
                                subst c42
                                have H1 : ((table_Up.f t385).bind fun t391 => ((tattleref02_Many.f kj38 t391 ji16).bind fun t394 => (if t394 = 0 then ((table_Others.f t385 (-1)).bind fun t395 => ((tattleref02_Many.f kj38 t395 ji16).bind fun t398 => (if t398 = 0 then ((table_Others.f t371 ji16).bind fun t399 => ((tattleref02_Many.f kj38 t399 ji16).bind fun t402 => (tattlelaw06_TableParts.j3 kj38 t371 ji16 t385 (t402 != 0)))) else (tattlelaw06_TableParts.j3 kj38 t371 ji16 t385 true)))) else (tattlelaw06_TableParts.j3 kj38 t371 ji16 t385 true)))) = some r := by rw [if_neg (show ¬ (false = true) by decide)] at H; exact H
                                clear H
                                have H := H1
                                clear H1
                                have HC43 := Aside0.mk H
                                clear H
                                go_upto_region 14 with (fail)
                                go_cut [105] (fun v105 wc => ∃ (kq : Nat) (x105_42 : Bool), v105 = .bool x105_42 ∧ Aside0 (tattlelaw06_TableParts.j3 kq t371 ji16 t385 x105_42 = some r) ∧ Aside0 (kq ≤ kj38) ∧ Aside0 (Kd.V k26 26 wc w.heap.size (fun _ => True) (.slice (some ad376) t371.length co26) t371) ∧ Aside0 (Kd.V k26 26 wc w.heap.size (fun _ => True) v386 t385) ∧ Aside0 (Below w.heap.size w wc))
                                case first =>
                                  have H := HC43.out
                                  clear HC43
                                  replace H := Option.bind_eq_some_iff.mp H
                                  obtain ⟨t391, A440, H⟩ := H
                                  replace H : ((tattleref02_Many.f kj38 t391 ji16).bind fun t394 => (if t394 = 0 then ((table_Others.f t385 (-1)).bind fun t395 => ((tattleref02_Many.f kj38 t395 ji16).bind fun t398 => (if t398 = 0 then ((table_Others.f t371 ji16).bind fun t399 => ((tattleref02_Many.f kj38 t399 ji16).bind fun t402 => (tattlelaw06_TableParts.j3 kj38 t371 ji16 t385 (t402 != 0)))) else (tattlelaw06_TableParts.j3 kj38 t371 ji16 t385 true)))) else (tattlelaw06_TableParts.j3 kj38 t371 ji16 t385 true))) = some r := H
                                  have A44 := Aside0.mk A440
                                  clear A440
                                  replace H := Option.bind_eq_some_iff.mp H
                                  obtain ⟨t394, A450, H⟩ := H
                                  replace H : (if t394 = 0 then ((table_Others.f t385 (-1)).bind fun t395 => ((tattleref02_Many.f kj38 t395 ji16).bind fun t398 => (if t398 = 0 then ((table_Others.f t371 ji16).bind fun t399 => ((tattleref02_Many.f kj38 t399 ji16).bind fun t402 => (tattlelaw06_TableParts.j3 kj38 t371 ji16 t385 (t402 != 0)))) else (tattlelaw06_TableParts.j3 kj38 t371 ji16 t385 true)))) else (tattlelaw06_TableParts.j3 kj38 t371 ji16 t385 true)) = some r := H
                                  have A45 := Aside0.mk A450
                                  clear A450
                                  by_cases c46 : t394 = 0
                                  · rw [if_pos c46] at H
                                    have c46b0 : (t394 == 0) = true := beq_iff_eq.mpr c46
                                    have c46b1 : (t394 != 0) = false := bne_eq_false_iff_eq.mpr c46
                                    clear c46
                                    (first | rw [c46b0] | (simp only [i64_w, i32_w]; rw [c46b0]) | skip)
                                    replace H := Option.bind_eq_some_iff.mp H
                                    obtain ⟨t395, A470, H⟩ := H
                                    replace H : ((tattleref02_Many.f kj38 t395 ji16).bind fun t398 => (if t398 = 0 then ((table_Others.f t371 ji16).bind fun t399 => ((tattleref02_Many.f kj38 t399 ji16).bind fun t402 => (tattlelaw06_TableParts.j3 kj38 t371 ji16 t385 (t402 != 0)))) else (tattlelaw06_TableParts.j3 kj38 t371 ji16 t385 true))) = some r := H
                                    have A47 := Aside0.mk A470
                                    clear A470
                                    replace H := Option.bind_eq_some_iff.mp H
                                    obtain ⟨t398, A480, H⟩ := H
                                    replace H : (if t398 = 0 then ((table_Others.f t371 ji16).bind fun t399 => ((tattleref02_Many.f kj38 t399 ji16).bind fun t402 => (tattlelaw06_TableParts.j3 kj38 t371 ji16 t385 (t402 != 0)))) else (tattlelaw06_TableParts.j3 kj38 t371 ji16 t385 true)) = some r := H
                                    have A48 := Aside0.mk A480
                                    clear A480
                                    by_cases c49 : t398 = 0
                                    · rw [if_pos c49] at H
                                      have c49b0 : (t398 == 0) = true := beq_iff_eq.mpr c49
                                      have c49b1 : (t398 != 0) = false := bne_eq_false_iff_eq.mpr c49
                                      clear c49
                                      replace H := Option.bind_eq_some_iff.mp H
                                      obtain ⟨t399, A500, H⟩ := H
                                      replace H : ((tattleref02_Many.f kj38 t399 ji16).bind fun t402 => (tattlelaw06_TableParts.j3 kj38 t371 ji16 t385 (t402 != 0))) = some r := H
                                      have A50 := Aside0.mk A500
                                      clear A500
                                      replace H := Option.bind_eq_some_iff.mp H
                                      obtain ⟨t402, A510, H⟩ := H
                                      replace H : (tattlelaw06_TableParts.j3 kj38 t371 ji16 t385 (t402 != 0)) = some r := H
                                      have A51 := Aside0.mk A510
                                      clear A510
                                      have H' := Aside0.mk H
                                      clear H
                                      obtain ⟨Ao52, co52, eo52⟩ := Kd.V_slice HO_9.out
                                      subst eo52
                                      go_wp2_with (first | ((with_reducible refine gate_callee (f := 31) rfl ?_); refine goesL_ (some 87) rfl rfl Try.func31 (by kernel_rfl) rfl #[.slice Ao52 t385.length co52] rfl (by (try simp only [List.map_toArray, List.map_cons, List.map_nil]); first | done | rfl | (simp only [List.length_drop, List.length_take]; rfl)) ?_; (with_reducible refine (table_Up.calls _ _ t385 t391 _ ?side1 ?side2 A44.out).mono ?_); (case side1 => repeat (first | exact (Kd.V_reads' HO_9.out).2.2 | (with_reducible refine Kd.C_alloc ?_ _) | (with_reducible refine Kd.C_drewN ?_ _) | (with_reducible refine Kd.C_drew ?_))); (case side2 => exact (Kd.V_reads' HO_9.out).2.1); rintro e w53 ⟨v392, rfl, ho0, hb⟩; refine ⟨_, rfl, ?_⟩; have n0_ := Aside0.mk (Kd.V_elder' (by (with_reducible repeat (first | apply Kd.V_alloc | apply Kd.V_drewN | apply Kd.V_drew)); exact HO_0.out) (Kd.R_base ho0) hb); have n1_ := Aside0.mk (Kd.V_elder' (by (with_reducible repeat (first | apply Kd.V_alloc | apply Kd.V_drewN | apply Kd.V_drew)); exact HO_9.out) (Kd.R_base ho0) hb); have n2_ := Aside0.mk (Kd.R_lower ho0 (below_size (by repeat (first | (with_reducible first | exact HB.out | apply below_alloc | apply pw_below_drewN | apply below_drew1) | exact HB.out)))); have n3_ := Aside0.mk (below_step (by repeat (first | (with_reducible first | exact HB.out | apply below_alloc | apply pw_below_drewN | apply below_drew1) | exact HB.out)) hb); clear HO_0; clear HO_9; clear HB; have HO_0 := n0_; have HO_9 := n1_; have HO393 := n2_; have HB := n3_; clear n0_ n1_ n2_ n3_; (try clear hb); (try clear hb2); (try clear hk); (try clear hi); (try clear ho0); obtain ⟨Ao54, co54, eo54⟩ := Kd.R_slice HO393.out; subst eo54) | ((with_reducible refine gate_callee (f := 33) rfl ?_); refine goesL_ (some 89) rfl rfl Try.func33 (by kernel_rfl) rfl #[.slice Ao54 t391.length co54, .int .i64 ji16] rfl (by (try simp only [List.map_toArray, List.map_cons, List.map_nil]); first | done | (simp only [hji16]; rfl) | rfl | (simp only [List.length_drop, List.length_take]; rfl)) ?_; (with_reducible refine (tattleref02_Many.calls kj38 _ _ t391 ji16 t394 _ ?side1 ?side2 A45.out).mono ?_); (case side1 => repeat (first | exact (Kd.R_reads' HO393.out).2.2 | (with_reducible refine Kd.C_alloc ?_ _) | (with_reducible refine Kd.C_drewN ?_ _) | (with_reducible refine Kd.C_drew ?_))); (case side2 => exact (Kd.R_reads' HO393.out).2.1); rintro e w' ⟨rfl, ⟨nd, rfl⟩⟩; refine ⟨_, rfl, ?_⟩) | (go_at_call 34; (with_reducible refine (table_Others.calls _ _ t385 (-1) t395 _ ?side1 ?side2 A47.out).mono ?_); (case side1 => repeat (first | exact (Kd.V_reads' HO_9.out).2.2 | (with_reducible refine Kd.C_alloc ?_ _) | (with_reducible refine Kd.C_drewN ?_ _) | (with_reducible refine Kd.C_drew ?_))); (case side2 => exact (Kd.V_reads' HO_9.out).2.1); rintro e w55 ⟨v396, rfl, ho0, hb⟩; have n0_ := Aside0.mk (Kd.V_elder' (by (with_reducible repeat (first | apply Kd.V_alloc | apply Kd.V_drewN | apply Kd.V_drew)); exact HO_0.out) (Kd.R_base ho0) hb); have n1_ := Aside0.mk (Kd.V_elder' (by (with_reducible repeat (first | apply Kd.V_alloc | apply Kd.V_drewN | apply Kd.V_drew)); exact HO_9.out) (Kd.R_base ho0) hb); have n2_ := Aside0.mk (Kd.R_elder' (by (with_reducible repeat (first | apply Kd.R_alloc | apply Kd.R_drewN | apply Kd.R_drew)); exact HO393.out) (Kd.R_base ho0) hb); have n3_ := Aside0.mk (Kd.R_lower (Kd.R_new' ho0 (Kd.R_lt (by (with_reducible repeat (first | apply Kd.R_alloc | apply Kd.R_drewN | apply Kd.R_drew)); exact HO393.out))) (below_size (by repeat (first | (with_reducible first | exact HB.out | apply below_alloc | apply pw_below_drewN | apply below_drew1) | exact HB.out)))); have n4_ := Aside0.mk (below_step (by repeat (first | (with_reducible first | exact HB.out | apply below_alloc | apply pw_below_drewN | apply below_drew1) | exact HB.out)) hb); clear HO_0; clear HO_9; clear HO393; clear HB; have HO_0 := n0_; have HO_9 := n1_; have HO393 := n2_; have HO397 := n3_; have HB := n4_; clear n0_ n1_ n2_ n3_ n4_; (try clear hb); (try clear hb2); (try clear hk); (try clear hi); (try clear ho0); obtain ⟨Ao56, co56, eo56⟩ := Kd.R_slice HO397.out; subst eo56) | (go_at_call 33; (with_reducible refine (tattleref02_Many.calls kj38 _ _ t395 ji16 t398 _ ?side1 ?side2 A48.out).mono ?_); (case side1 => repeat (first | exact (Kd.R_reads' HO397.out).2.2 | (with_reducible refine Kd.C_alloc ?_ _) | (with_reducible refine Kd.C_drewN ?_ _) | (with_reducible refine Kd.C_drew ?_))); (case side2 => exact (Kd.R_reads' HO397.out).2.1); rintro e w' ⟨rfl, ⟨nd, rfl⟩⟩) | (go_at_call 34; (with_reducible refine (table_Others.calls _ _ t371 ji16 t399 _ ?side1 ?side2 A50.out).mono ?_); (case side1 => repeat (first | exact (Kd.V_reads' HO_0.out).2.2 | (with_reducible refine Kd.C_alloc ?_ _) | (with_reducible refine Kd.C_drewN ?_ _) | (with_reducible refine Kd.C_drew ?_))); (case side2 => exact (Kd.V_reads' HO_0.out).2.1); rintro e w57 ⟨v400, rfl, ho0, hb⟩; have n0_ := Aside0.mk (Kd.V_elder' (by (with_reducible repeat (first | apply Kd.V_alloc | apply Kd.V_drewN | apply Kd.V_drew)); exact HO_0.out) (Kd.R_base ho0) hb); have n1_ := Aside0.mk (Kd.V_elder' (by (with_reducible repeat (first | apply Kd.V_alloc | apply Kd.V_drewN | apply Kd.V_drew)); exact HO_9.out) (Kd.R_base ho0) hb); have n2_ := Aside0.mk (Kd.R_elder' (by (with_reducible repeat (first | apply Kd.R_alloc | apply Kd.R_drewN | apply Kd.R_drew)); exact HO393.out) (Kd.R_base ho0) hb); have n3_ := Aside0.mk (Kd.R_elder' (by (with_reducible repeat (first | apply Kd.R_alloc | apply Kd.R_drewN | apply Kd.R_drew)); exact HO397.out) (Kd.R_base ho0) hb); have n4_ := Aside0.mk (Kd.R_lower (Kd.R_new' (Kd.R_new' ho0 (Kd.R_lt (by (with_reducible repeat (first | apply Kd.R_alloc | apply Kd.R_drewN | apply Kd.R_drew)); exact HO393.out))) (Kd.R_lt (by (with_reducible repeat (first | apply Kd.R_alloc | apply Kd.R_drewN | apply Kd.R_drew)); exact HO397.out))) (below_size (by repeat (first | (with_reducible first | exact HB.out | apply below_alloc | apply pw_below_drewN | apply below_drew1) | exact HB.out)))); have n5_ := Aside0.mk (below_step (by repeat (first | (with_reducible first | exact HB.out | apply below_alloc | apply pw_below_drewN | apply below_drew1) | exact HB.out)) hb); clear HO_0; clear HO_9; clear HO393; clear HO397; clear HB; have HO_0 := n0_; have HO_9 := n1_; have HO393 := n2_; have HO397 := n3_; have HO401 := n4_; have HB := n5_; clear n0_ n1_ n2_ n3_ n4_ n5_; (try clear hb); (try clear hb2); (try clear hk); (try clear hi); (try clear ho0); obtain ⟨Ao58, co58, eo58⟩ := Kd.R_slice HO401.out; subst eo58) | (go_at_call 33; (with_reducible refine (tattleref02_Many.calls kj38 _ _ t399 ji16 t402 _ ?side1 ?side2 A51.out).mono ?_); (case side1 => repeat (first | exact (Kd.R_reads' HO401.out).2.2 | (with_reducible refine Kd.C_alloc ?_ _) | (with_reducible refine Kd.C_drewN ?_ _) | (with_reducible refine Kd.C_drew ?_))); (case side2 => exact (Kd.R_reads' HO401.out).2.1); rintro e w' ⟨rfl, ⟨nd, rfl⟩⟩))
                                      go_meet
                                      case rel => exact ⟨_, ((t402 != 0)), (by first | rfl | (simp; done) | (simp [*]; done)), H', ⟨by have := HJ3.out; have := HJ24.out; have := HJ38.out; first | omega | exact Nat.le_refl _⟩, ⟨by (with_reducible repeat (first | apply Kd.V_alloc | apply Kd.V_drewN | apply Kd.V_drew)); exact Kd.V_mono HO_0.out (fun _ hk => trivial)⟩, ⟨by (with_reducible repeat (first | apply Kd.V_alloc | apply Kd.V_drewN | apply Kd.V_drew)); exact Kd.V_mono HO_9.out (fun _ hk => trivial)⟩, ⟨by repeat (first | (with_reducible first | exact HB.out | apply below_alloc | apply pw_below_drewN | apply below_drew1) | exact HB.out)⟩⟩
                                    · rw [if_neg c49] at H
                                      have c49b0 : (t398 == 0) = false := beq_eq_false_iff_ne.mpr c49
                                      have c49b1 : (t398 != 0) = true := bne_iff_ne.mpr c49
                                      have H' := Aside0.mk H
                                      clear H
                                      obtain ⟨Ao59, co59, eo59⟩ := Kd.V_slice HO_9.out
                                      subst eo59
                                      go_wp2_with (first | ((with_reducible refine gate_callee (f := 31) rfl ?_); refine goesL_ (some 87) rfl rfl Try.func31 (by kernel_rfl) rfl #[.slice Ao59 t385.length co59] rfl (by (try simp only [List.map_toArray, List.map_cons, List.map_nil]); first | done | rfl | (simp only [List.length_drop, List.length_take]; rfl)) ?_; (with_reducible refine (table_Up.calls _ _ t385 t391 _ ?side1 ?side2 A44.out).mono ?_); (case side1 => repeat (first | exact (Kd.V_reads' HO_9.out).2.2 | (with_reducible refine Kd.C_alloc ?_ _) | (with_reducible refine Kd.C_drewN ?_ _) | (with_reducible refine Kd.C_drew ?_))); (case side2 => exact (Kd.V_reads' HO_9.out).2.1); rintro e w60 ⟨v392, rfl, ho0, hb⟩; refine ⟨_, rfl, ?_⟩; have n0_ := Aside0.mk (Kd.V_elder' (by (with_reducible repeat (first | apply Kd.V_alloc | apply Kd.V_drewN | apply Kd.V_drew)); exact HO_0.out) (Kd.R_base ho0) hb); have n1_ := Aside0.mk (Kd.V_elder' (by (with_reducible repeat (first | apply Kd.V_alloc | apply Kd.V_drewN | apply Kd.V_drew)); exact HO_9.out) (Kd.R_base ho0) hb); have n2_ := Aside0.mk (Kd.R_lower ho0 (below_size (by repeat (first | (with_reducible first | exact HB.out | apply below_alloc | apply pw_below_drewN | apply below_drew1) | exact HB.out)))); have n3_ := Aside0.mk (below_step (by repeat (first | (with_reducible first | exact HB.out | apply below_alloc | apply pw_below_drewN | apply below_drew1) | exact HB.out)) hb); clear HO_0; clear HO_9; clear HB; have HO_0 := n0_; have HO_9 := n1_; have HO393 := n2_; have HB := n3_; clear n0_ n1_ n2_ n3_; (try clear hb); (try clear hb2); (try clear hk); (try clear hi); (try clear ho0); obtain ⟨Ao61, co61, eo61⟩ := Kd.R_slice HO393.out; subst eo61) | ((with_reducible refine gate_callee (f := 33) rfl ?_); refine goesL_ (some 89) rfl rfl Try.func33 (by kernel_rfl) rfl #[.slice Ao61 t391.length co61, .int .i64 ji16] rfl (by (try simp only [List.map_toArray, List.map_cons, List.map_nil]); first | done | (simp only [hji16]; rfl) | rfl | (simp only [List.length_drop, List.length_take]; rfl)) ?_; (with_reducible refine (tattleref02_Many.calls kj38 _ _ t391 ji16 t394 _ ?side1 ?side2 A45.out).mono ?_); (case side1 => repeat (first | exact (Kd.R_reads' HO393.out).2.2 | (with_reducible refine Kd.C_alloc ?_ _) | (with_reducible refine Kd.C_drewN ?_ _) | (with_reducible refine Kd.C_drew ?_))); (case side2 => exact (Kd.R_reads' HO393.out).2.1); rintro e w' ⟨rfl, ⟨nd, rfl⟩⟩; refine ⟨_, rfl, ?_⟩) | (go_at_call 34; (with_reducible refine (table_Others.calls _ _ t385 (-1) t395 _ ?side1 ?side2 A47.out).mono ?_); (case side1 => repeat (first | exact (Kd.V_reads' HO_9.out).2.2 | (with_reducible refine Kd.C_alloc ?_ _) | (with_reducible refine Kd.C_drewN ?_ _) | (with_reducible refine Kd.C_drew ?_))); (case side2 => exact (Kd.V_reads' HO_9.out).2.1); rintro e w62 ⟨v396, rfl, ho0, hb⟩; have n0_ := Aside0.mk (Kd.V_elder' (by (with_reducible repeat (first | apply Kd.V_alloc | apply Kd.V_drewN | apply Kd.V_drew)); exact HO_0.out) (Kd.R_base ho0) hb); have n1_ := Aside0.mk (Kd.V_elder' (by (with_reducible repeat (first | apply Kd.V_alloc | apply Kd.V_drewN | apply Kd.V_drew)); exact HO_9.out) (Kd.R_base ho0) hb); have n2_ := Aside0.mk (Kd.R_elder' (by (with_reducible repeat (first | apply Kd.R_alloc | apply Kd.R_drewN | apply Kd.R_drew)); exact HO393.out) (Kd.R_base ho0) hb); have n3_ := Aside0.mk (Kd.R_lower (Kd.R_new' ho0 (Kd.R_lt (by (with_reducible repeat (first | apply Kd.R_alloc | apply Kd.R_drewN | apply Kd.R_drew)); exact HO393.out))) (below_size (by repeat (first | (with_reducible first | exact HB.out | apply below_alloc | apply pw_below_drewN | apply below_drew1) | exact HB.out)))); have n4_ := Aside0.mk (below_step (by repeat (first | (with_reducible first | exact HB.out | apply below_alloc | apply pw_below_drewN | apply below_drew1) | exact HB.out)) hb); clear HO_0; clear HO_9; clear HO393; clear HB; have HO_0 := n0_; have HO_9 := n1_; have HO393 := n2_; have HO397 := n3_; have HB := n4_; clear n0_ n1_ n2_ n3_ n4_; (try clear hb); (try clear hb2); (try clear hk); (try clear hi); (try clear ho0); obtain ⟨Ao63, co63, eo63⟩ := Kd.R_slice HO397.out; subst eo63) | (go_at_call 33; (with_reducible refine (tattleref02_Many.calls kj38 _ _ t395 ji16 t398 _ ?side1 ?side2 A48.out).mono ?_); (case side1 => repeat (first | exact (Kd.R_reads' HO397.out).2.2 | (with_reducible refine Kd.C_alloc ?_ _) | (with_reducible refine Kd.C_drewN ?_ _) | (with_reducible refine Kd.C_drew ?_))); (case side2 => exact (Kd.R_reads' HO397.out).2.1); rintro e w' ⟨rfl, ⟨nd, rfl⟩⟩))
                                      go_meet
                                      case rel => exact ⟨_, (true), (by first | rfl | (simp; done) | (simp [*]; done)), H', ⟨by have := HJ3.out; have := HJ24.out; have := HJ38.out; first | omega | exact Nat.le_refl _⟩, ⟨by (with_reducible repeat (first | apply Kd.V_alloc | apply Kd.V_drewN | apply Kd.V_drew)); exact Kd.V_mono HO_0.out (fun _ hk => trivial)⟩, ⟨by (with_reducible repeat (first | apply Kd.V_alloc | apply Kd.V_drewN | apply Kd.V_drew)); exact Kd.V_mono HO_9.out (fun _ hk => trivial)⟩, ⟨by repeat (first | (with_reducible first | exact HB.out | apply below_alloc | apply pw_below_drewN | apply below_drew1) | exact HB.out)⟩⟩
                                  · rw [if_neg c46] at H
                                    have c46b0 : (t394 == 0) = false := beq_eq_false_iff_ne.mpr c46
                                    have c46b1 : (t394 != 0) = true := bne_iff_ne.mpr c46
                                    (first | rw [c46b0] | (simp only [i64_w, i32_w]; rw [c46b0]) | skip)
                                    have H' := Aside0.mk H
                                    clear H
                                    obtain ⟨Ao64, co64, eo64⟩ := Kd.V_slice HO_9.out
                                    subst eo64
                                    go_wp2_with (first | ((with_reducible refine gate_callee (f := 31) rfl ?_); refine goesL_ (some 87) rfl rfl Try.func31 (by kernel_rfl) rfl #[.slice Ao64 t385.length co64] rfl (by (try simp only [List.map_toArray, List.map_cons, List.map_nil]); first | done | rfl | (simp only [List.length_drop, List.length_take]; rfl)) ?_; (with_reducible refine (table_Up.calls _ _ t385 t391 _ ?side1 ?side2 A44.out).mono ?_); (case side1 => repeat (first | exact (Kd.V_reads' HO_9.out).2.2 | (with_reducible refine Kd.C_alloc ?_ _) | (with_reducible refine Kd.C_drewN ?_ _) | (with_reducible refine Kd.C_drew ?_))); (case side2 => exact (Kd.V_reads' HO_9.out).2.1); rintro e w65 ⟨v392, rfl, ho0, hb⟩; refine ⟨_, rfl, ?_⟩; have n0_ := Aside0.mk (Kd.V_elder' (by (with_reducible repeat (first | apply Kd.V_alloc | apply Kd.V_drewN | apply Kd.V_drew)); exact HO_0.out) (Kd.R_base ho0) hb); have n1_ := Aside0.mk (Kd.V_elder' (by (with_reducible repeat (first | apply Kd.V_alloc | apply Kd.V_drewN | apply Kd.V_drew)); exact HO_9.out) (Kd.R_base ho0) hb); have n2_ := Aside0.mk (Kd.R_lower ho0 (below_size (by repeat (first | (with_reducible first | exact HB.out | apply below_alloc | apply pw_below_drewN | apply below_drew1) | exact HB.out)))); have n3_ := Aside0.mk (below_step (by repeat (first | (with_reducible first | exact HB.out | apply below_alloc | apply pw_below_drewN | apply below_drew1) | exact HB.out)) hb); clear HO_0; clear HO_9; clear HB; have HO_0 := n0_; have HO_9 := n1_; have HO393 := n2_; have HB := n3_; clear n0_ n1_ n2_ n3_; (try clear hb); (try clear hb2); (try clear hk); (try clear hi); (try clear ho0); obtain ⟨Ao66, co66, eo66⟩ := Kd.R_slice HO393.out; subst eo66) | ((with_reducible refine gate_callee (f := 33) rfl ?_); refine goesL_ (some 89) rfl rfl Try.func33 (by kernel_rfl) rfl #[.slice Ao66 t391.length co66, .int .i64 ji16] rfl (by (try simp only [List.map_toArray, List.map_cons, List.map_nil]); first | done | (simp only [hji16]; rfl) | rfl | (simp only [List.length_drop, List.length_take]; rfl)) ?_; (with_reducible refine (tattleref02_Many.calls kj38 _ _ t391 ji16 t394 _ ?side1 ?side2 A45.out).mono ?_); (case side1 => repeat (first | exact (Kd.R_reads' HO393.out).2.2 | (with_reducible refine Kd.C_alloc ?_ _) | (with_reducible refine Kd.C_drewN ?_ _) | (with_reducible refine Kd.C_drew ?_))); (case side2 => exact (Kd.R_reads' HO393.out).2.1); rintro e w' ⟨rfl, ⟨nd, rfl⟩⟩; refine ⟨_, rfl, ?_⟩))
                                    go_meet
                                    case rel => exact ⟨_, (true), (by first | rfl | (simp; done) | (simp [*]; done)), H', ⟨by have := HJ3.out; have := HJ24.out; have := HJ38.out; first | omega | exact Nat.le_refl _⟩, ⟨by (with_reducible repeat (first | apply Kd.V_alloc | apply Kd.V_drewN | apply Kd.V_drew)); exact Kd.V_mono HO_0.out (fun _ hk => trivial)⟩, ⟨by (with_reducible repeat (first | apply Kd.V_alloc | apply Kd.V_drewN | apply Kd.V_drew)); exact Kd.V_mono HO_9.out (fun _ hk => trivial)⟩, ⟨by repeat (first | (with_reducible first | exact HB.out | apply below_alloc | apply pw_below_drewN | apply below_drew1) | exact HB.out)⟩⟩
                                case rest =>
                                  clear HC43
                                  try clear c1
                                  try clear c2
                                  try clear p2
                                  try clear c3
                                  try clear p3
                                  try clear q3
                                  try clear hx3
                                  try clear qi3
                                  try clear c4
                                  try clear p6
                                  try clear c7
                                  try clear c7b0
                                  try clear c7b1
                                  try clear c10
                                  try clear c12
                                  try clear c15
                                  try clear c15b0
                                  try clear c15b1
                                  try clear c15b2
                                  try clear c17
                                  try clear c17b0
                                  try clear c18
                                  try clear c18b0
                                  try clear c19
                                  try clear c19b0
                                  try clear c19b1
                                  try clear c26
                                  try clear c27
                                  try clear c28
                                  try clear c29
                                  try clear c29b0
                                  try clear c29b1
                                  try clear c29b2
                                  try clear c31
                                  try clear c31b0
                                  try clear c31b1
                                  try clear c32
                                  try clear c32b0
                                  try clear c32b1
                                  try clear c33
                                  try clear c35
                                  try clear c36
                                  try clear c36b0
                                  try clear c37
                                  try clear c37b0
                                  try clear p37
                                  try clear q37
                                  try clear hx37
                                  try clear p38
                                  try clear q38
                                  try clear hx38
                                  try clear qi38
                                  try clear p39
                                  try clear q39
                                  try clear hx39
                                  try clear c41
                                  try clear c41b0
                                  try clear c41b1
                                  try clear c42
                                  try clear c46
                                  try clear c46b0
                                  try clear c46b1
                                  try clear c49
                                  try clear c49b0
                                  try clear c49b1
                                  try clear p64
                                  try clear hx376_0
                                  try clear hx376_1
                                  try clear hx383_0
                                  try clear hx384_0
                                  try clear hx384_1
                                  try clear hx390_0
                                  try clear hx390_1
                                  try clear p2
                                  try clear p3
                                  try clear p37
                                  try clear p376
                                  try clear p38
                                  try clear p383
                                  try clear p384
                                  try clear p39
                                  try clear p390
                                  try clear p6
                                  try clear q3
                                  try clear q37
                                  try clear q376
                                  try clear q38
                                  try clear q383
                                  try clear q384
                                  try clear q39
                                  try clear q390
                                  obtain ⟨kq, x105_42, rfl, HA, HJ42, HO_0, HO_9, HB⟩ := hcut
                                  cases kq with
                                  | zero => exact absurd HA.out (by simp [tattlelaw06_TableParts.j3])
                                  | succ kj42 =>
                                    have H := HA.out
                                    clear HA
                                    simp only [tattlelaw06_TableParts.j3] at H
                                    by_cases c67 : x105_42 = true
                                    · subst c67
                                      have H1 : (some false) = some r := by rw [if_pos rfl] at H; exact H
                                      clear H
                                      have H := H1
                                      clear H1
                                      exact absurd ((Option.some.inj H).trans hrt.out) (by decide)
                                    · replace c67 := Bool.eq_false_iff.mpr c67
                                      subst c67
                                      have H1 : (if 0 ≤ ji16 then (if ji16 < (t371.length : Int) then ((table_Apply.f kj42 t385 ji16 (IntKind.u64.wrap (((rd_T26 t371 ji16).f0) + 1)) 0).bind fun bt404 => (if bt404.2.1 = true then (if bt404.2.2 = 0 then ((table_Up.f bt404.1).bind fun t409 => ((tattleref02_Many.f kj42 t409 ji16).bind fun t412 => (if t412 = 1 then ((tattlelaw06_awakeT.f).bind fun t413 => (some t413)) else (some false)))) else (some false)) else (some false))) else (none)) else (none)) = some r := by rw [if_neg (show ¬ (false = true) by decide)] at H; exact H
                                      clear H
                                      have H := H1
                                      clear H1
                                      by_cases c68 : 0 ≤ ji16
                                      · rw [if_pos c68] at H
                                        have c68b0 : decide (0 ≤ ji16) = true := decide_eq_true c68
                                        clear c68
                                        by_cases c69 : ji16 < (t371.length : Int)
                                        · rw [if_pos c69] at H
                                          have c69b0 : decide (ji16 < (t371.length : Int)) = true := decide_eq_true c69
                                          clear c69
                                          replace H := Option.bind_eq_some_iff.mp H
                                          obtain ⟨⟨t404, t407, t408⟩, A700, H⟩ := H
                                          replace H : (if t407 = true then (if t408 = 0 then ((table_Up.f t404).bind fun t409 => ((tattleref02_Many.f kj42 t409 ji16).bind fun t412 => (if t412 = 1 then ((tattlelaw06_awakeT.f).bind fun t413 => (some t413)) else (some false)))) else (some false)) else (some false)) = some r := H
                                          have A70 := Aside0.mk A700
                                          clear A700
                                          by_cases c71 : t407 = true
                                          · subst c71
                                            have H1 : (if t408 = 0 then ((table_Up.f t404).bind fun t409 => ((tattleref02_Many.f kj42 t409 ji16).bind fun t412 => (if t412 = 1 then ((tattlelaw06_awakeT.f).bind fun t413 => (some t413)) else (some false)))) else (some false)) = some r := by rw [if_pos rfl] at H; exact H
                                            clear H
                                            have H := H1
                                            clear H1
                                            by_cases c72 : t408 = 0
                                            · rw [if_pos c72] at H
                                              have c72b0 : (t408 == 0) = true := beq_iff_eq.mpr c72
                                              have c72b1 : (t408 != 0) = false := bne_eq_false_iff_eq.mpr c72
                                              clear c72
                                              replace H := Option.bind_eq_some_iff.mp H
                                              obtain ⟨t409, A730, H⟩ := H
                                              replace H : ((tattleref02_Many.f kj42 t409 ji16).bind fun t412 => (if t412 = 1 then ((tattlelaw06_awakeT.f).bind fun t413 => (some t413)) else (some false))) = some r := H
                                              have A73 := Aside0.mk A730
                                              clear A730
                                              replace H := Option.bind_eq_some_iff.mp H
                                              obtain ⟨t412, A740, H⟩ := H
                                              replace H : (if t412 = 1 then ((tattlelaw06_awakeT.f).bind fun t413 => (some t413)) else (some false)) = some r := H
                                              have A74 := Aside0.mk A740
                                              clear A740
                                              by_cases c75 : t412 = 1
                                              · rw [if_pos c75] at H
                                                have c75b0 : (t412 == 1) = true := beq_iff_eq.mpr c75
                                                have c75b1 : (t412 != 1) = false := bne_eq_false_iff_eq.mpr c75
                                                clear c75
                                                replace H := Option.bind_eq_some_iff.mp H
                                                obtain ⟨t413, A760, H⟩ := H
                                                replace H : (some t413) = some r := H
                                                have A76 := Aside0.mk A760
                                                clear A760
                                                obtain rfl := Option.some.inj H
                                                have p403 : 0 ≤ (ji16 : Int) := of_decide_eq_true (by first | (with_reducible assumption) | assumption)
                                                have q403 : ji16 < (t371.length : Int) := of_decide_eq_true (by first | (with_reducible assumption) | assumption)
                                                obtain ⟨ad403, e403, hx403_0, hx403_1⟩ := at_T26 (Kd.V_reads' HO_0.out).2.2 ji16 p403 q403
                                                obtain rfl : ad376 = ad403 := (by injection e403)
                                                replace p403 := eq_true p403
                                                replace q403 := eq_true q403
                                                obtain ⟨Ao77, co77, eo77⟩ := Kd.V_slice HO_9.out
                                                subst eo77
                                                go_wp2_with (first | ((with_reducible refine gate_callee (f := 29) rfl ?_); refine goesL_ (some 116) rfl rfl Try.func29 (by kernel_rfl) rfl #[.slice Ao77 t385.length co77, .int .i64 ji16, .agg #[.int .u64 (IntKind.u64.wrap (((rd_T26 t371 ji16).f0) + 1)), .int .i64 0]] rfl (by (try simp only [List.map_toArray, List.map_cons, List.map_nil]); first | done | (simp only [hji16]; rfl) | rfl | (simp only [List.length_drop, List.length_take]; rfl)) ?_; (with_reducible refine (table_Apply.calls kj42 (fun k_ => True) _ _ t385 ji16 (IntKind.u64.wrap (((rd_T26 t371 ji16).f0) + 1)) 0 t404 true t408 _ ?side1 A70.out).mono ?_); (case side1 => exact HO_9.out); rintro e w78 ⟨v405, rfl, ho0, hb⟩; refine ⟨_, rfl, ?_⟩; have n0_ := Aside0.mk (Kd.V_below (by (with_reducible repeat (first | apply Kd.V_alloc | apply Kd.V_drewN | apply Kd.V_drew)); exact HO_0.out) hb); have n1_ := Aside0.mk (Kd.V_below (by (with_reducible repeat (first | apply Kd.V_alloc | apply Kd.V_drewN | apply Kd.V_drew)); exact HO_9.out) hb); have n2_ := Aside0.mk (Kd.V_lower (Kd.V_mono (ok' := fun k_ => True) ho0 (fun k_ hk_ => trivial)) (below_size (by repeat (first | (with_reducible first | exact HB.out | apply below_alloc | apply pw_below_drewN | apply below_drew1) | exact HB.out)))); have n3_ := Aside0.mk (below_step (by repeat (first | (with_reducible first | exact HB.out | apply below_alloc | apply pw_below_drewN | apply below_drew1) | exact HB.out)) hb); clear HO_0; clear HO_9; clear HB; have HO_0 := n0_; have HO_9 := n1_; have HO406 := n2_; have HB := n3_; clear n0_ n1_ n2_ n3_; (try clear hb); (try clear hb2); (try clear hk); (try clear hi); (try clear ho0); obtain ⟨Ao79, co79, eo79⟩ := Kd.V_slice HO406.out; subst eo79) | (go_at_call 31; (with_reducible refine (table_Up.calls _ _ t404 t409 _ ?side1 ?side2 A73.out).mono ?_); (case side1 => repeat (first | exact (Kd.V_reads' HO406.out).2.2 | (with_reducible refine Kd.C_alloc ?_ _) | (with_reducible refine Kd.C_drewN ?_ _) | (with_reducible refine Kd.C_drew ?_))); (case side2 => exact (Kd.V_reads' HO406.out).2.1); rintro e w80 ⟨v410, rfl, ho0, hb⟩; have n0_ := Aside0.mk (Kd.V_elder' (by (with_reducible repeat (first | apply Kd.V_alloc | apply Kd.V_drewN | apply Kd.V_drew)); exact HO406.out) (Kd.R_base ho0) hb); have n1_ := Aside0.mk (Kd.R_lower ho0 (below_size (by repeat (first | (with_reducible first | exact HB.out | apply below_alloc | apply pw_below_drewN | apply below_drew1) | exact HB.out)))); have n2_ := Aside0.mk (below_step (by repeat (first | (with_reducible first | exact HB.out | apply below_alloc | apply pw_below_drewN | apply below_drew1) | exact HB.out)) hb); clear HO406; clear HB; have HO406 := n0_; have HO411 := n1_; have HB := n2_; clear n0_ n1_ n2_; (try clear hb); (try clear hb2); (try clear hk); (try clear hi); (try clear ho0); obtain ⟨Ao81, co81, eo81⟩ := Kd.R_slice HO411.out; subst eo81) | (go_at_call 33; (with_reducible refine (tattleref02_Many.calls kj42 _ _ t409 ji16 t412 _ ?side1 ?side2 A74.out).mono ?_); (case side1 => repeat (first | exact (Kd.R_reads' HO411.out).2.2 | (with_reducible refine Kd.C_alloc ?_ _) | (with_reducible refine Kd.C_drewN ?_ _) | (with_reducible refine Kd.C_drew ?_))); (case side2 => exact (Kd.R_reads' HO411.out).2.1); rintro e w' ⟨rfl, ⟨nd, rfl⟩⟩) | (go_at_call 28; (with_reducible refine (tattlelaw06_awakeT.calls  t413 _ A76.out).mono ?_); rintro e w82 ⟨rfl, hb⟩; have n0_ := Aside0.mk (below_step (by repeat (first | (with_reducible first | exact HB.out | apply below_alloc | apply pw_below_drewN | apply below_drew1) | exact HB.out)) hb); clear HB; have HB := n0_; clear n0_; (try clear hb); (try clear hb2); (try clear hk); (try clear hi)))
                                                go_ret
                                                exact ⟨by first | rfl | (simp [errW_none, errW_some] <;> rfl) | (simp only [← hji16]; first | rfl | (simp [errW_none, errW_some] <;> rfl)) | (simp [*, errW_none, errW_some] <;> rfl), by repeat (first | (with_reducible first | exact HB.out | apply below_alloc | apply pw_below_drewN | apply below_drew1) | exact HB.out)⟩
                                              · rw [if_neg c75] at H
                                                have c75b0 : (t412 == 1) = false := beq_eq_false_iff_ne.mpr c75
                                                have c75b1 : (t412 != 1) = true := bne_iff_ne.mpr c75
                                                exact absurd ((Option.some.inj H).trans hrt.out) (by decide)
                                            · rw [if_neg c72] at H
                                              have c72b0 : (t408 == 0) = false := beq_eq_false_iff_ne.mpr c72
                                              have c72b1 : (t408 != 0) = true := bne_iff_ne.mpr c72
                                              exact absurd ((Option.some.inj H).trans hrt.out) (by decide)
                                          · replace c71 := Bool.eq_false_iff.mpr c71
                                            subst c71
                                            have H1 : (some false) = some r := by rw [if_neg (show ¬ (false = true) by decide)] at H; exact H
                                            clear H
                                            have H := H1
                                            clear H1
                                            exact absurd ((Option.some.inj H).trans hrt.out) (by decide)
                                        · rw [if_neg c69] at H
                                          exact absurd H (by simp)
                                      · rw [if_neg c68] at H
                                        exact absurd H (by simp)
                        · rw [if_neg c37] at H
                          exact absurd H (by simp)
                      · rw [if_neg c36] at H
                        exact absurd H (by simp)
            · rw [if_neg c18] at H
              exact absurd H (by simp)
          · rw [if_neg c17] at H
            exact absurd H (by simp)

end Go.Proofs.Ytjamociekniepaa.Fn
