-- Written by program (a turned copy of the kit's print) for this seat: functions, contracts. Lean checks it.
import Derived.Test.YtjamociekniepaaFnx0
import Derived.Test.YtjamociekniepaaFnx15
import Derived.Test.YtjamociekniepaaFnx16
import Derived.Test.YtjamociekniepaaFnx21
import Derived.Test.YtjamociekniepaaAw28
import Derived.Test.YtjamociekniepaaExTab
namespace Go.Proofs.Ytjamociekniepaa.Fn
open Go.RowKit Go.Proofs.YtjamociekniepaaW.PrintWords Go.Proofs.YtjamociekniepaaW.PrintLast Go.Proofs.YtjamociekniepaaW.PrintMore
attribute [local go_sem] max2_int min2_int max_two min_two max_three min_three max_four min_four   -- for this text's walks alone
set_option linter.unusedVariables false
set_option linter.unusedSimpArgs false

/-! ### tattlelaw06_TableNodes: function 11 -/
mutual
def tattlelaw06_TableNodes.j0 : Nat → Int → List (S26) → Bool → Option (Bool)
  | 0, _, _, _ => none
  | k + 1, x5, x6, x48 => if x48 = true then (some false) else (tattlelaw06_TableNodes.l0 k x5 x6 0)
def tattlelaw06_TableNodes.l0 : Nat → Int → List (S26) → Int → Option (Bool)
  | 0, _, _, _ => none
  | k + 1, x5, x6, x8 => if x8 < x5 then ((table_Lowest.f x6).bind fun bt431 => (if bt431.2 = 0 then (tattlelaw06_TableNodes.j2 k x5 x6 x8 (bt431.1 != x8)) else (tattlelaw06_TableNodes.j2 k x5 x6 x8 true))) else ((table_Lowest.f x6).bind fun bt425 => (if bt425.2 = 6 then ((table_Others.f x6 (-1)).bind fun t427 => (if (t427.length : Int) = x5 then ((tattlelaw06_awakeT.f).bind fun t430 => (some t430)) else (some false))) else (some false)))
def tattlelaw06_TableNodes.j2 : Nat → Int → List (S26) → Int → Bool → Option (Bool)
  | 0, _, _, _, _ => none
  | k + 1, x5, x6, x8, x65 => if x65 = true then (some false) else ((table_Apply.f k x6 x8 0 2).bind fun bt433 => (if bt433.2.1 = true then (if bt433.2.2 = 0 then ((table_Up.f bt433.1).bind fun t438 => (if (t438.length : Int) = (wrap64 ((wrap64 (x5 - x8)) - 1)) then (tattlelaw06_TableNodes.l0 k x5 bt433.1 (wrap64 (x8 + 1))) else (some false))) else (some false)) else (some false)))
end
def tattlelaw06_TableNodes.f (k : Nat) (a0 : Int) (a1 : Int) : Option (Bool) := (table_New.f (wrap64 (1 + (wrap64 (Int.tmod a0 64))))).bind fun bt414 => (if bt414.2 = 0 then ((table_Up.f bt414.1).bind fun t418 => (if (t418.length : Int) = (wrap64 (1 + (wrap64 (Int.tmod a0 64)))) then ((table_Others.f bt414.1 (wrap64 (a1))).bind fun t421 => ((tattlelaw06_one.f (decide ((wrap64 (a1)) < (wrap64 (1 + (wrap64 (Int.tmod a0 64))))))).bind fun t424 => (tattlelaw06_TableNodes.j0 k (wrap64 (1 + (wrap64 (Int.tmod a0 64)))) bt414.1 ((t421.length : Int) != (wrap64 ((wrap64 (1 + (wrap64 (Int.tmod a0 64)))) - t424)))))) else (tattlelaw06_TableNodes.j0 k (wrap64 (1 + (wrap64 (Int.tmod a0 64)))) bt414.1 true))) else (tattlelaw06_TableNodes.j0 k (wrap64 (1 + (wrap64 (Int.tmod a0 64)))) bt414.1 true))
theorem tattlelaw06_TableNodes.mono_l : ∀ k, (∀ y0 y1 y2, LeO (tattlelaw06_TableNodes.j0 k y0 y1 y2) (tattlelaw06_TableNodes.j0 (k + 1) y0 y1 y2)) ∧ (∀ y0 y1 y2, LeO (tattlelaw06_TableNodes.l0 k y0 y1 y2) (tattlelaw06_TableNodes.l0 (k + 1) y0 y1 y2)) ∧ (∀ y0 y1 y2 y3, LeO (tattlelaw06_TableNodes.j2 k y0 y1 y2 y3) (tattlelaw06_TableNodes.j2 (k + 1) y0 y1 y2 y3))
  | 0 => ⟨fun _ _ _ r h => by simp [tattlelaw06_TableNodes.j0] at h, fun _ _ _ r h => by simp [tattlelaw06_TableNodes.l0] at h, fun _ _ _ _ r h => by simp [tattlelaw06_TableNodes.j2] at h⟩
  | k + 1 => by
    obtain ⟨ih0, ih1, ih2⟩ := tattlelaw06_TableNodes.mono_l k
    refine ⟨?_, ?_, ?_⟩
    · intro y0 y1 y2
      unfold tattlelaw06_TableNodes.j0
      repeat' first
      | (with_reducible exact ih0 _ _ _)
      | (with_reducible exact ih1 _ _ _)
      | (with_reducible exact ih2 _ _ _ _)
      | (with_reducible exact table_Apply.mono _ _ _ _ _)
      | (with_reducible exact LeO.refl _)
      | (with_reducible exact LeO.none _)
      | (with_reducible refine LeO.ite ?_ ?_)
      | (with_reducible refine LeO.bind ?_ (fun _ => ?_))
      | exact ih0 _ _ _
      | exact ih1 _ _ _
      | exact ih2 _ _ _ _
      | exact table_Apply.mono _ _ _ _ _
      | exact LeO.none _
      | refine LeO.ite ?_ ?_
      | refine LeO.bind ?_ (fun _ => ?_)
    · intro y0 y1 y2
      unfold tattlelaw06_TableNodes.l0
      repeat' first
      | (with_reducible exact ih0 _ _ _)
      | (with_reducible exact ih1 _ _ _)
      | (with_reducible exact ih2 _ _ _ _)
      | (with_reducible exact table_Apply.mono _ _ _ _ _)
      | (with_reducible exact LeO.refl _)
      | (with_reducible exact LeO.none _)
      | (with_reducible refine LeO.ite ?_ ?_)
      | (with_reducible refine LeO.bind ?_ (fun _ => ?_))
      | exact ih0 _ _ _
      | exact ih1 _ _ _
      | exact ih2 _ _ _ _
      | exact table_Apply.mono _ _ _ _ _
      | exact LeO.none _
      | refine LeO.ite ?_ ?_
      | refine LeO.bind ?_ (fun _ => ?_)
    · intro y0 y1 y2 y3
      unfold tattlelaw06_TableNodes.j2
      repeat' first
      | (with_reducible exact ih0 _ _ _)
      | (with_reducible exact ih1 _ _ _)
      | (with_reducible exact ih2 _ _ _ _)
      | (with_reducible exact table_Apply.mono _ _ _ _ _)
      | (with_reducible exact LeO.refl _)
      | (with_reducible exact LeO.none _)
      | (with_reducible refine LeO.ite ?_ ?_)
      | (with_reducible refine LeO.bind ?_ (fun _ => ?_))
      | exact ih0 _ _ _
      | exact ih1 _ _ _
      | exact ih2 _ _ _ _
      | exact table_Apply.mono _ _ _ _ _
      | exact LeO.none _
      | refine LeO.ite ?_ ?_
      | refine LeO.bind ?_ (fun _ => ?_)
theorem tattlelaw06_TableNodes.mono : ∀ a0 a1 k, LeO (tattlelaw06_TableNodes.f k a0 a1) (tattlelaw06_TableNodes.f (k + 1) a0 a1) := by
  intro a0 a1 k
  obtain ⟨ih0, ih1, ih2⟩ := tattlelaw06_TableNodes.mono_l k
  unfold tattlelaw06_TableNodes.f
  repeat' first
      | (with_reducible exact ih0 _ _ _)
      | (with_reducible exact ih1 _ _ _)
      | (with_reducible exact ih2 _ _ _ _)
      | (with_reducible exact table_Apply.mono _ _ _ _ _)
      | (with_reducible exact LeO.refl _)
      | (with_reducible exact LeO.none _)
      | (with_reducible refine LeO.ite ?_ ?_)
      | (with_reducible refine LeO.bind ?_ (fun _ => ?_))
      | exact ih0 _ _ _
      | exact ih1 _ _ _
      | exact ih2 _ _ _ _
      | exact table_Apply.mono _ _ _ _ _
      | exact LeO.none _
      | refine LeO.ite ?_ ?_
      | refine LeO.bind ?_ (fun _ => ?_)
set_option maxHeartbeats 8000000 in
set_option maxRecDepth 100000 in
theorem tattlelaw06_TableNodes.calls (k : Nat) (a0 : Int) (a1 : Int) (r : Bool) (w : World) (hrt : Aside0 (r = true)) (h : tattlelaw06_TableNodes.f k a0 a1 = some r) :
    Calls Try.prog 11 #[.int .u8 a0, .int .u8 a1] w fun e w' => e = .returned (.bool r) ∧ Below w.heap.size w w' := by
  have hu26 := Try.underlying26
  have HB := Aside0.mk (Below.refl w.heap.size w)
  have H : ((table_New.f (wrap64 (1 + (wrap64 (Int.tmod a0 64))))).bind fun bt414 => (if bt414.2 = 0 then ((table_Up.f bt414.1).bind fun t418 => (if (t418.length : Int) = (wrap64 (1 + (wrap64 (Int.tmod a0 64)))) then ((table_Others.f bt414.1 (wrap64 (a1))).bind fun t421 => ((tattlelaw06_one.f (decide ((wrap64 (a1)) < (wrap64 (1 + (wrap64 (Int.tmod a0 64))))))).bind fun t424 => (tattlelaw06_TableNodes.j0 k (wrap64 (1 + (wrap64 (Int.tmod a0 64)))) bt414.1 ((t421.length : Int) != (wrap64 ((wrap64 (1 + (wrap64 (Int.tmod a0 64)))) - t424)))))) else (tattlelaw06_TableNodes.j0 k (wrap64 (1 + (wrap64 (Int.tmod a0 64)))) bt414.1 true))) else (tattlelaw06_TableNodes.j0 k (wrap64 (1 + (wrap64 (Int.tmod a0 64)))) bt414.1 true))) = some r := h
  clear h
  replace H := Option.bind_eq_some_iff.mp H
  obtain ⟨⟨t414, t415⟩, A30, H⟩ := H
  replace H : (if t415 = 0 then ((table_Up.f t414).bind fun t418 => (if (t418.length : Int) = (wrap64 (1 + (wrap64 (Int.tmod a0 64)))) then ((table_Others.f t414 (wrap64 (a1))).bind fun t421 => ((tattlelaw06_one.f (decide ((wrap64 (a1)) < (wrap64 (1 + (wrap64 (Int.tmod a0 64))))))).bind fun t424 => (tattlelaw06_TableNodes.j0 k (wrap64 (1 + (wrap64 (Int.tmod a0 64)))) t414 ((t421.length : Int) != (wrap64 ((wrap64 (1 + (wrap64 (Int.tmod a0 64)))) - t424)))))) else (tattlelaw06_TableNodes.j0 k (wrap64 (1 + (wrap64 (Int.tmod a0 64)))) t414 true))) else (tattlelaw06_TableNodes.j0 k (wrap64 (1 + (wrap64 (Int.tmod a0 64)))) t414 true)) = some r := H
  have A3 := Aside0.mk A30
  clear A30
  have HC4 := Aside0.mk H
  clear H
  go_enter Try.func11, Try.ntmps11
  go_upto_region 3 with (first | ((with_reducible refine gate_callee (f := 35) rfl ?_); refine goesL_ (some 22) rfl rfl Try.func35 (by kernel_rfl) rfl #[.int .i64 (wrap64 (1 + (wrap64 (Int.tmod a0 64))))] rfl (by (try simp only [List.map_toArray, List.map_cons, List.map_nil]); first | done | rfl | (simp only [List.length_drop, List.length_take]; rfl)) ?_; (with_reducible refine (table_New.calls (wrap64 (1 + (wrap64 (Int.tmod a0 64)))) t414 t415 _ A3.out).mono ?_); rintro e w5 ⟨v416, rfl, ho0, hb⟩; refine ⟨_, rfl, ?_⟩; have n0_ := Aside0.mk (Kd.R_lower ho0 (below_size (by repeat (first | (with_reducible first | exact HB.out | apply below_alloc | apply pw_below_drewN | apply below_drew1) | exact HB.out)))); have n1_ := Aside0.mk (below_step (by repeat (first | (with_reducible first | exact HB.out | apply below_alloc | apply pw_below_drewN | apply below_drew1) | exact HB.out)) hb); clear HB; have HO417 := n0_; have HB := n1_; clear n0_ n1_; (try clear hb); (try clear hb2); (try clear hk); (try clear hi); (try clear ho0)))
  (try simp only [Act.put, List.setIfInBounds_toArray, List.set_cons_zero, List.set_cons_succ])
  go_cut [48] (fun v48 wc => ∃ (kq : Nat) (x48_3 : Bool), v48 = .bool x48_3 ∧ Aside0 (tattlelaw06_TableNodes.j0 kq (wrap64 (1 + (wrap64 (Int.tmod a0 64)))) t414 x48_3 = some r) ∧ Aside0 (kq ≤ k) ∧ Aside0 (Kd.R k26 26 wc w.heap.size (fun _ => True) v416 t414) ∧ Aside0 (Below w.heap.size w wc))
  case first =>
    have H := HC4.out
    clear HC4
    by_cases c6 : t415 = 0
    · rw [if_pos c6] at H
      have c6b0 : (t415 == 0) = true := beq_iff_eq.mpr c6
      have c6b1 : (t415 != 0) = false := bne_eq_false_iff_eq.mpr c6
      clear c6
      (first | rw [c6b0] | (simp only [i64_w, i32_w]; rw [c6b0]) | skip)
      replace H := Option.bind_eq_some_iff.mp H
      obtain ⟨t418, A70, H⟩ := H
      replace H : (if (t418.length : Int) = (wrap64 (1 + (wrap64 (Int.tmod a0 64)))) then ((table_Others.f t414 (wrap64 (a1))).bind fun t421 => ((tattlelaw06_one.f (decide ((wrap64 (a1)) < (wrap64 (1 + (wrap64 (Int.tmod a0 64))))))).bind fun t424 => (tattlelaw06_TableNodes.j0 k (wrap64 (1 + (wrap64 (Int.tmod a0 64)))) t414 ((t421.length : Int) != (wrap64 ((wrap64 (1 + (wrap64 (Int.tmod a0 64)))) - t424)))))) else (tattlelaw06_TableNodes.j0 k (wrap64 (1 + (wrap64 (Int.tmod a0 64)))) t414 true)) = some r := H
      have A7 := Aside0.mk A70
      clear A70
      by_cases c8 : (t418.length : Int) = (wrap64 (1 + (wrap64 (Int.tmod a0 64))))
      · rw [if_pos c8] at H
        have c8b0 : ((t418.length : Int) == (wrap64 (1 + (wrap64 (Int.tmod a0 64))))) = true := beq_iff_eq.mpr c8
        have c8b1 : ((t418.length : Int) != (wrap64 (1 + (wrap64 (Int.tmod a0 64))))) = false := bne_eq_false_iff_eq.mpr c8
        clear c8
        replace H := Option.bind_eq_some_iff.mp H
        obtain ⟨t421, A90, H⟩ := H
        replace H : ((tattlelaw06_one.f (decide ((wrap64 (a1)) < (wrap64 (1 + (wrap64 (Int.tmod a0 64))))))).bind fun t424 => (tattlelaw06_TableNodes.j0 k (wrap64 (1 + (wrap64 (Int.tmod a0 64)))) t414 ((t421.length : Int) != (wrap64 ((wrap64 (1 + (wrap64 (Int.tmod a0 64)))) - t424))))) = some r := H
        have A9 := Aside0.mk A90
        clear A90
        replace H := Option.bind_eq_some_iff.mp H
        obtain ⟨t424, A100, H⟩ := H
        replace H : (tattlelaw06_TableNodes.j0 k (wrap64 (1 + (wrap64 (Int.tmod a0 64)))) t414 ((t421.length : Int) != (wrap64 ((wrap64 (1 + (wrap64 (Int.tmod a0 64)))) - t424)))) = some r := H
        have A10 := Aside0.mk A100
        clear A100
        have H' := Aside0.mk H
        clear H
        obtain ⟨Ao11, co11, eo11⟩ := Kd.R_slice HO417.out
        subst eo11
        go_wp2_with (first | (go_at_call 31; (with_reducible refine (table_Up.calls _ _ t414 t418 _ ?side1 ?side2 A7.out).mono ?_); (case side1 => repeat (first | exact (Kd.R_reads' HO417.out).2.2 | (with_reducible refine Kd.C_alloc ?_ _) | (with_reducible refine Kd.C_drewN ?_ _) | (with_reducible refine Kd.C_drew ?_))); (case side2 => exact (Kd.R_reads' HO417.out).2.1); rintro e w12 ⟨v419, rfl, ho0, hb⟩; have n0_ := Aside0.mk (Kd.R_below (by (with_reducible repeat (first | apply Kd.R_alloc | apply Kd.R_drewN | apply Kd.R_drew)); exact HO417.out) hb); have n1_ := Aside0.mk (Kd.R_lower ho0 (below_size (by repeat (first | (with_reducible first | exact HB.out | apply below_alloc | apply pw_below_drewN | apply below_drew1) | exact HB.out)))); have n2_ := Aside0.mk (below_step (by repeat (first | (with_reducible first | exact HB.out | apply below_alloc | apply pw_below_drewN | apply below_drew1) | exact HB.out)) hb); clear HO417; clear HB; have HO417 := n0_; have HO420 := n1_; have HB := n2_; clear n0_ n1_ n2_; (try clear hb); (try clear hb2); (try clear hk); (try clear hi); (try clear ho0); obtain ⟨Ao13, co13, eo13⟩ := Kd.R_slice HO420.out; subst eo13) | (go_at_call 34; (with_reducible refine (table_Others.calls _ _ t414 (wrap64 (a1)) t421 _ ?side1 ?side2 A9.out).mono ?_); (case side1 => repeat (first | exact (Kd.R_reads' HO417.out).2.2 | (with_reducible refine Kd.C_alloc ?_ _) | (with_reducible refine Kd.C_drewN ?_ _) | (with_reducible refine Kd.C_drew ?_))); (case side2 => exact (Kd.R_reads' HO417.out).2.1); rintro e w14 ⟨v422, rfl, ho0, hb⟩; have n0_ := Aside0.mk (Kd.R_below (by (with_reducible repeat (first | apply Kd.R_alloc | apply Kd.R_drewN | apply Kd.R_drew)); exact HO417.out) hb); have n1_ := Aside0.mk (Kd.R_elder' (by (with_reducible repeat (first | apply Kd.R_alloc | apply Kd.R_drewN | apply Kd.R_drew)); exact HO420.out) (Kd.R_base ho0) hb); have n2_ := Aside0.mk (Kd.R_lower (Kd.R_new' ho0 (Kd.R_lt (by (with_reducible repeat (first | apply Kd.R_alloc | apply Kd.R_drewN | apply Kd.R_drew)); exact HO420.out))) (below_size (by repeat (first | (with_reducible first | exact HB.out | apply below_alloc | apply pw_below_drewN | apply below_drew1) | exact HB.out)))); have n3_ := Aside0.mk (below_step (by repeat (first | (with_reducible first | exact HB.out | apply below_alloc | apply pw_below_drewN | apply below_drew1) | exact HB.out)) hb); clear HO417; clear HO420; clear HB; have HO417 := n0_; have HO420 := n1_; have HO423 := n2_; have HB := n3_; clear n0_ n1_ n2_ n3_; (try clear hb); (try clear hb2); (try clear hk); (try clear hi); (try clear ho0); obtain ⟨Ao15, co15, eo15⟩ := Kd.R_slice HO423.out; subst eo15) | (go_at_call 36; (with_reducible refine (tattlelaw06_one.calls (decide ((wrap64 (a1)) < (wrap64 (1 + (wrap64 (Int.tmod a0 64)))))) t424 _ A10.out).mono ?_); rintro e w' ⟨rfl, ⟨nd, rfl⟩⟩))
        go_meet
        case rel => exact ⟨_, (((t421.length : Int) != (wrap64 ((wrap64 (1 + (wrap64 (Int.tmod a0 64)))) - t424)))), (by first | rfl | (simp; done) | (simp [*]; done)), H', ⟨by first | omega | exact Nat.le_refl _⟩, ⟨by (with_reducible repeat (first | apply Kd.R_alloc | apply Kd.R_drewN | apply Kd.R_drew)); exact HO417.out⟩, ⟨by repeat (first | (with_reducible first | exact HB.out | apply below_alloc | apply pw_below_drewN | apply below_drew1) | exact HB.out)⟩⟩
      · rw [if_neg c8] at H
        have c8b0 : ((t418.length : Int) == (wrap64 (1 + (wrap64 (Int.tmod a0 64))))) = false := beq_eq_false_iff_ne.mpr c8
        have c8b1 : ((t418.length : Int) != (wrap64 (1 + (wrap64 (Int.tmod a0 64))))) = true := bne_iff_ne.mpr c8
        have H' := Aside0.mk H
        clear H
        obtain ⟨Ao16, co16, eo16⟩ := Kd.R_slice HO417.out
        subst eo16
        go_wp2_with (first | (go_at_call 31; (with_reducible refine (table_Up.calls _ _ t414 t418 _ ?side1 ?side2 A7.out).mono ?_); (case side1 => repeat (first | exact (Kd.R_reads' HO417.out).2.2 | (with_reducible refine Kd.C_alloc ?_ _) | (with_reducible refine Kd.C_drewN ?_ _) | (with_reducible refine Kd.C_drew ?_))); (case side2 => exact (Kd.R_reads' HO417.out).2.1); rintro e w17 ⟨v419, rfl, ho0, hb⟩; have n0_ := Aside0.mk (Kd.R_below (by (with_reducible repeat (first | apply Kd.R_alloc | apply Kd.R_drewN | apply Kd.R_drew)); exact HO417.out) hb); have n1_ := Aside0.mk (Kd.R_lower ho0 (below_size (by repeat (first | (with_reducible first | exact HB.out | apply below_alloc | apply pw_below_drewN | apply below_drew1) | exact HB.out)))); have n2_ := Aside0.mk (below_step (by repeat (first | (with_reducible first | exact HB.out | apply below_alloc | apply pw_below_drewN | apply below_drew1) | exact HB.out)) hb); clear HO417; clear HB; have HO417 := n0_; have HO420 := n1_; have HB := n2_; clear n0_ n1_ n2_; (try clear hb); (try clear hb2); (try clear hk); (try clear hi); (try clear ho0); obtain ⟨Ao18, co18, eo18⟩ := Kd.R_slice HO420.out; subst eo18))
        go_meet
        case rel => exact ⟨_, (true), (by first | rfl | (simp; done) | (simp [*]; done)), H', ⟨by first | omega | exact Nat.le_refl _⟩, ⟨by (with_reducible repeat (first | apply Kd.R_alloc | apply Kd.R_drewN | apply Kd.R_drew)); exact HO417.out⟩, ⟨by repeat (first | (with_reducible first | exact HB.out | apply below_alloc | apply pw_below_drewN | apply below_drew1) | exact HB.out)⟩⟩
    · rw [if_neg c6] at H
      have c6b0 : (t415 == 0) = false := beq_eq_false_iff_ne.mpr c6
      have c6b1 : (t415 != 0) = true := bne_iff_ne.mpr c6
      (first | rw [c6b0] | (simp only [i64_w, i32_w]; rw [c6b0]) | skip)
      have H' := Aside0.mk H
      clear H
      go_wp2
      go_meet
      case rel => exact ⟨_, (true), (by first | rfl | (simp; done) | (simp [*]; done)), H', ⟨by first | omega | exact Nat.le_refl _⟩, ⟨by (with_reducible repeat (first | apply Kd.R_alloc | apply Kd.R_drewN | apply Kd.R_drew)); exact HO417.out⟩, ⟨by repeat (first | (with_reducible first | exact HB.out | apply below_alloc | apply pw_below_drewN | apply below_drew1) | exact HB.out)⟩⟩
  case rest =>
    clear HC4
    try clear c1
    try clear p2
    try clear c3
    try clear c6
    try clear c6b0
    try clear c6b1
    try clear p6
    try clear c8
    try clear c8b0
    try clear c8b1
    try clear c11
    obtain ⟨kq, x48_3, rfl, HA, HJ3, HO_6, HB⟩ := hcut
    cases kq with
    | zero => exact absurd HA.out (by simp [tattlelaw06_TableNodes.j0])
    | succ kj3 =>
      have H := HA.out
      clear HA
      simp only [tattlelaw06_TableNodes.j0] at H
      by_cases c19 : x48_3 = true
      · subst c19
        have H1 : (some false) = some r := by rw [if_pos rfl] at H; exact H
        clear H
        have H := H1
        clear H1
        exact absurd ((Option.some.inj H).trans hrt.out) (by decide)
      · replace c19 := Bool.eq_false_iff.mpr c19
        subst c19
        have H1 : (tattlelaw06_TableNodes.l0 kj3 (wrap64 (1 + (wrap64 (Int.tmod a0 64)))) t414 0) = some r := by rw [if_neg (show ¬ (false = true) by decide)] at H; exact H
        clear H
        have H := H1
        clear H1
        have H' := Aside0.mk H
        clear H
        go_wp2
        go_loopg [6, 8] kj3 (fun kq v6 v8 w' => ∃ (x6_2 : List (S26)) (x8_2 : Int), v8 = .int .i64 x8_2 ∧ Aside0 (tattlelaw06_TableNodes.l0 kq (wrap64 (1 + (wrap64 (Int.tmod a0 64)))) x6_2 x8_2 = some r) ∧ Aside0 (kq ≤ kj3) ∧ Aside0 (Kd.V k26 26 w' w.heap.size (fun _ => True) v6 x6_2) ∧ Aside0 (Below w.heap.size w w'))
        case atStart => exact ⟨(t414), (0), (by first | rfl | (simp; done) | (simp [*]; done)), H', ⟨Nat.le_refl _⟩, ⟨Kd.R_V (by (with_reducible repeat (first | apply Kd.R_alloc | apply Kd.R_drewN | apply Kd.R_drew)); exact HO_6.out)⟩, ⟨by repeat (first | (with_reducible first | exact HB.out | apply below_alloc | apply pw_below_drewN | apply below_drew1) | exact HB.out)⟩⟩
        case round =>
          clear H'
          try clear c1
          try clear p2
          try clear c3
          try clear c6
          try clear c6b0
          try clear c6b1
          try clear p6
          try clear c8
          try clear c8b0
          try clear c8b1
          try clear c11
          try clear c19
          try clear p2
          try clear p6
          obtain ⟨x6_2, x8_2, rfl, HA, HK2, HO_6, HB⟩ := hrel
          cases gk with
          | zero => exact absurd HA.out (by simp [tattlelaw06_TableNodes.l0])
          | succ k2 =>
            have H := HA.out
            clear HA
            simp only [tattlelaw06_TableNodes.l0] at H
            by_cases c20 : x8_2 < (wrap64 (1 + (wrap64 (Int.tmod a0 64))))
            · rw [if_pos c20] at H
              have c20b0 : decide (x8_2 < (wrap64 (1 + (wrap64 (Int.tmod a0 64))))) = true := decide_eq_true c20
              clear c20
              replace H := Option.bind_eq_some_iff.mp H
              obtain ⟨⟨t431, t432⟩, A210, H⟩ := H
              replace H : (if t432 = 0 then (tattlelaw06_TableNodes.j2 k2 (wrap64 (1 + (wrap64 (Int.tmod a0 64)))) x6_2 x8_2 (t431 != x8_2)) else (tattlelaw06_TableNodes.j2 k2 (wrap64 (1 + (wrap64 (Int.tmod a0 64)))) x6_2 x8_2 true)) = some r := H
              have A21 := Aside0.mk A210
              clear A210
              have HC22 := Aside0.mk H
              clear H
              obtain ⟨Ao23, co23, eo23⟩ := Kd.V_slice HO_6.out
              subst eo23
              go_upto_region 9 with (first | ((with_reducible refine gate_callee (f := 32) rfl ?_); refine goesL_ (some 56) rfl rfl Try.func32 (by kernel_rfl) rfl #[.slice Ao23 x6_2.length co23] rfl (by (try simp only [List.map_toArray, List.map_cons, List.map_nil]); first | done | rfl | (simp only [List.length_drop, List.length_take]; rfl)) ?_; (with_reducible refine (table_Lowest.calls _ _ x6_2 t431 t432 _ ?side1 ?side2 A21.out).mono ?_); (case side1 => repeat (first | exact (Kd.V_reads' HO_6.out).2.2 | (with_reducible refine Kd.C_alloc ?_ _) | (with_reducible refine Kd.C_drewN ?_ _) | (with_reducible refine Kd.C_drew ?_))); (case side2 => exact (Kd.V_reads' HO_6.out).2.1); rintro e w24 ⟨rfl, hb⟩; refine ⟨_, rfl, ?_⟩; have n0_ := Aside0.mk (Kd.V_below (by (with_reducible repeat (first | apply Kd.V_alloc | apply Kd.V_drewN | apply Kd.V_drew)); exact HO_6.out) hb); have n1_ := Aside0.mk (below_step (by repeat (first | (with_reducible first | exact HB.out | apply below_alloc | apply pw_below_drewN | apply below_drew1) | exact HB.out)) hb); clear HO_6; clear HB; have HO_6 := n0_; have HB := n1_; clear n0_ n1_; (try clear hb); (try clear hb2); (try clear hk); (try clear hi)))
              (try simp only [Act.put, List.setIfInBounds_toArray, List.set_cons_zero, List.set_cons_succ])
              go_cut [65] (fun v65 wc => ∃ (kq : Nat) (x65_21 : Bool), v65 = .bool x65_21 ∧ Aside0 (tattlelaw06_TableNodes.j2 kq (wrap64 (1 + (wrap64 (Int.tmod a0 64)))) x6_2 x8_2 x65_21 = some r) ∧ Aside0 (kq ≤ k2) ∧ Aside0 (Kd.V k26 26 wc w.heap.size (fun _ => True) (.slice Ao23 x6_2.length co23) x6_2) ∧ Aside0 (Below w.heap.size w wc))
              case first =>
                have H := HC22.out
                clear HC22
                by_cases c25 : t432 = 0
                · rw [if_pos c25] at H
                  have c25b0 : (t432 == 0) = true := beq_iff_eq.mpr c25
                  have c25b1 : (t432 != 0) = false := bne_eq_false_iff_eq.mpr c25
                  clear c25
                  (first | rw [c25b0] | (simp only [i64_w, i32_w]; rw [c25b0]) | skip)
                  have H' := Aside0.mk H
                  clear H
                  go_wp2
                  go_meet
                  case rel => exact ⟨_, ((t431 != x8_2)), (by first | rfl | (simp; done) | (simp [*]; done)), H', ⟨by have := HJ3.out; have := HK2.out; first | omega | exact Nat.le_refl _⟩, ⟨by (with_reducible repeat (first | apply Kd.V_alloc | apply Kd.V_drewN | apply Kd.V_drew)); exact HO_6.out⟩, ⟨by repeat (first | (with_reducible first | exact HB.out | apply below_alloc | apply pw_below_drewN | apply below_drew1) | exact HB.out)⟩⟩
                · rw [if_neg c25] at H
                  have c25b0 : (t432 == 0) = false := beq_eq_false_iff_ne.mpr c25
                  have c25b1 : (t432 != 0) = true := bne_iff_ne.mpr c25
                  (first | rw [c25b0] | (simp only [i64_w, i32_w]; rw [c25b0]) | skip)
                  have H' := Aside0.mk H
                  clear H
                  go_wp2
                  go_meet
                  case rel => exact ⟨_, (true), (by first | rfl | (simp; done) | (simp [*]; done)), H', ⟨by have := HJ3.out; have := HK2.out; first | omega | exact Nat.le_refl _⟩, ⟨by (with_reducible repeat (first | apply Kd.V_alloc | apply Kd.V_drewN | apply Kd.V_drew)); exact HO_6.out⟩, ⟨by repeat (first | (with_reducible first | exact HB.out | apply below_alloc | apply pw_below_drewN | apply below_drew1) | exact HB.out)⟩⟩
              case rest =>
                clear HC22
                try clear c1
                try clear c2
                try clear p2
                try clear c3
                try clear c6
                try clear c6b0
                try clear c6b1
                try clear p6
                try clear c8
                try clear c8b0
                try clear c8b1
                try clear c11
                try clear c19
                try clear c20
                try clear c20b0
                try clear c25
                try clear c25b0
                try clear c25b1
                try clear p2
                try clear p6
                obtain ⟨kq, x65_21, rfl, HA, HJ21, HO_6, HB⟩ := hcut
                cases kq with
                | zero => exact absurd HA.out (by simp [tattlelaw06_TableNodes.j2])
                | succ kj21 =>
                  have H := HA.out
                  clear HA
                  simp only [tattlelaw06_TableNodes.j2] at H
                  by_cases c26 : x65_21 = true
                  · subst c26
                    have H1 : (some false) = some r := by rw [if_pos rfl] at H; exact H
                    clear H
                    have H := H1
                    clear H1
                    exact absurd ((Option.some.inj H).trans hrt.out) (by decide)
                  · replace c26 := Bool.eq_false_iff.mpr c26
                    subst c26
                    have H1 : ((table_Apply.f kj21 x6_2 x8_2 0 2).bind fun bt433 => (if bt433.2.1 = true then (if bt433.2.2 = 0 then ((table_Up.f bt433.1).bind fun t438 => (if (t438.length : Int) = (wrap64 ((wrap64 ((wrap64 (1 + (wrap64 (Int.tmod a0 64)))) - x8_2)) - 1)) then (tattlelaw06_TableNodes.l0 kj21 (wrap64 (1 + (wrap64 (Int.tmod a0 64)))) bt433.1 (wrap64 (x8_2 + 1))) else (some false))) else (some false)) else (some false))) = some r := by rw [if_neg (show ¬ (false = true) by decide)] at H; exact H
                    clear H
                    have H := H1
                    clear H1
                    replace H := Option.bind_eq_some_iff.mp H
                    obtain ⟨⟨t433, t436, t437⟩, A270, H⟩ := H
                    replace H : (if t436 = true then (if t437 = 0 then ((table_Up.f t433).bind fun t438 => (if (t438.length : Int) = (wrap64 ((wrap64 ((wrap64 (1 + (wrap64 (Int.tmod a0 64)))) - x8_2)) - 1)) then (tattlelaw06_TableNodes.l0 kj21 (wrap64 (1 + (wrap64 (Int.tmod a0 64)))) t433 (wrap64 (x8_2 + 1))) else (some false))) else (some false)) else (some false)) = some r := H
                    have A27 := Aside0.mk A270
                    clear A270
                    by_cases c28 : t436 = true
                    · subst c28
                      have H1 : (if t437 = 0 then ((table_Up.f t433).bind fun t438 => (if (t438.length : Int) = (wrap64 ((wrap64 ((wrap64 (1 + (wrap64 (Int.tmod a0 64)))) - x8_2)) - 1)) then (tattlelaw06_TableNodes.l0 kj21 (wrap64 (1 + (wrap64 (Int.tmod a0 64)))) t433 (wrap64 (x8_2 + 1))) else (some false))) else (some false)) = some r := by rw [if_pos rfl] at H; exact H
                      clear H
                      have H := H1
                      clear H1
                      by_cases c29 : t437 = 0
                      · rw [if_pos c29] at H
                        have c29b0 : (t437 == 0) = true := beq_iff_eq.mpr c29
                        have c29b1 : (t437 != 0) = false := bne_eq_false_iff_eq.mpr c29
                        clear c29
                        replace H := Option.bind_eq_some_iff.mp H
                        obtain ⟨t438, A300, H⟩ := H
                        replace H : (if (t438.length : Int) = (wrap64 ((wrap64 ((wrap64 (1 + (wrap64 (Int.tmod a0 64)))) - x8_2)) - 1)) then (tattlelaw06_TableNodes.l0 kj21 (wrap64 (1 + (wrap64 (Int.tmod a0 64)))) t433 (wrap64 (x8_2 + 1))) else (some false)) = some r := H
                        have A30 := Aside0.mk A300
                        clear A300
                        by_cases c31 : (t438.length : Int) = (wrap64 ((wrap64 ((wrap64 (1 + (wrap64 (Int.tmod a0 64)))) - x8_2)) - 1))
                        · rw [if_pos c31] at H
                          have c31b0 : ((t438.length : Int) == (wrap64 ((wrap64 ((wrap64 (1 + (wrap64 (Int.tmod a0 64)))) - x8_2)) - 1))) = true := beq_iff_eq.mpr c31
                          have c31b1 : ((t438.length : Int) != (wrap64 ((wrap64 ((wrap64 (1 + (wrap64 (Int.tmod a0 64)))) - x8_2)) - 1))) = false := bne_eq_false_iff_eq.mpr c31
                          clear c31
                          have H' := Aside0.mk H
                          clear H
                          go_wp2_with (first | ((with_reducible refine gate_callee (f := 29) rfl ?_); refine goesL_ (some 70) rfl rfl Try.func29 (by kernel_rfl) rfl #[.slice Ao23 x6_2.length co23, .int .i64 x8_2, .agg #[.int .u64 0, .int .i64 2]] rfl (by (try simp only [List.map_toArray, List.map_cons, List.map_nil]); first | done | rfl | (simp only [List.length_drop, List.length_take]; rfl)) ?_; (with_reducible refine (table_Apply.calls kj21 (fun k_ => True) _ _ x6_2 x8_2 0 2 t433 true t437 _ ?side1 A27.out).mono ?_); (case side1 => exact HO_6.out); rintro e w32 ⟨v434, rfl, ho0, hb⟩; refine ⟨_, rfl, ?_⟩; have n0_ := Aside0.mk (Kd.V_below (by (with_reducible repeat (first | apply Kd.V_alloc | apply Kd.V_drewN | apply Kd.V_drew)); exact HO_6.out) hb); have n1_ := Aside0.mk (Kd.V_lower (Kd.V_mono (ok' := fun k_ => True) ho0 (fun k_ hk_ => trivial)) (below_size (by repeat (first | (with_reducible first | exact HB.out | apply below_alloc | apply pw_below_drewN | apply below_drew1) | exact HB.out)))); have n2_ := Aside0.mk (below_step (by repeat (first | (with_reducible first | exact HB.out | apply below_alloc | apply pw_below_drewN | apply below_drew1) | exact HB.out)) hb); clear HO_6; clear HB; have HO_6 := n0_; have HO435 := n1_; have HB := n2_; clear n0_ n1_ n2_; (try clear hb); (try clear hb2); (try clear hk); (try clear hi); (try clear ho0); obtain ⟨Ao33, co33, eo33⟩ := Kd.V_slice HO435.out; subst eo33) | (go_at_call 31; (with_reducible refine (table_Up.calls _ _ t433 t438 _ ?side1 ?side2 A30.out).mono ?_); (case side1 => repeat (first | exact (Kd.V_reads' HO435.out).2.2 | (with_reducible refine Kd.C_alloc ?_ _) | (with_reducible refine Kd.C_drewN ?_ _) | (with_reducible refine Kd.C_drew ?_))); (case side2 => exact (Kd.V_reads' HO435.out).2.1); rintro e w34 ⟨v439, rfl, ho0, hb⟩; have n0_ := Aside0.mk (Kd.V_elder' (by (with_reducible repeat (first | apply Kd.V_alloc | apply Kd.V_drewN | apply Kd.V_drew)); exact HO435.out) (Kd.R_base ho0) hb); have n1_ := Aside0.mk (Kd.R_lower ho0 (below_size (by repeat (first | (with_reducible first | exact HB.out | apply below_alloc | apply pw_below_drewN | apply below_drew1) | exact HB.out)))); have n2_ := Aside0.mk (below_step (by repeat (first | (with_reducible first | exact HB.out | apply below_alloc | apply pw_below_drewN | apply below_drew1) | exact HB.out)) hb); clear HO435; clear HB; have HO435 := n0_; have HO440 := n1_; have HB := n2_; clear n0_ n1_ n2_; (try clear hb); (try clear hb2); (try clear hk); (try clear hi); (try clear ho0); obtain ⟨Ao35, co35, eo35⟩ := Kd.R_slice HO440.out; subst eo35))
                          go_roundg kj21
                          case measure => have := HJ3.out; have := HK2.out; have := HJ21.out; omega
                          case rel => exact ⟨(t433), (wrap64 (x8_2 + 1)), (by first | rfl | (simp; done) | (simp [*]; done)), H', ⟨by have := HJ3.out; have := HK2.out; have := HJ21.out; omega⟩, ⟨by (with_reducible repeat (first | apply Kd.V_alloc | apply Kd.V_drewN | apply Kd.V_drew)); exact Kd.V_mono HO435.out (fun _ hk => trivial)⟩, ⟨by repeat (first | (with_reducible first | exact HB.out | apply below_alloc | apply pw_below_drewN | apply below_drew1) | exact HB.out)⟩⟩
                        · rw [if_neg c31] at H
                          have c31b0 : ((t438.length : Int) == (wrap64 ((wrap64 ((wrap64 (1 + (wrap64 (Int.tmod a0 64)))) - x8_2)) - 1))) = false := beq_eq_false_iff_ne.mpr c31
                          have c31b1 : ((t438.length : Int) != (wrap64 ((wrap64 ((wrap64 (1 + (wrap64 (Int.tmod a0 64)))) - x8_2)) - 1))) = true := bne_iff_ne.mpr c31
                          exact absurd ((Option.some.inj H).trans hrt.out) (by decide)
                      · rw [if_neg c29] at H
                        have c29b0 : (t437 == 0) = false := beq_eq_false_iff_ne.mpr c29
                        have c29b1 : (t437 != 0) = true := bne_iff_ne.mpr c29
                        exact absurd ((Option.some.inj H).trans hrt.out) (by decide)
                    · replace c28 := Bool.eq_false_iff.mpr c28
                      subst c28
                      have H1 : (some false) = some r := by rw [if_neg (show ¬ (false = true) by decide)] at H; exact H
                      clear H
                      have H := H1
                      clear H1
                      exact absurd ((Option.some.inj H).trans hrt.out) (by decide)
            · rw [if_neg c20] at H
              have c20b0 : decide (x8_2 < (wrap64 (1 + (wrap64 (Int.tmod a0 64))))) = false := decide_eq_false c20
              clear c20
              replace H := Option.bind_eq_some_iff.mp H
              obtain ⟨⟨t425, t426⟩, A360, H⟩ := H
              replace H : (if t426 = 6 then ((table_Others.f x6_2 (-1)).bind fun t427 => (if (t427.length : Int) = (wrap64 (1 + (wrap64 (Int.tmod a0 64)))) then ((tattlelaw06_awakeT.f).bind fun t430 => (some t430)) else (some false))) else (some false)) = some r := H
              have A36 := Aside0.mk A360
              clear A360
              by_cases c37 : t426 = 6
              · rw [if_pos c37] at H
                have c37b0 : (t426 == 6) = true := beq_iff_eq.mpr c37
                have c37b1 : (t426 != 6) = false := bne_eq_false_iff_eq.mpr c37
                clear c37
                replace H := Option.bind_eq_some_iff.mp H
                obtain ⟨t427, A380, H⟩ := H
                replace H : (if (t427.length : Int) = (wrap64 (1 + (wrap64 (Int.tmod a0 64)))) then ((tattlelaw06_awakeT.f).bind fun t430 => (some t430)) else (some false)) = some r := H
                have A38 := Aside0.mk A380
                clear A380
                by_cases c39 : (t427.length : Int) = (wrap64 (1 + (wrap64 (Int.tmod a0 64))))
                · rw [if_pos c39] at H
                  have c39b0 : ((t427.length : Int) == (wrap64 (1 + (wrap64 (Int.tmod a0 64))))) = true := beq_iff_eq.mpr c39
                  have c39b1 : ((t427.length : Int) != (wrap64 (1 + (wrap64 (Int.tmod a0 64))))) = false := bne_eq_false_iff_eq.mpr c39
                  clear c39
                  replace H := Option.bind_eq_some_iff.mp H
                  obtain ⟨t430, A400, H⟩ := H
                  replace H : (some t430) = some r := H
                  have A40 := Aside0.mk A400
                  clear A400
                  obtain rfl := Option.some.inj H
                  obtain ⟨Ao41, co41, eo41⟩ := Kd.V_slice HO_6.out
                  subst eo41
                  go_wp2_with (first | ((with_reducible refine gate_callee (f := 32) rfl ?_); refine goesL_ (some 93) rfl rfl Try.func32 (by kernel_rfl) rfl #[.slice Ao41 x6_2.length co41] rfl (by (try simp only [List.map_toArray, List.map_cons, List.map_nil]); first | done | rfl | (simp only [List.length_drop, List.length_take]; rfl)) ?_; (with_reducible refine (table_Lowest.calls _ _ x6_2 t425 t426 _ ?side1 ?side2 A36.out).mono ?_); (case side1 => repeat (first | exact (Kd.V_reads' HO_6.out).2.2 | (with_reducible refine Kd.C_alloc ?_ _) | (with_reducible refine Kd.C_drewN ?_ _) | (with_reducible refine Kd.C_drew ?_))); (case side2 => exact (Kd.V_reads' HO_6.out).2.1); rintro e w42 ⟨rfl, hb⟩; refine ⟨_, rfl, ?_⟩; have n0_ := Aside0.mk (Kd.V_below (by (with_reducible repeat (first | apply Kd.V_alloc | apply Kd.V_drewN | apply Kd.V_drew)); exact HO_6.out) hb); have n1_ := Aside0.mk (below_step (by repeat (first | (with_reducible first | exact HB.out | apply below_alloc | apply pw_below_drewN | apply below_drew1) | exact HB.out)) hb); clear HO_6; clear HB; have HO_6 := n0_; have HB := n1_; clear n0_ n1_; (try clear hb); (try clear hb2); (try clear hk); (try clear hi)) | (go_at_call 34; (with_reducible refine (table_Others.calls _ _ x6_2 (-1) t427 _ ?side1 ?side2 A38.out).mono ?_); (case side1 => repeat (first | exact (Kd.V_reads' HO_6.out).2.2 | (with_reducible refine Kd.C_alloc ?_ _) | (with_reducible refine Kd.C_drewN ?_ _) | (with_reducible refine Kd.C_drew ?_))); (case side2 => exact (Kd.V_reads' HO_6.out).2.1); rintro e w43 ⟨v428, rfl, ho0, hb⟩; have n0_ := Aside0.mk (Kd.V_elder' (by (with_reducible repeat (first | apply Kd.V_alloc | apply Kd.V_drewN | apply Kd.V_drew)); exact HO_6.out) (Kd.R_base ho0) hb); have n1_ := Aside0.mk (Kd.R_lower ho0 (below_size (by repeat (first | (with_reducible first | exact HB.out | apply below_alloc | apply pw_below_drewN | apply below_drew1) | exact HB.out)))); have n2_ := Aside0.mk (below_step (by repeat (first | (with_reducible first | exact HB.out | apply below_alloc | apply pw_below_drewN | apply below_drew1) | exact HB.out)) hb); clear HO_6; clear HB; have HO_6 := n0_; have HO429 := n1_; have HB := n2_; clear n0_ n1_ n2_; (try clear hb); (try clear hb2); (try clear hk); (try clear hi); (try clear ho0); obtain ⟨Ao44, co44, eo44⟩ := Kd.R_slice HO429.out; subst eo44) | (go_at_call 28; (with_reducible refine (tattlelaw06_awakeT.calls  t430 _ A40.out).mono ?_); rintro e w45 ⟨rfl, hb⟩; have n0_ := Aside0.mk (below_step (by repeat (first | (with_reducible first | exact HB.out | apply below_alloc | apply pw_below_drewN | apply below_drew1) | exact HB.out)) hb); clear HB; have HB := n0_; clear n0_; (try clear hb); (try clear hb2); (try clear hk); (try clear hi)))
                  go_ret
                  exact ⟨by first | rfl | (simp [errW_none, errW_some] <;> rfl) | (simp [*, errW_none, errW_some] <;> rfl), by repeat (first | (with_reducible first | exact HB.out | apply below_alloc | apply pw_below_drewN | apply below_drew1) | exact HB.out)⟩
                · rw [if_neg c39] at H
                  have c39b0 : ((t427.length : Int) == (wrap64 (1 + (wrap64 (Int.tmod a0 64))))) = false := beq_eq_false_iff_ne.mpr c39
                  have c39b1 : ((t427.length : Int) != (wrap64 (1 + (wrap64 (Int.tmod a0 64))))) = true := bne_iff_ne.mpr c39
                  exact absurd ((Option.some.inj H).trans hrt.out) (by decide)
              · rw [if_neg c37] at H
                have c37b0 : (t426 == 6) = false := beq_eq_false_iff_ne.mpr c37
                have c37b1 : (t426 != 6) = true := bne_iff_ne.mpr c37
                exact absurd ((Option.some.inj H).trans hrt.out) (by decide)

end Go.Proofs.Ytjamociekniepaa.Fn
