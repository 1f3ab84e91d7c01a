-- Written by program (a turned copy of the kit's print) for this seat: functions, contracts. Lean checks it.
import Derived.Test.YtjamociekniepaaFnx0
import Derived.Test.YtjamociekniepaaFnx4
import Derived.Test.YtjamociekniepaaFnx14
namespace Go.Proofs.Ytjamociekniepaa.Fn
open Go.RowKit Go.Proofs.YtjamociekniepaaW.PrintWords Go.Proofs.YtjamociekniepaaW.PrintLast Go.Proofs.YtjamociekniepaaW.PrintMore
attribute [local go_sem] max2_int min2_int max_two min_two max_three min_three max_four min_four   -- for this text's walks alone
set_option linter.unusedVariables false
set_option linter.unusedSimpArgs false

/-! ### table_Merge: function 37 -/
mutual
def table_Merge.j0 : Nat → List (S26) → List (S26) → Bool → Option ((List (S26)) × Int)
  | 0, _, _, _ => none
  | k + 1, x0, x1, x24 => if x24 = true then (some (([] : List (S26)), 1)) else (if 0 ≤ (x0.length : Int) then (if ((x0.length : Int) : Int).toNat ≤ 17592186044416 then (table_Merge.l0 k x0 x1 (List.replicate ((x0.length : Int) : Int).toNat z26) (x0.length : Int) 0) else (none)) else (none))
def table_Merge.l0 : Nat → List (S26) → List (S26) → List (S26) → Int → Int → Option ((List (S26)) × Int)
  | 0, _, _, _, _, _ => none
  | k + 1, x0, x1, x6, x29, x30 => if x30 < x29 then (if 0 ≤ x30 then (if x30 < (x0.length : Int) then (if x30 < (x1.length : Int) then ((know_Join.f k (([(⟨(rd_T26 x0 x30).f0, (rd_T26 x0 x30).f1⟩ : S26), (⟨(rd_T26 x1 x30).f0, (rd_T26 x1 x30).f1⟩ : S26)] : List (S26)))).bind fun bt482 => (if bt482.2.2 = 0 then (if x30 < (x6.length : Int) then (table_Merge.l0 k x0 x1 (x6.set (x30 : Int).toNat (⟨bt482.1, bt482.2.1⟩ : S26)) x29 (wrap64 (x30 + 1))) else (none)) else (some (([] : List (S26)), bt482.2.2)))) else (none)) else (none)) else (none)) else (some (x6, 0))
end
def table_Merge.f (k : Nat) (l0 : List (S26)) (l1 : List (S26)) : Option ((List (S26)) × Int) := (table_Check.f k l0).bind fun t472 => (if t472 = 0 then ((table_Check.f k l1).bind fun t473 => (if t473 = 0 then (table_Merge.j0 k l0 l1 ((l0.length : Int) != (l1.length : Int))) else (table_Merge.j0 k l0 l1 true))) else (table_Merge.j0 k l0 l1 true))
theorem table_Merge.mono_l : ∀ k, (∀ y0 y1 y2, LeO (table_Merge.j0 k y0 y1 y2) (table_Merge.j0 (k + 1) y0 y1 y2)) ∧ (∀ y0 y1 y2 y3 y4, LeO (table_Merge.l0 k y0 y1 y2 y3 y4) (table_Merge.l0 (k + 1) y0 y1 y2 y3 y4))
  | 0 => ⟨fun _ _ _ r h => by simp [table_Merge.j0] at h, fun _ _ _ _ _ r h => by simp [table_Merge.l0] at h⟩
  | k + 1 => by
    obtain ⟨ih0, ih1⟩ := table_Merge.mono_l k
    refine ⟨?_, ?_⟩
    · intro y0 y1 y2
      unfold table_Merge.j0
      repeat' first
      | (with_reducible exact ih0 _ _ _)
      | (with_reducible exact ih1 _ _ _ _ _)
      | (with_reducible exact know_Join.mono _ _)
      | (with_reducible exact table_Check.mono _ _)
      | (with_reducible exact LeO.refl _)
      | (with_reducible exact LeO.none _)
      | (with_reducible refine LeO.ite ?_ ?_)
      | (with_reducible refine LeO.bind ?_ (fun _ => ?_))
      | exact ih0 _ _ _
      | exact ih1 _ _ _ _ _
      | exact know_Join.mono _ _
      | exact table_Check.mono _ _
      | exact LeO.none _
      | refine LeO.ite ?_ ?_
      | refine LeO.bind ?_ (fun _ => ?_)
    · intro y0 y1 y2 y3 y4
      unfold table_Merge.l0
      repeat' first
      | (with_reducible exact ih0 _ _ _)
      | (with_reducible exact ih1 _ _ _ _ _)
      | (with_reducible exact know_Join.mono _ _)
      | (with_reducible exact table_Check.mono _ _)
      | (with_reducible exact LeO.refl _)
      | (with_reducible exact LeO.none _)
      | (with_reducible refine LeO.ite ?_ ?_)
      | (with_reducible refine LeO.bind ?_ (fun _ => ?_))
      | exact ih0 _ _ _
      | exact ih1 _ _ _ _ _
      | exact know_Join.mono _ _
      | exact table_Check.mono _ _
      | exact LeO.none _
      | refine LeO.ite ?_ ?_
      | refine LeO.bind ?_ (fun _ => ?_)
theorem table_Merge.mono : ∀ a0 a1 k, LeO (table_Merge.f k a0 a1) (table_Merge.f (k + 1) a0 a1) := by
  intro a0 a1 k
  obtain ⟨ih0, ih1⟩ := table_Merge.mono_l k
  unfold table_Merge.f
  repeat' first
      | (with_reducible exact ih0 _ _ _)
      | (with_reducible exact ih1 _ _ _ _ _)
      | (with_reducible exact know_Join.mono _ _)
      | (with_reducible exact table_Check.mono _ _)
      | (with_reducible exact LeO.refl _)
      | (with_reducible exact LeO.none _)
      | (with_reducible refine LeO.ite ?_ ?_)
      | (with_reducible refine LeO.bind ?_ (fun _ => ?_))
      | exact ih0 _ _ _
      | exact ih1 _ _ _ _ _
      | exact know_Join.mono _ _
      | exact table_Check.mono _ _
      | exact LeO.none _
      | refine LeO.ite ?_ ?_
      | refine LeO.bind ?_ (fun _ => ?_)
def table_Merge.T7 : Bool × List (List Nat × List Nat) := (true, [([], []), ([], []), ([0, 1], [0, 1]), ([2], [2]), ([], []), ([], []), ([4, 5], [4, 5]), ([6], [6]), ([3, 7], [3, 7]), ([8], [8]), ([9], [9]), ([10], [10]), ([10], [10]), ([], []), ([13, 11, 9, 0, 1, 2, 3, 4, 5, 6, 7, 8, 9, 10, 11, 13], [11, 13]), ([12, 14, 0, 1, 2, 3, 4, 5, 6, 7, 8, 9, 10, 11, 12, 13, 14], [12])])
def table_Merge.B7 : List Nat := [0, 0, 3, 7, 0, 0, 48, 112, 255, 511, 1023, 2047, 2047, 0, 12287, 32767]
theorem table_Merge.tab7 : rtab .any (opsOf Try.f37 7) = table_Merge.T7 := by kernel_rfl
theorem table_Merge.bits7 : waitsOk table_Merge.T7.2 table_Merge.B7 = true := by kernel_rfl
set_option maxHeartbeats 8000000 in
set_option maxRecDepth 100000 in
theorem table_Merge.calls (k : Nat) (A0 : Option Addr) (c0 : Nat) (l0 : List (S26)) (A1 : Option Addr) (c1 : Nat) (l1 : List (S26)) (r1 : List (S26)) (r2 : Int) (w : World) (hr0 : Kd.C k26 w A0 l0.length l0) (hc0 : l0.length ≤ c0) (hr1 : Kd.C k26 w A1 l1.length l1) (hc1 : l1.length ≤ c1) (h : table_Merge.f k l0 l1 = some (r1, r2)) :
    Calls Try.prog 37 #[.slice A0 l0.length c0, .slice A1 l1.length c1] w fun e w' => ∃ v0_ : Value, e = .returned (.tuple #[v0_, .int .i64 r2]) ∧ Kd.R k26 26 w' w.heap.size (fun _ => True) v0_ r1 ∧ Below w.heap.size w w' := by
  have hu26 := Try.underlying26
  have HR0 := Aside0.mk hr0
  have HC0 := Aside0.mk hc0
  clear hr0 hc0
  have HR1 := Aside0.mk hr1
  have HC1 := Aside0.mk hc1
  clear hr1 hc1
  have HB := Aside0.mk (Below.refl w.heap.size w)
  have H : ((table_Check.f k l0).bind fun t472 => (if t472 = 0 then ((table_Check.f k l1).bind fun t473 => (if t473 = 0 then (table_Merge.j0 k l0 l1 ((l0.length : Int) != (l1.length : Int))) else (table_Merge.j0 k l0 l1 true))) else (table_Merge.j0 k l0 l1 true))) = some (r1, r2) := h
  clear h
  have HC3 := Aside0.mk H
  clear H
  go_enter Try.func37, Try.ntmps37
  go_upto_region 1 with (fail)
  go_cut [24] (fun v24 wc => ∃ (kq : Nat) (x24_2 : Bool), v24 = .bool x24_2 ∧ Aside0 (table_Merge.j0 kq l0 l1 x24_2 = some (r1, r2)) ∧ Aside0 (kq ≤ k) ∧ Aside0 (Below w.heap.size w wc))
  case first =>
    have H := HC3.out
    clear HC3
    replace H := Option.bind_eq_some_iff.mp H
    obtain ⟨t472, A40, H⟩ := H
    replace H : (if t472 = 0 then ((table_Check.f k l1).bind fun t473 => (if t473 = 0 then (table_Merge.j0 k l0 l1 ((l0.length : Int) != (l1.length : Int))) else (table_Merge.j0 k l0 l1 true))) else (table_Merge.j0 k l0 l1 true)) = some (r1, r2) := H
    have A4 := Aside0.mk A40
    clear A40
    by_cases c5 : t472 = 0
    · rw [if_pos c5] at H
      have c5b0 : (t472 == 0) = true := beq_iff_eq.mpr c5
      have c5b1 : (t472 != 0) = false := bne_eq_false_iff_eq.mpr c5
      clear c5
      (first | rw [c5b0] | (simp only [i64_w, i32_w]; rw [c5b0]) | skip)
      replace H := Option.bind_eq_some_iff.mp H
      obtain ⟨t473, A60, H⟩ := H
      replace H : (if t473 = 0 then (table_Merge.j0 k l0 l1 ((l0.length : Int) != (l1.length : Int))) else (table_Merge.j0 k l0 l1 true)) = some (r1, r2) := H
      have A6 := Aside0.mk A60
      clear A60
      by_cases c7 : t473 = 0
      · rw [if_pos c7] at H
        have c7b0 : (t473 == 0) = true := beq_iff_eq.mpr c7
        have c7b1 : (t473 != 0) = false := bne_eq_false_iff_eq.mpr c7
        clear c7
        have H' := Aside0.mk H
        clear H
        go_wp2_with (first | ((with_reducible refine gate_callee (f := 27) rfl ?_); refine goesL_ (some 11) rfl rfl Try.func27 (by kernel_rfl) rfl #[.slice A0 l0.length c0] rfl (by (try simp only [List.map_toArray, List.map_cons, List.map_nil]); first | done | rfl | (simp only [List.length_drop, List.length_take]; rfl)) ?_; (with_reducible refine (table_Check.calls k _ _ l0 t472 _ ?side1 ?side2 A4.out).mono ?_); (case side1 => repeat (first | exact (Kd.C_below HR0.out HB.out) | (with_reducible refine Kd.C_alloc ?_ _) | (with_reducible refine Kd.C_drewN ?_ _) | (with_reducible refine Kd.C_drew ?_))); (case side2 => exact HC0.out); rintro e w8 ⟨rfl, hb⟩; refine ⟨_, rfl, ?_⟩; have n0_ := Aside0.mk (below_step (by repeat (first | (with_reducible first | exact HB.out | apply below_alloc | apply pw_below_drewN | apply below_drew1) | exact HB.out)) hb); clear HB; have HB := n0_; clear n0_; (try clear hb); (try clear hb2); (try clear hk); (try clear hi)) | (go_at_call 27; (with_reducible refine (table_Check.calls k _ _ l1 t473 _ ?side1 ?side2 A6.out).mono ?_); (case side1 => repeat (first | exact (Kd.C_below HR1.out HB.out) | (with_reducible refine Kd.C_alloc ?_ _) | (with_reducible refine Kd.C_drewN ?_ _) | (with_reducible refine Kd.C_drew ?_))); (case side2 => exact HC1.out); rintro e w9 ⟨rfl, hb⟩; have n0_ := Aside0.mk (below_step (by repeat (first | (with_reducible first | exact HB.out | apply below_alloc | apply pw_below_drewN | apply below_drew1) | exact HB.out)) hb); clear HB; have HB := n0_; clear n0_; (try clear hb); (try clear hb2); (try clear hk); (try clear hi)))
        go_meet
        case rel => exact ⟨_, (((l0.length : Int) != (l1.length : Int))), (by first | rfl | (simp; done) | (simp [*]; done)), H', ⟨by first | omega | exact Nat.le_refl _⟩, ⟨by repeat (first | (with_reducible first | exact HB.out | apply below_alloc | apply pw_below_drewN | apply below_drew1) | exact HB.out)⟩⟩
      · rw [if_neg c7] at H
        have c7b0 : (t473 == 0) = false := beq_eq_false_iff_ne.mpr c7
        have c7b1 : (t473 != 0) = true := bne_iff_ne.mpr c7
        have H' := Aside0.mk H
        clear H
        go_wp2_with (first | ((with_reducible refine gate_callee (f := 27) rfl ?_); refine goesL_ (some 11) rfl rfl Try.func27 (by kernel_rfl) rfl #[.slice A0 l0.length c0] rfl (by (try simp only [List.map_toArray, List.map_cons, List.map_nil]); first | done | rfl | (simp only [List.length_drop, List.length_take]; rfl)) ?_; (with_reducible refine (table_Check.calls k _ _ l0 t472 _ ?side1 ?side2 A4.out).mono ?_); (case side1 => repeat (first | exact (Kd.C_below HR0.out HB.out) | (with_reducible refine Kd.C_alloc ?_ _) | (with_reducible refine Kd.C_drewN ?_ _) | (with_reducible refine Kd.C_drew ?_))); (case side2 => exact HC0.out); rintro e w10 ⟨rfl, hb⟩; refine ⟨_, rfl, ?_⟩; have n0_ := Aside0.mk (below_step (by repeat (first | (with_reducible first | exact HB.out | apply below_alloc | apply pw_below_drewN | apply below_drew1) | exact HB.out)) hb); clear HB; have HB := n0_; clear n0_; (try clear hb); (try clear hb2); (try clear hk); (try clear hi)) | (go_at_call 27; (with_reducible refine (table_Check.calls k _ _ l1 t473 _ ?side1 ?side2 A6.out).mono ?_); (case side1 => repeat (first | exact (Kd.C_below HR1.out HB.out) | (with_reducible refine Kd.C_alloc ?_ _) | (with_reducible refine Kd.C_drewN ?_ _) | (with_reducible refine Kd.C_drew ?_))); (case side2 => exact HC1.out); rintro e w11 ⟨rfl, hb⟩; have n0_ := Aside0.mk (below_step (by repeat (first | (with_reducible first | exact HB.out | apply below_alloc | apply pw_below_drewN | apply below_drew1) | exact HB.out)) hb); clear HB; have HB := n0_; clear n0_; (try clear hb); (try clear hb2); (try clear hk); (try clear hi)))
        go_meet
        case rel => exact ⟨_, (true), (by first | rfl | (simp; done) | (simp [*]; done)), H', ⟨by first | omega | exact Nat.le_refl _⟩, ⟨by repeat (first | (with_reducible first | exact HB.out | apply below_alloc | apply pw_below_drewN | apply below_drew1) | exact HB.out)⟩⟩
    · rw [if_neg c5] at H
      have c5b0 : (t472 == 0) = false := beq_eq_false_iff_ne.mpr c5
      have c5b1 : (t472 != 0) = true := bne_iff_ne.mpr c5
      (first | rw [c5b0] | (simp only [i64_w, i32_w]; rw [c5b0]) | skip)
      have H' := Aside0.mk H
      clear H
      go_wp2_with (first | ((with_reducible refine gate_callee (f := 27) rfl ?_); refine goesL_ (some 11) rfl rfl Try.func27 (by kernel_rfl) rfl #[.slice A0 l0.length c0] rfl (by (try simp only [List.map_toArray, List.map_cons, List.map_nil]); first | done | rfl | (simp only [List.length_drop, List.length_take]; rfl)) ?_; (with_reducible refine (table_Check.calls k _ _ l0 t472 _ ?side1 ?side2 A4.out).mono ?_); (case side1 => repeat (first | exact (Kd.C_below HR0.out HB.out) | (with_reducible refine Kd.C_alloc ?_ _) | (with_reducible refine Kd.C_drewN ?_ _) | (with_reducible refine Kd.C_drew ?_))); (case side2 => exact HC0.out); rintro e w12 ⟨rfl, hb⟩; refine ⟨_, rfl, ?_⟩; have n0_ := Aside0.mk (below_step (by repeat (first | (with_reducible first | exact HB.out | apply below_alloc | apply pw_below_drewN | apply below_drew1) | exact HB.out)) hb); clear HB; have HB := n0_; clear n0_; (try clear hb); (try clear hb2); (try clear hk); (try clear hi)))
      go_meet
      case rel => exact ⟨_, (true), (by first | rfl | (simp; done) | (simp [*]; done)), H', ⟨by first | omega | exact Nat.le_refl _⟩, ⟨by repeat (first | (with_reducible first | exact HB.out | apply below_alloc | apply pw_below_drewN | apply below_drew1) | exact HB.out)⟩⟩
  case rest =>
    clear HC3
    try clear c1
    try clear c2
    try clear p2
    try clear c3
    try clear c5
    try clear c5b0
    try clear c5b1
    try clear c7
    try clear c7b0
    try clear c7b1
    obtain ⟨kq, x24_2, rfl, HA, HJ2, HB⟩ := hcut
    cases kq with
    | zero => exact absurd HA.out (by simp [table_Merge.j0])
    | succ kj2 =>
      have H := HA.out
      clear HA
      simp only [table_Merge.j0] at H
      by_cases c13 : x24_2 = true
      · subst c13
        have H1 : (some (([] : List (S26)), 1)) = some (r1, r2) := by rw [if_pos rfl] at H; exact H
        clear H
        have H := H1
        clear H1
        simp only [Option.some.injEq, Prod.mk.injEq] at H
        obtain ⟨rfl, rfl⟩ := H
        go_wp2
        go_ret2
        exact ⟨_, by first | rfl | (simp [errW_none, errW_some] <;> rfl) | (simp [*, errW_none, errW_some] <;> rfl), by first | exact Kd.R_nil _ _ _ _ _ | exact Kd.N_nil _ _ _ _ _ | exact Kd.V_nil _ _ _ _ _ | exact Kd.Q_nil _ _ _ _ _ | exact Kd.S_nil _ _ _ _ _, by repeat (first | (with_reducible first | exact HB.out | apply below_alloc | apply pw_below_drewN | apply below_drew1) | exact HB.out)⟩
      · replace c13 := Bool.eq_false_iff.mpr c13
        subst c13
        have H1 : (if 0 ≤ (l0.length : Int) then (if ((l0.length : Int) : Int).toNat ≤ 17592186044416 then (table_Merge.l0 kj2 l0 l1 (List.replicate ((l0.length : Int) : Int).toNat z26) (l0.length : Int) 0) else (none)) else (none)) = some (r1, r2) := by rw [if_neg (show ¬ (false = true) by decide)] at H; exact H
        clear H
        have H := H1
        clear H1
        by_cases c14 : 0 ≤ (l0.length : Int)
        · rw [if_pos c14] at H
          have c14b0 := eq_true c14
          have c14b1 : decide (0 ≤ (l0.length : Int)) = true := decide_eq_true c14
          clear c14
          by_cases c15 : ((l0.length : Int) : Int).toNat ≤ 17592186044416
          · rw [if_pos c15] at H
            have c15b0 := eq_true c15
            have c15b1 : decide (((l0.length : Int) : Int).toNat ≤ 17592186044416) = true := decide_eq_true c15
            clear c15
            obtain ⟨y474, hy474⟩ : ∃ y_ : List (S26), y_ = (List.replicate ((l0.length : Int) : Int).toNat z26) := ⟨_, rfl⟩
            replace H : (table_Merge.l0 kj2 l0 l1 y474 (l0.length : Int) 0) = some (r1, r2) := by first | (rw [hy474]; with_reducible exact H) | (have H2_ := (Option.bind_some _ _).symm.trans H; rw [hy474]; with_reducible exact H2_) | (have H2_ := (Option.bind_some _ _).symm.trans H; with_reducible exact H2_) | with_reducible exact H | (rw [hy474]; exact H) | exact H
            have Ny474 := Aside0.mk hy474
            clear hy474
            have H' := Aside0.mk H
            clear H
            go_wp2_with (first | ((with_reducible refine gate_dst (N := 27) rfl ?_); (try (refine gate_guard (by rfl) ?_; dsimp only)); refine Kd.R_make k26 _ 26 rfl (N := 27) rfl 22 _ _ rfl (l0.length : Int) rfl rfl Try.underlying22 (.agg #[(.int .u64 0), (.int .i64 0)]) 16 info26 rfl (by decide) (by omega) z26 (ok := fun _ => True) (okp := fun _ => True) (k26_mkM _ _ _ z26 ) (fun _ hk => hk) trivial (of_decide_eq_true (by first | (with_reducible assumption) | assumption)) (Nat.le_trans (Nat.mul_le_mul_right _ (of_decide_eq_true (by first | (with_reducible assumption) | assumption) : (l0.length : Int).toNat ≤ 17592186044416)) (by omega)) (Below.refl _ _) (Nat.le_refl _) ?_; intro v475 w16 ho17 hb hg_ hnew_; clear hg_ hnew_; (first | rw [← Ny474.out] at ho17 | (simp only [Int.reduceToNat] at ho17; rw [← Ny474.out] at ho17)); have n0_ := Aside0.mk (Kd.R_lower ho17 (below_size (by repeat (first | (with_reducible first | exact HB.out | apply below_alloc | apply pw_below_drewN | apply below_drew1) | exact HB.out)))); have n1_ := Aside0.mk (below_step (by repeat (first | (with_reducible first | exact HB.out | apply below_alloc | apply pw_below_drewN | apply below_drew1) | exact HB.out)) hb); clear HB; have HO476 := n0_; have HB := n1_; clear n0_ n1_; clear hb ho17))
            go_loopg [30] kj2 (fun kq v30 w' => ∃ (x6_2 : List (S26)) (x30_2 : Int), v30 = .int .i64 x30_2 ∧ Aside0 (table_Merge.l0 kq l0 l1 x6_2 (l0.length : Int) x30_2 = some (r1, r2)) ∧ Aside0 (kq ≤ kj2) ∧ Aside0 (Kd.R k26 26 w' w.heap.size (fun _ => True) v475 x6_2) ∧ Aside0 (Below w.heap.size w w'))
            case atStart => exact ⟨(y474), (0), (by first | rfl | (simp; done) | (simp [*]; done)), H', ⟨Nat.le_refl _⟩, ⟨by (with_reducible repeat (first | apply Kd.R_alloc | apply Kd.R_drewN | apply Kd.R_drew)); exact HO476.out⟩, ⟨by repeat (first | (with_reducible first | exact HB.out | apply below_alloc | apply pw_below_drewN | apply below_drew1) | exact HB.out)⟩⟩
            case round =>
              clear H'
              try clear c1
              try clear c2
              try clear p2
              try clear c3
              try clear c5
              try clear c5b0
              try clear c5b1
              try clear c7
              try clear c7b0
              try clear c7b1
              try clear c13
              try clear c14
              try clear c14b0
              try clear c14b1
              try clear c15
              try clear c15b0
              try clear c15b1
              try clear p2
              obtain ⟨x6_2, x30_2, rfl, HA, HK2, HO_6, HB⟩ := hrel
              cases gk with
              | zero => exact absurd HA.out (by simp [table_Merge.l0])
              | succ k2 =>
                have H := HA.out
                clear HA
                simp only [table_Merge.l0] at H
                by_cases c18 : x30_2 < (l0.length : Int)
                · rw [if_pos c18] at H
                  have c18b0 : decide (x30_2 < (l0.length : Int)) = true := decide_eq_true c18
                  clear c18
                  by_cases c19 : 0 ≤ x30_2
                  · rw [if_pos c19] at H
                    have c19b0 : decide (0 ≤ x30_2) = true := decide_eq_true c19
                    clear c19
                    by_cases c20 : x30_2 < (l0.length : Int)
                    · rw [if_pos c20] at H
                      have c20b0 : decide (x30_2 < (l0.length : Int)) = true := decide_eq_true c20
                      clear c20
                      by_cases c21 : x30_2 < (l1.length : Int)
                      · rw [if_pos c21] at H
                        have c21b0 : decide (x30_2 < (l1.length : Int)) = true := decide_eq_true c21
                        clear c21
                        obtain ⟨y479, hy479⟩ : ∃ y_ : List (S26), y_ = (([(⟨(rd_T26 l0 x30_2).f0, (rd_T26 l0 x30_2).f1⟩ : S26), (⟨(rd_T26 l1 x30_2).f0, (rd_T26 l1 x30_2).f1⟩ : S26)] : List (S26))) := ⟨_, rfl⟩
                        replace H : ((know_Join.f k2 y479).bind fun bt482 => (if bt482.2.2 = 0 then (if x30_2 < (x6_2.length : Int) then (table_Merge.l0 k2 l0 l1 (x6_2.set (x30_2 : Int).toNat (⟨bt482.1, bt482.2.1⟩ : S26)) (l0.length : Int) (wrap64 (x30_2 + 1))) else (none)) else (some (([] : List (S26)), bt482.2.2)))) = some (r1, r2) := by first | (rw [hy479]; with_reducible exact H) | (have H2_ := (Option.bind_some _ _).symm.trans H; rw [hy479]; with_reducible exact H2_) | (have H2_ := (Option.bind_some _ _).symm.trans H; with_reducible exact H2_) | with_reducible exact H | (rw [hy479]; exact H) | exact H
                        have Ny479 := Aside0.mk hy479
                        clear hy479
                        replace H := Option.bind_eq_some_iff.mp H
                        obtain ⟨⟨t482, t483, t484⟩, A220, H⟩ := H
                        replace H : (if t484 = 0 then (if x30_2 < (x6_2.length : Int) then (table_Merge.l0 k2 l0 l1 (x6_2.set (x30_2 : Int).toNat (⟨t482, t483⟩ : S26)) (l0.length : Int) (wrap64 (x30_2 + 1))) else (none)) else (some (([] : List (S26)), t484))) = some (r1, r2) := H
                        have A22 := Aside0.mk A220
                        clear A220
                        by_cases c23 : t484 = 0
                        · rw [if_pos c23] at H
                          have c23b0 : (t484 == 0) = true := beq_iff_eq.mpr c23
                          have c23b1 : (t484 != 0) = false := bne_eq_false_iff_eq.mpr c23
                          clear c23
                          by_cases c24 : x30_2 < (x6_2.length : Int)
                          · rw [if_pos c24] at H
                            have c24b0 : decide (x30_2 < (x6_2.length : Int)) = true := decide_eq_true c24
                            clear c24
                            obtain ⟨y486, hy486⟩ : ∃ y_ : List (S26), y_ = (x6_2.set (x30_2 : Int).toNat (⟨t482, t483⟩ : S26)) := ⟨_, rfl⟩
                            replace H : (table_Merge.l0 k2 l0 l1 y486 (l0.length : Int) (wrap64 (x30_2 + 1))) = some (r1, r2) := by first | (rw [hy486]; with_reducible exact H) | (have H2_ := (Option.bind_some _ _).symm.trans H; rw [hy486]; with_reducible exact H2_) | (have H2_ := (Option.bind_some _ _).symm.trans H; with_reducible exact H2_) | with_reducible exact H | (rw [hy486]; exact H) | exact H
                            have Ny486 := Aside0.mk hy486
                            clear hy486
                            have H' := Aside0.mk H
                            clear H
                            try go_wp2
                            have n0_ := Aside0.mk (Kd.R_drew HO_6.out)
                            have n1_ := Aside0.mk (below_drew1 HB.out)
                            clear HO_6
                            clear HB
                            have HO_6 := n0_
                            have HB := n1_
                            clear n0_ n1_
                            have p477 : 0 ≤ (x30_2 : Int) := of_decide_eq_true (by first | (with_reducible assumption) | assumption)
                            have q477 : x30_2 < (l0.length : Int) := of_decide_eq_true (by first | (with_reducible assumption) | assumption)
                            obtain ⟨ad477, e477, hx477_0, hx477_1⟩ := at_T26 HR0.out x30_2 p477 q477
                            have hw477_1 := hx477_1
                            have hw477_0 := hx477_0
                            cases e477
                            replace hx477_0 := (HB.out.cell (World.block_lt_of_cell? w _ hx477_0)).trans hx477_0
                            replace hx477_1 := (HB.out.cell (World.block_lt_of_cell? w _ hx477_1)).trans hx477_1
                            replace p477 := eq_true p477
                            replace q477 := eq_true q477
                            have p478 : 0 ≤ (x30_2 : Int) := of_decide_eq_true (by first | (with_reducible assumption) | assumption)
                            have q478 : x30_2 < (l1.length : Int) := of_decide_eq_true (by first | (with_reducible assumption) | assumption)
                            obtain ⟨ad478, e478, hx478_0, hx478_1⟩ := at_T26 HR1.out x30_2 p478 q478
                            have hw478_1 := hx478_1
                            have hw478_0 := hx478_0
                            cases e478
                            replace hx478_0 := (HB.out.cell (World.block_lt_of_cell? w _ hx478_0)).trans hx478_0
                            replace hx478_1 := (HB.out.cell (World.block_lt_of_cell? w _ hx478_1)).trans hx478_1
                            replace p478 := eq_true p478
                            replace q478 := eq_true q478
                            refine start_ (n := 16) (S := fun w' => w'.cell? (ad477.add ((x30_2).toNat * 2)) = some (.int .u64 ((rd_T26 l0 x30_2).f0)) ∧ w'.cell? ⟨(ad477.add ((x30_2).toNat * 2)).block, (ad477.add ((x30_2).toNat * 2)).off + 1, none⟩ = some (.int .i64 ((rd_T26 l0 x30_2).f1)) ∧ w'.cell? (ad478.add ((x30_2).toNat * 2)) = some (.int .u64 ((rd_T26 l1 x30_2).f0)) ∧ w'.cell? ⟨(ad478.add ((x30_2).toNat * 2)).block, (ad478.add ((x30_2).toNat * 2)).off + 1, none⟩ = some (.int .i64 ((rd_T26 l1 x30_2).f1))) (ds := []) #[false, false, false, false, false, false, false, false, false, false, false, false, false, false, false, false] (by kernel_rfl) rfl rfl ⟨((HB.out.cell (World.block_lt_of_cell? w _ hw477_0)).trans hw477_0), ((HB.out.cell (World.block_lt_of_cell? w _ hw477_1)).trans hw477_1), ((HB.out.cell (World.block_lt_of_cell? w _ hw478_0)).trans hw478_0), ((HB.out.cell (World.block_lt_of_cell? w _ hw478_1)).trans hw478_1)⟩ (fun hHeld => ?_); refine with_tabW table_Merge.tab7 table_Merge.bits7 (fun HT_ HW_ => ?_)
                            generalize wr.drew = w26 at HO_6 HB hx477_0 hx477_1 hx478_0 hx478_1 hHeld ⊢
                            refine pure_ (i := 0) (N := some 34) (v := ?_) (a' := ?_) #[true, false, false, false, false, false, false, false, false, false, false, false, false, false, false, false] rfl rfl (any_of HT_.out (by kernel_rfl)) (fun _ _ _ h => h) (Or.inl ⟨by rfl, ?_⟩) ?_ ?_
                            rotate_left
                            · intro w'
                              go_simp
                              with_reducible rfl
                            rotate_left
                            · simp only [Act.put, List.setIfInBounds_toArray, List.set_cons_zero, List.set_cons_succ, i64_w, i32_w]
                              rfl
                            refine pure_ (i := 1) (N := some 35) (v := ?_) (a' := ?_) #[true, true, false, false, false, false, false, false, false, false, false, false, false, false, false, false] rfl rfl (any_of HT_.out (by kernel_rfl)) (fun _ _ _ h => h) (Or.inl ⟨by rfl, ?_⟩) ?_ ?_
                            rotate_left
                            · intro w'
                              go_simp
                              with_reducible rfl
                            rotate_left
                            · simp only [Act.put, List.setIfInBounds_toArray, List.set_cons_zero, List.set_cons_succ, i64_w, i32_w]
                              rfl
                            refine pure_ (i := 2) (N := some 36) (v := ?_) (a' := ?_) #[true, true, true, false, false, false, false, false, false, false, false, false, false, false, false, false] rfl rfl (any_of HT_.out (by kernel_rfl)) (fun _ _ _ h => h) (Or.inl ⟨by rfl, ?_⟩) ?_ ?_
                            rotate_left
                            · intro w'
                              go_simp
                              with_reducible rfl
                            rotate_left
                            · simp only [Act.put, List.setIfInBounds_toArray, List.set_cons_zero, List.set_cons_succ, i64_w, i32_w]
                              rfl
                            refine pure_ (i := 4) (N := some 38) (v := ?_) (a' := ?_) #[true, true, true, false, true, false, false, false, false, false, false, false, false, false, false, false] rfl rfl (any_of HT_.out (by kernel_rfl)) (fun _ _ _ h => h) (Or.inl ⟨by rfl, ?_⟩) ?_ ?_
                            rotate_left
                            · intro w'
                              go_simp
                              with_reducible rfl
                            rotate_left
                            · simp only [Act.put, List.setIfInBounds_toArray, List.set_cons_zero, List.set_cons_succ, i64_w, i32_w]
                              rfl
                            refine pure_ (i := 5) (N := some 39) (v := ?_) (a' := ?_) #[true, true, true, false, true, true, false, false, false, false, false, false, false, false, false, false] rfl rfl (any_of HT_.out (by kernel_rfl)) (fun _ _ _ h => h) (Or.inl ⟨by rfl, ?_⟩) ?_ ?_
                            rotate_left
                            · intro w'
                              go_simp
                              with_reducible rfl
                            rotate_left
                            · simp only [Act.put, List.setIfInBounds_toArray, List.set_cons_zero, List.set_cons_succ, i64_w, i32_w]
                              rfl
                            refine pure_ (i := 6) (N := some 40) (v := ?_) (a' := ?_) #[true, true, true, false, true, true, true, false, false, false, false, false, false, false, false, false] rfl rfl (any_of HT_.out (by kernel_rfl)) (fun _ _ _ h => h) (Or.inl ⟨by rfl, ?_⟩) ?_ ?_
                            rotate_left
                            · intro w'
                              go_simp
                              with_reducible rfl
                            rotate_left
                            · simp only [Act.put, List.setIfInBounds_toArray, List.set_cons_zero, List.set_cons_succ, i64_w, i32_w]
                              rfl
                            refine take_ (i := 3) (N := some 37) (v := ?_) (a' := ?_) #[true, true, true, true, true, true, true, false, false, false, false, false, false, false, false, false] rfl rfl (take_ofW HT_.out HW_.out (by kernel_rfl)) (fun _ _ _ h => h) (Or.inl ⟨by rfl, ?_⟩) hHeld ?_ ?_
                            rotate_left
                            · rintro w' ⟨s0, s1, s2, s3⟩
                              go_simp
                              with_reducible rfl
                            rotate_left
                            · simp only [Act.put, List.setIfInBounds_toArray, List.set_cons_zero, List.set_cons_succ, i64_w, i32_w]
                              rfl
                            refine take_ (i := 7) (N := some 41) (v := ?_) (a' := ?_) #[true, true, true, true, true, true, true, true, false, false, false, false, false, false, false, false] rfl rfl (take_ofW HT_.out HW_.out (by kernel_rfl)) (fun _ _ _ h => h) (Or.inl ⟨by rfl, ?_⟩) hHeld ?_ ?_
                            rotate_left
                            · rintro w' ⟨s0, s1, s2, s3⟩
                              go_simp
                              with_reducible rfl
                            rotate_left
                            · simp only [Act.put, List.setIfInBounds_toArray, List.set_cons_zero, List.set_cons_succ, i64_w, i32_w]
                              rfl
                            refine join_ (σ := Value × Nat) 2 #[true, true, true, true, true, true, true, true, true, true, true, true, true, true, false, false] (fun s_ => [(42, s_.1), (43, .tuple #[.agg #[.int .u64 t482, .int .i64 t483], .int .i64 t484]), (8, .pointer (some ⟨s_.2, 0, none⟩)), (33, .tuple #[.agg #[.int .u64 t482, .int .i64 t483], .int .i64 t484]), (44, .agg #[.int .u64 t482, .int .i64 t483]), (45, .int .i64 t484)]) (fun s_ w' => (w'.cell? (ad477.add ((x30_2).toNat * 2)) = some (.int .u64 ((rd_T26 l0 x30_2).f0)) ∧ w'.cell? ⟨(ad477.add ((x30_2).toNat * 2)).block, (ad477.add ((x30_2).toNat * 2)).off + 1, none⟩ = some (.int .i64 ((rd_T26 l0 x30_2).f1)) ∧ w'.cell? (ad478.add ((x30_2).toNat * 2)) = some (.int .u64 ((rd_T26 l1 x30_2).f0)) ∧ w'.cell? ⟨(ad478.add ((x30_2).toNat * 2)).block, (ad478.add ((x30_2).toNat * 2)).off + 1, none⟩ = some (.int .i64 ((rd_T26 l1 x30_2).f1))) ∧ (Kd.R k26 26 w' w.heap.size (fun k_ => some k_ ≠ (v475 : Value).ownBlock ∧ k_ ≠ s_.2) s_.1 y479) ∧ (Kd.R k26 26 w' w.heap.size (fun k_ => some k_ ≠ (s_.1 : Value).ownBlock ∧ k_ ≠ s_.2) v475 x6_2) ∧ (w'.heap[s_.2]? = some (.cells #[.int .u64 0, .int .i64 0] 26 (0, 0))) ∧ (w.heap.size ≤ s_.2) ∧ (w.heap.size ≤ s_.2) ∧ (Below w.heap.size w w')) ?_ ?_
                            rotate_left
                            · intro hCont
                              refine two_ (i := 8) (j := 13) (Ni := some 42) (Nj := some 8) #[true, true, true, true, true, true, true, true, true, false, false, false, false, false, false, false] #[true, true, true, true, true, true, true, true, false, false, false, false, false, true, false, false] rfl rfl rfl rfl (two_of HT_.out (by kernel_rfl)) (by decide) (by decide) (fun K hK => ?_) (fun K hK => ?_)
                              · skip
                                refine Kd.R_lit_step k26 _ 26 ?hg (N := 42) ?hd (xs := ([(⟨(rd_T26 l0 x30_2).f0, (rd_T26 l0 x30_2).f1⟩ : S26), (⟨(rd_T26 l1 x30_2).f0, (rd_T26 l1 x30_2).f1⟩ : S26)] : List (S26))) (inner := [.int .u64 ((rd_T26 l0 x30_2).f0), .int .i64 ((rd_T26 l0 x30_2).f1), .int .u64 ((rd_T26 l1 x30_2).f0), .int .i64 ((rd_T26 l1 x30_2).f1)]) (ok := fun _ => True) (okp := fun _ => True) ?hr ?hp (fun _ hk => hk) trivial (Below.refl _ _) (Nat.le_refl _) (by simp) ?_; (case hd => rfl); (case hg => rfl); (case hr => first | (go_simp; done) | (go_simp; rfl)); (case hp => exact (Reps.c2 (show Kd.M k26 _ _ _ (⟨(rd_T26 l0 x30_2).f0, (rd_T26 l0 x30_2).f1⟩ : S26) [.int .u64 ((rd_T26 l0 x30_2).f0), .int .i64 ((rd_T26 l0 x30_2).f1)] from (k26_mkM _ _ _ (⟨(rd_T26 l0 x30_2).f0, (rd_T26 l0 x30_2).f1⟩ : S26) )) (Reps.c2 (show Kd.M k26 _ _ _ (⟨(rd_T26 l1 x30_2).f0, (rd_T26 l1 x30_2).f1⟩ : S26) [.int .u64 ((rd_T26 l1 x30_2).f0), .int .i64 ((rd_T26 l1 x30_2).f1)] from (k26_mkM _ _ _ (⟨(rd_T26 l1 x30_2).f0, (rd_T26 l1 x30_2).f1⟩ : S26) )) (Reps.none _ _))))
                                intro v480 w27 ho28 hb hg_ hnew_
                                clear hg_ hnew_
                                (first | rw [← Ny479.out] at ho28 | (simp only [Int.reduceToNat] at ho28; rw [← Ny479.out] at ho28))
                                have n0_ := Aside0.mk (Kd.R_elder' (by (with_reducible repeat (first | apply Kd.R_alloc | apply Kd.R_drewN | apply Kd.R_drew)); exact HO_6.out) (Kd.R_base ho28) hb)
                                have n1_ := Aside0.mk (Kd.R_lower (Kd.R_new' ho28 (Kd.R_lt (by (with_reducible repeat (first | apply Kd.R_alloc | apply Kd.R_drewN | apply Kd.R_drew)); exact HO_6.out))) (below_size (by repeat (first | (with_reducible first | exact HB.out | apply below_alloc | apply pw_below_drewN | apply below_drew1) | exact HB.out))))
                                have n2_ := Aside0.mk (below_step (by repeat (first | (with_reducible first | exact HB.out | apply below_alloc | apply pw_below_drewN | apply below_drew1) | exact HB.out)) hb)
                                clear HO_6
                                clear HB
                                have HO_6 := n0_
                                have HO481 := n1_
                                have HB := n2_
                                clear n0_ n1_ n2_
                                clear hb ho28
                                obtain ⟨Ao29, co29, eo29⟩ := Kd.R_slice HO481.out
                                (first | subst eo29 | (injection eo29 with f1_ f2_ f3_; have f4_ := f1_.symm; have f5_ := f3_.symm; clear f1_ f2_ f3_; subst f4_; subst f5_))
                                refine hK.out _ _ ⟨((HB.out.cell (World.block_lt_of_cell? w _ hw477_0)).trans hw477_0), ((HB.out.cell (World.block_lt_of_cell? w _ hw477_1)).trans hw477_1), ((HB.out.cell (World.block_lt_of_cell? w _ hw478_0)).trans hw478_0), ((HB.out.cell (World.block_lt_of_cell? w _ hw478_1)).trans hw478_1)⟩ (fun hHeld => ?_)
                                clear hK K
                                refine norm_ (a' := ?_) ?_ ?_
                                rotate_left
                                · show Act.put _ (some 42) _ = _
                                  simp only [Act.put, List.setIfInBounds_toArray, List.set_cons_zero, List.set_cons_succ, i64_w, i32_w]
                                  rfl
                                refine two_ (i := 9) (j := 13) (Ni := some 43) (Nj := some 8) #[true, true, true, true, true, true, true, true, true, true, false, false, false, false, false, false] #[true, true, true, true, true, true, true, true, true, false, false, false, false, true, false, false] rfl rfl rfl rfl (two_of HT_.out (by kernel_rfl)) (by decide) (by decide) (fun K hK => ?_) (fun K hK => ?_)
                                · skip
                                  refine goes_ Try.func16 (by kernel_rfl) rfl #[.slice Ao29 y479.length co29] (by rfl) rfl rfl (by (try simp only [List.map_toArray, List.map_cons, List.map_nil]); first | done | rfl | (simp only [List.length_drop, List.length_take]; rfl)) ?_
                                  with_reducible refine (know_Join.calls k2 _ _ y479 t482 t483 t484 _ ?side1 ?side2 A22.out).mono ?_
                                  (case side1 => repeat (first | exact (Kd.R_reads' HO481.out).2.2 | (with_reducible refine Kd.C_alloc ?_ _) | (with_reducible refine Kd.C_drewN ?_ _) | (with_reducible refine Kd.C_drew ?_)))
                                  (case side2 => exact (Kd.R_reads' HO481.out).2.1)
                                  rintro e w30 ⟨rfl, hb⟩
                                  refine ⟨_, rfl, ?_⟩
                                  have n0_ := Aside0.mk (Kd.R_below (by (with_reducible repeat (first | apply Kd.R_alloc | apply Kd.R_drewN | apply Kd.R_drew)); exact HO_6.out) hb)
                                  have n1_ := Aside0.mk (Kd.R_below (by (with_reducible repeat (first | apply Kd.R_alloc | apply Kd.R_drewN | apply Kd.R_drew)); exact HO481.out) hb)
                                  have n2_ := Aside0.mk (below_step (by repeat (first | (with_reducible first | exact HB.out | apply below_alloc | apply pw_below_drewN | apply below_drew1) | exact HB.out)) hb)
                                  clear HO_6
                                  clear HO481
                                  clear HB
                                  have HO_6 := n0_
                                  have HO481 := n1_
                                  have HB := n2_
                                  clear n0_ n1_ n2_
                                  (try clear hb)
                                  (try clear hb2)
                                  (try clear hk)
                                  (try clear hi)
                                  refine hK.out _ _ ⟨((HB.out.cell (World.block_lt_of_cell? w _ hw477_0)).trans hw477_0), ((HB.out.cell (World.block_lt_of_cell? w _ hw477_1)).trans hw477_1), ((HB.out.cell (World.block_lt_of_cell? w _ hw478_0)).trans hw478_0), ((HB.out.cell (World.block_lt_of_cell? w _ hw478_1)).trans hw478_1)⟩ (fun hHeld => ?_)
                                  clear hK K
                                  refine norm_ (a' := ?_) ?_ ?_
                                  rotate_left
                                  · show Act.put _ (some 43) _ = _
                                    simp only [Act.put, List.setIfInBounds_toArray, List.set_cons_zero, List.set_cons_succ, i64_w, i32_w]
                                    rfl
                                  refine pure_ (i := 10) (N := some 33) (v := ?_) (a' := ?_) #[true, true, true, true, true, true, true, true, true, true, true, false, false, false, false, false] rfl rfl (any_of HT_.out (by kernel_rfl)) (fun _ _ _ h => h) (Or.inl ⟨by rfl, ?_⟩) ?_ ?_
                                  rotate_left
                                  · intro w'
                                    go_simp
                                    with_reducible rfl
                                  rotate_left
                                  · simp only [Act.put, List.setIfInBounds_toArray, List.set_cons_zero, List.set_cons_succ, i64_w, i32_w]
                                    rfl
                                  refine pure_ (i := 11) (N := some 44) (v := ?_) (a' := ?_) #[true, true, true, true, true, true, true, true, true, true, true, true, false, false, false, false] rfl rfl (any_of HT_.out (by kernel_rfl)) (fun _ _ _ h => h) (Or.inl ⟨by rfl, ?_⟩) ?_ ?_
                                  rotate_left
                                  · intro w'
                                    go_simp
                                    with_reducible rfl
                                  rotate_left
                                  · simp only [Act.put, List.setIfInBounds_toArray, List.set_cons_zero, List.set_cons_succ, i64_w, i32_w]
                                    rfl
                                  refine pure_ (i := 12) (N := some 45) (v := ?_) (a' := ?_) #[true, true, true, true, true, true, true, true, true, true, true, true, true, false, false, false] rfl rfl (any_of HT_.out (by kernel_rfl)) (fun _ _ _ h => h) (Or.inl ⟨by rfl, ?_⟩) ?_ ?_
                                  rotate_left
                                  · intro w'
                                    go_simp
                                    with_reducible rfl
                                  rotate_left
                                  · simp only [Act.put, List.setIfInBounds_toArray, List.set_cons_zero, List.set_cons_succ, i64_w, i32_w]
                                    rfl
                                  refine one_ (i := 13) (N := some 8) #[true, true, true, true, true, true, true, true, true, true, true, true, true, true, false, false] rfl rfl (one_of HT_.out (by kernel_rfl)) (by decide) (fun K hK => ?_)
                                  refine box_step ?hg (N := 8) ?hd (cs := #[.int .u64 0, .int .i64 0]) (t := 26) ?hr ?_; (case hd => rfl); (case hg => rfl); (case hr => first | (go_simp; done) | (go_simp; rfl))
                                  intro gb485 hg w31 hbox hb
                                  have n0_ := Aside0.mk (Kd.R_below (Kd.R_elderB (by (with_reducible repeat (first | apply Kd.R_alloc | apply Kd.R_drewN | apply Kd.R_drew)); exact HO_6.out) gb485 (Nat.le_of_eq hg.symm)) hb)
                                  have n1_ := Aside0.mk (Kd.R_below (Kd.R_elderB (by (with_reducible repeat (first | apply Kd.R_alloc | apply Kd.R_drewN | apply Kd.R_drew)); exact HO481.out) gb485 (Nat.le_of_eq hg.symm)) hb)
                                  have n2_ := Aside0.mk (below_step (by repeat (first | (with_reducible first | exact HB.out | apply below_alloc | apply pw_below_drewN | apply below_drew1) | exact HB.out)) hb)
                                  have n3_ := Aside0.mk (hbox)
                                  have n4_ := Aside0.mk ((by rw [hg]; exact (below_size (by repeat (first | (with_reducible first | exact HB.out | apply below_alloc | apply pw_below_drewN | apply below_drew1) | exact HB.out))) : w.heap.size ≤ gb485))
                                  have n5_ := Aside0.mk ((by rw [hg]; exact (below_size (by repeat (first | (with_reducible first | exact HB.out | apply below_alloc | apply pw_below_drewN | apply below_drew1) | exact HB.out))) : w.heap.size ≤ gb485))
                                  clear HO_6
                                  clear HO481
                                  clear HB
                                  have HO_6 := n0_
                                  have HO481 := n1_
                                  have HB := n2_
                                  have BK485 := n3_
                                  have GW485 := n4_
                                  have GE485 := n5_
                                  clear n0_ n1_ n2_ n3_ n4_ n5_
                                  clear hb hbox hg
                                  refine hK.out _ _ ⟨((HB.out.cell (World.block_lt_of_cell? w _ hw477_0)).trans hw477_0), ((HB.out.cell (World.block_lt_of_cell? w _ hw477_1)).trans hw477_1), ((HB.out.cell (World.block_lt_of_cell? w _ hw478_0)).trans hw478_0), ((HB.out.cell (World.block_lt_of_cell? w _ hw478_1)).trans hw478_1)⟩ (fun hHeld => ?_)
                                  clear hK K
                                  refine norm_ (a' := ?_) ?_ ?_
                                  rotate_left
                                  · show Act.put _ (some 8) _ = _
                                    simp only [Act.put, List.setIfInBounds_toArray, List.set_cons_zero, List.set_cons_succ, i64_w, i32_w]
                                    rfl
                                  exact norm_ (by simp only [putAll, Act.put, List.setIfInBounds_toArray, List.set_cons_zero, List.set_cons_succ]) (hCont (.slice Ao29 y479.length co29, gb485) _ ⟨hHeld, (by (with_reducible repeat (first | apply Kd.R_alloc | apply Kd.R_drewN | apply Kd.R_drew)); exact Kd.R_mono HO481.out (fun _ hk => ⟨hk.1.2, hk.2⟩)), (by (with_reducible repeat (first | apply Kd.R_alloc | apply Kd.R_drewN | apply Kd.R_drew)); exact Kd.R_mono HO_6.out (fun _ hk => ⟨hk.1.2, hk.2⟩)), (by (with_reducible repeat (first | refine blk_drewN ?_ _ | refine blk_drew ?_ | refine blk_alloc ?_ _)); exact BK485.out), GW485.out, GE485.out, (by repeat (first | (with_reducible first | exact HB.out | apply below_alloc | apply pw_below_drewN | apply below_drew1 | refine below_set ?_ GE485.out) | exact HB.out))⟩)
                                · skip
                                  refine box_step ?hg (N := 8) ?hd (cs := #[.int .u64 0, .int .i64 0]) (t := 26) ?hr ?_; (case hd => rfl); (case hg => rfl); (case hr => first | (go_simp; done) | (go_simp; rfl))
                                  intro gb485 hg w29 hbox hb
                                  have n0_ := Aside0.mk (Kd.R_below (Kd.R_elderB (by (with_reducible repeat (first | apply Kd.R_alloc | apply Kd.R_drewN | apply Kd.R_drew)); exact HO_6.out) gb485 (Nat.le_of_eq hg.symm)) hb)
                                  have n1_ := Aside0.mk (Kd.R_below (Kd.R_elderB (by (with_reducible repeat (first | apply Kd.R_alloc | apply Kd.R_drewN | apply Kd.R_drew)); exact HO481.out) gb485 (Nat.le_of_eq hg.symm)) hb)
                                  have n2_ := Aside0.mk (below_step (by repeat (first | (with_reducible first | exact HB.out | apply below_alloc | apply pw_below_drewN | apply below_drew1) | exact HB.out)) hb)
                                  have n3_ := Aside0.mk (hbox)
                                  have n4_ := Aside0.mk ((by rw [hg]; exact (below_size (by repeat (first | (with_reducible first | exact HB.out | apply below_alloc | apply pw_below_drewN | apply below_drew1) | exact HB.out))) : w.heap.size ≤ gb485))
                                  have n5_ := Aside0.mk ((by rw [hg]; exact (below_size (by repeat (first | (with_reducible first | exact HB.out | apply below_alloc | apply pw_below_drewN | apply below_drew1) | exact HB.out))) : w.heap.size ≤ gb485))
                                  clear HO_6
                                  clear HO481
                                  clear HB
                                  have HO_6 := n0_
                                  have HO481 := n1_
                                  have HB := n2_
                                  have BK485 := n3_
                                  have GW485 := n4_
                                  have GE485 := n5_
                                  clear n0_ n1_ n2_ n3_ n4_ n5_
                                  clear hb hbox hg
                                  obtain ⟨Ao30, co30, eo30⟩ := Kd.R_slice HO481.out
                                  (first | subst eo30 | (injection eo30 with f1_ f2_ f3_; have f4_ := f1_.symm; have f5_ := f3_.symm; clear f1_ f2_ f3_; subst f4_; subst f5_))
                                  refine hK.out _ _ ⟨((HB.out.cell (World.block_lt_of_cell? w _ hw477_0)).trans hw477_0), ((HB.out.cell (World.block_lt_of_cell? w _ hw477_1)).trans hw477_1), ((HB.out.cell (World.block_lt_of_cell? w _ hw478_0)).trans hw478_0), ((HB.out.cell (World.block_lt_of_cell? w _ hw478_1)).trans hw478_1)⟩ (fun hHeld => ?_)
                                  clear hK K
                                  refine norm_ (a' := ?_) ?_ ?_
                                  rotate_left
                                  · show Act.put _ (some 8) _ = _
                                    simp only [Act.put, List.setIfInBounds_toArray, List.set_cons_zero, List.set_cons_succ, i64_w, i32_w]
                                    rfl
                                  refine one_ (i := 9) (N := some 43) #[true, true, true, true, true, true, true, true, true, true, false, false, false, true, false, false] rfl rfl (one_of HT_.out (by kernel_rfl)) (by decide) (fun K hK => ?_)
                                  refine goes_ Try.func16 (by kernel_rfl) rfl #[.slice Ao30 y479.length co30] (by rfl) rfl rfl (by (try simp only [List.map_toArray, List.map_cons, List.map_nil]); first | done | rfl | (simp only [List.length_drop, List.length_take]; rfl)) ?_
                                  with_reducible refine (know_Join.calls k2 _ _ y479 t482 t483 t484 _ ?side1 ?side2 A22.out).mono ?_
                                  (case side1 => repeat (first | exact (Kd.R_reads' HO481.out).2.2 | (with_reducible refine Kd.C_alloc ?_ _) | (with_reducible refine Kd.C_drewN ?_ _) | (with_reducible refine Kd.C_drew ?_)))
                                  (case side2 => exact (Kd.R_reads' HO481.out).2.1)
                                  rintro e w31 ⟨rfl, hb⟩
                                  refine ⟨_, rfl, ?_⟩
                                  have n0_ := Aside0.mk (Kd.R_below (by (with_reducible repeat (first | apply Kd.R_alloc | apply Kd.R_drewN | apply Kd.R_drew)); exact HO_6.out) hb)
                                  have n1_ := Aside0.mk (Kd.R_below (by (with_reducible repeat (first | apply Kd.R_alloc | apply Kd.R_drewN | apply Kd.R_drew)); exact HO481.out) hb)
                                  have n2_ := Aside0.mk (blk_below (g := gb485) (o := .cells #[.int .u64 0, .int .i64 0] 26 (0, 0)) (by (with_reducible repeat (first | refine blk_drewN ?_ _ | refine blk_drew ?_ | refine blk_alloc ?_ _)); exact BK485.out) hb)
                                  have n3_ := Aside0.mk (below_step (by repeat (first | (with_reducible first | exact HB.out | apply below_alloc | apply pw_below_drewN | apply below_drew1 | refine below_set ?_ GE485.out) | exact HB.out)) hb)
                                  clear HO_6
                                  clear HO481
                                  clear BK485
                                  clear HB
                                  have HO_6 := n0_
                                  have HO481 := n1_
                                  have BK485 := n2_
                                  have HB := n3_
                                  clear n0_ n1_ n2_ n3_
                                  (try clear hb)
                                  (try clear hb2)
                                  (try clear hk)
                                  (try clear hi)
                                  refine hK.out _ _ ⟨((HB.out.cell (World.block_lt_of_cell? w _ hw477_0)).trans hw477_0), ((HB.out.cell (World.block_lt_of_cell? w _ hw477_1)).trans hw477_1), ((HB.out.cell (World.block_lt_of_cell? w _ hw478_0)).trans hw478_0), ((HB.out.cell (World.block_lt_of_cell? w _ hw478_1)).trans hw478_1)⟩ (fun hHeld => ?_)
                                  clear hK K
                                  refine norm_ (a' := ?_) ?_ ?_
                                  rotate_left
                                  · show Act.put _ (some 43) _ = _
                                    simp only [Act.put, List.setIfInBounds_toArray, List.set_cons_zero, List.set_cons_succ, i64_w, i32_w]
                                    rfl
                                  refine pure_ (i := 10) (N := some 33) (v := ?_) (a' := ?_) #[true, true, true, true, true, true, true, true, true, true, true, false, false, true, false, false] rfl rfl (any_of HT_.out (by kernel_rfl)) (fun _ _ _ h => h) (Or.inl ⟨by rfl, ?_⟩) ?_ ?_
                                  rotate_left
                                  · intro w'
                                    go_simp
                                    with_reducible rfl
                                  rotate_left
                                  · simp only [Act.put, List.setIfInBounds_toArray, List.set_cons_zero, List.set_cons_succ, i64_w, i32_w]
                                    rfl
                                  refine pure_ (i := 11) (N := some 44) (v := ?_) (a' := ?_) #[true, true, true, true, true, true, true, true, true, true, true, true, false, true, false, false] rfl rfl (any_of HT_.out (by kernel_rfl)) (fun _ _ _ h => h) (Or.inl ⟨by rfl, ?_⟩) ?_ ?_
                                  rotate_left
                                  · intro w'
                                    go_simp
                                    with_reducible rfl
                                  rotate_left
                                  · simp only [Act.put, List.setIfInBounds_toArray, List.set_cons_zero, List.set_cons_succ, i64_w, i32_w]
                                    rfl
                                  refine pure_ (i := 12) (N := some 45) (v := ?_) (a' := ?_) #[true, true, true, true, true, true, true, true, true, true, true, true, true, true, false, false] rfl rfl (any_of HT_.out (by kernel_rfl)) (fun _ _ _ h => h) (Or.inl ⟨by rfl, ?_⟩) ?_ ?_
                                  rotate_left
                                  · intro w'
                                    go_simp
                                    with_reducible rfl
                                  rotate_left
                                  · simp only [Act.put, List.setIfInBounds_toArray, List.set_cons_zero, List.set_cons_succ, i64_w, i32_w]
                                    rfl
                                  exact norm_ (by simp only [putAll, Act.put, List.setIfInBounds_toArray, List.set_cons_zero, List.set_cons_succ]) (hCont (.slice Ao30 y479.length co30, gb485) _ ⟨hHeld, (by (with_reducible repeat (first | apply Kd.R_alloc | apply Kd.R_drewN | apply Kd.R_drew)); exact Kd.R_mono HO481.out (fun _ hk => ⟨hk.1.2, hk.2⟩)), (by (with_reducible repeat (first | apply Kd.R_alloc | apply Kd.R_drewN | apply Kd.R_drew)); exact Kd.R_mono HO_6.out (fun _ hk => ⟨hk.1.2, hk.2⟩)), (by (with_reducible repeat (first | refine blk_drewN ?_ _ | refine blk_drew ?_ | refine blk_alloc ?_ _)); exact BK485.out), GW485.out, GE485.out, (by repeat (first | (with_reducible first | exact HB.out | apply below_alloc | apply pw_below_drewN | apply below_drew1 | refine below_set ?_ GE485.out) | exact HB.out))⟩)
                              · skip
                                refine box_step ?hg (N := 8) ?hd (cs := #[.int .u64 0, .int .i64 0]) (t := 26) ?hr ?_; (case hd => rfl); (case hg => rfl); (case hr => first | (go_simp; done) | (go_simp; rfl))
                                intro gb485 hg w27 hbox hb
                                have n0_ := Aside0.mk (Kd.R_below (Kd.R_elderB (by (with_reducible repeat (first | apply Kd.R_alloc | apply Kd.R_drewN | apply Kd.R_drew)); exact HO_6.out) gb485 (Nat.le_of_eq hg.symm)) hb)
                                have n1_ := Aside0.mk (below_step (by repeat (first | (with_reducible first | exact HB.out | apply below_alloc | apply pw_below_drewN | apply below_drew1) | exact HB.out)) hb)
                                have n2_ := Aside0.mk (hbox)
                                have n3_ := Aside0.mk ((by rw [hg]; exact (below_size (by repeat (first | (with_reducible first | exact HB.out | apply below_alloc | apply pw_below_drewN | apply below_drew1) | exact HB.out))) : w.heap.size ≤ gb485))
                                have n4_ := Aside0.mk ((by rw [hg]; exact (below_size (by repeat (first | (with_reducible first | exact HB.out | apply below_alloc | apply pw_below_drewN | apply below_drew1) | exact HB.out))) : w.heap.size ≤ gb485))
                                clear HO_6
                                clear HB
                                have HO_6 := n0_
                                have HB := n1_
                                have BK485 := n2_
                                have GW485 := n3_
                                have GE485 := n4_
                                clear n0_ n1_ n2_ n3_ n4_
                                clear hb hbox hg
                                refine hK.out _ _ ⟨((HB.out.cell (World.block_lt_of_cell? w _ hw477_0)).trans hw477_0), ((HB.out.cell (World.block_lt_of_cell? w _ hw477_1)).trans hw477_1), ((HB.out.cell (World.block_lt_of_cell? w _ hw478_0)).trans hw478_0), ((HB.out.cell (World.block_lt_of_cell? w _ hw478_1)).trans hw478_1)⟩ (fun hHeld => ?_)
                                clear hK K
                                refine norm_ (a' := ?_) ?_ ?_
                                rotate_left
                                · show Act.put _ (some 8) _ = _
                                  simp only [Act.put, List.setIfInBounds_toArray, List.set_cons_zero, List.set_cons_succ, i64_w, i32_w]
                                  rfl
                                refine one_ (i := 8) (N := some 42) #[true, true, true, true, true, true, true, true, true, false, false, false, false, true, false, false] rfl rfl (one_of HT_.out (by kernel_rfl)) (by decide) (fun K hK => ?_)
                                refine Kd.R_lit_step k26 _ 26 ?hg (N := 42) ?hd (xs := ([(⟨(rd_T26 l0 x30_2).f0, (rd_T26 l0 x30_2).f1⟩ : S26), (⟨(rd_T26 l1 x30_2).f0, (rd_T26 l1 x30_2).f1⟩ : S26)] : List (S26))) (inner := [.int .u64 ((rd_T26 l0 x30_2).f0), .int .i64 ((rd_T26 l0 x30_2).f1), .int .u64 ((rd_T26 l1 x30_2).f0), .int .i64 ((rd_T26 l1 x30_2).f1)]) (ok := fun _ => True) (okp := fun _ => True) ?hr ?hp (fun _ hk => hk) trivial (Below.refl _ _) (Nat.le_refl _) (by simp) ?_; (case hd => rfl); (case hg => rfl); (case hr => first | (go_simp; done) | (go_simp; rfl)); (case hp => exact (Reps.c2 (show Kd.M k26 _ _ _ (⟨(rd_T26 l0 x30_2).f0, (rd_T26 l0 x30_2).f1⟩ : S26) [.int .u64 ((rd_T26 l0 x30_2).f0), .int .i64 ((rd_T26 l0 x30_2).f1)] from (k26_mkM _ _ _ (⟨(rd_T26 l0 x30_2).f0, (rd_T26 l0 x30_2).f1⟩ : S26) )) (Reps.c2 (show Kd.M k26 _ _ _ (⟨(rd_T26 l1 x30_2).f0, (rd_T26 l1 x30_2).f1⟩ : S26) [.int .u64 ((rd_T26 l1 x30_2).f0), .int .i64 ((rd_T26 l1 x30_2).f1)] from (k26_mkM _ _ _ (⟨(rd_T26 l1 x30_2).f0, (rd_T26 l1 x30_2).f1⟩ : S26) )) (Reps.none _ _))))
                                intro v480 w28 ho29 hb hg_ hnew_
                                clear hg_ hnew_
                                (first | rw [← Ny479.out] at ho29 | (simp only [Int.reduceToNat] at ho29; rw [← Ny479.out] at ho29))
                                have n0_ := Aside0.mk (Kd.R_elder' (by (with_reducible repeat (first | apply Kd.R_alloc | apply Kd.R_drewN | apply Kd.R_drew)); exact HO_6.out) (Kd.R_base ho29) hb)
                                have n1_ := Aside0.mk (Kd.R_lower (Kd.R_newB (Kd.R_new' ho29 (Kd.R_lt (by (with_reducible repeat (first | apply Kd.R_alloc | apply Kd.R_drewN | apply Kd.R_drew)); exact HO_6.out))) (g := gb485) (o := .cells #[.int .u64 0, .int .i64 0] 26 (0, 0)) (by (with_reducible repeat (first | refine blk_drewN ?_ _ | refine blk_drew ?_ | refine blk_alloc ?_ _)); exact BK485.out)) (below_size (by repeat (first | (with_reducible first | exact HB.out | apply below_alloc | apply pw_below_drewN | apply below_drew1 | refine below_set ?_ GE485.out) | exact HB.out))))
                                have n2_ := Aside0.mk (blk_below (g := gb485) (o := .cells #[.int .u64 0, .int .i64 0] 26 (0, 0)) (by (with_reducible repeat (first | refine blk_drewN ?_ _ | refine blk_drew ?_ | refine blk_alloc ?_ _)); exact BK485.out) hb)
                                have n3_ := Aside0.mk (below_step (by repeat (first | (with_reducible first | exact HB.out | apply below_alloc | apply pw_below_drewN | apply below_drew1 | refine below_set ?_ GE485.out) | exact HB.out)) hb)
                                clear HO_6
                                clear BK485
                                clear HB
                                have HO_6 := n0_
                                have HO481 := n1_
                                have BK485 := n2_
                                have HB := n3_
                                clear n0_ n1_ n2_ n3_
                                clear hb ho29
                                obtain ⟨Ao30, co30, eo30⟩ := Kd.R_slice HO481.out
                                (first | subst eo30 | (injection eo30 with f1_ f2_ f3_; have f4_ := f1_.symm; have f5_ := f3_.symm; clear f1_ f2_ f3_; subst f4_; subst f5_))
                                refine hK.out _ _ ⟨((HB.out.cell (World.block_lt_of_cell? w _ hw477_0)).trans hw477_0), ((HB.out.cell (World.block_lt_of_cell? w _ hw477_1)).trans hw477_1), ((HB.out.cell (World.block_lt_of_cell? w _ hw478_0)).trans hw478_0), ((HB.out.cell (World.block_lt_of_cell? w _ hw478_1)).trans hw478_1)⟩ (fun hHeld => ?_)
                                clear hK K
                                refine norm_ (a' := ?_) ?_ ?_
                                rotate_left
                                · show Act.put _ (some 42) _ = _
                                  simp only [Act.put, List.setIfInBounds_toArray, List.set_cons_zero, List.set_cons_succ, i64_w, i32_w]
                                  rfl
                                refine one_ (i := 9) (N := some 43) #[true, true, true, true, true, true, true, true, true, true, false, false, false, true, false, false] rfl rfl (one_of HT_.out (by kernel_rfl)) (by decide) (fun K hK => ?_)
                                refine goes_ Try.func16 (by kernel_rfl) rfl #[.slice Ao30 y479.length co30] (by rfl) rfl rfl (by (try simp only [List.map_toArray, List.map_cons, List.map_nil]); first | done | rfl | (simp only [List.length_drop, List.length_take]; rfl)) ?_
                                with_reducible refine (know_Join.calls k2 _ _ y479 t482 t483 t484 _ ?side1 ?side2 A22.out).mono ?_
                                (case side1 => repeat (first | exact (Kd.R_reads' HO481.out).2.2 | (with_reducible refine Kd.C_alloc ?_ _) | (with_reducible refine Kd.C_drewN ?_ _) | (with_reducible refine Kd.C_drew ?_)))
                                (case side2 => exact (Kd.R_reads' HO481.out).2.1)
                                rintro e w31 ⟨rfl, hb⟩
                                refine ⟨_, rfl, ?_⟩
                                have n0_ := Aside0.mk (Kd.R_below (by (with_reducible repeat (first | apply Kd.R_alloc | apply Kd.R_drewN | apply Kd.R_drew)); exact HO_6.out) hb)
                                have n1_ := Aside0.mk (Kd.R_below (by (with_reducible repeat (first | apply Kd.R_alloc | apply Kd.R_drewN | apply Kd.R_drew)); exact HO481.out) hb)
                                have n2_ := Aside0.mk (blk_below (g := gb485) (o := .cells #[.int .u64 0, .int .i64 0] 26 (0, 0)) (by (with_reducible repeat (first | refine blk_drewN ?_ _ | refine blk_drew ?_ | refine blk_alloc ?_ _)); exact BK485.out) hb)
                                have n3_ := Aside0.mk (below_step (by repeat (first | (with_reducible first | exact HB.out | apply below_alloc | apply pw_below_drewN | apply below_drew1 | refine below_set ?_ GE485.out) | exact HB.out)) hb)
                                clear HO_6
                                clear HO481
                                clear BK485
                                clear HB
                                have HO_6 := n0_
                                have HO481 := n1_
                                have BK485 := n2_
                                have HB := n3_
                                clear n0_ n1_ n2_ n3_
                                (try clear hb)
                                (try clear hb2)
                                (try clear hk)
                                (try clear hi)
                                refine hK.out _ _ ⟨((HB.out.cell (World.block_lt_of_cell? w _ hw477_0)).trans hw477_0), ((HB.out.cell (World.block_lt_of_cell? w _ hw477_1)).trans hw477_1), ((HB.out.cell (World.block_lt_of_cell? w _ hw478_0)).trans hw478_0), ((HB.out.cell (World.block_lt_of_cell? w _ hw478_1)).trans hw478_1)⟩ (fun hHeld => ?_)
                                clear hK K
                                refine norm_ (a' := ?_) ?_ ?_
                                rotate_left
                                · show Act.put _ (some 43) _ = _
                                  simp only [Act.put, List.setIfInBounds_toArray, List.set_cons_zero, List.set_cons_succ, i64_w, i32_w]
                                  rfl
                                refine pure_ (i := 10) (N := some 33) (v := ?_) (a' := ?_) #[true, true, true, true, true, true, true, true, true, true, true, false, false, true, false, false] rfl rfl (any_of HT_.out (by kernel_rfl)) (fun _ _ _ h => h) (Or.inl ⟨by rfl, ?_⟩) ?_ ?_
                                rotate_left
                                · intro w'
                                  go_simp
                                  with_reducible rfl
                                rotate_left
                                · simp only [Act.put, List.setIfInBounds_toArray, List.set_cons_zero, List.set_cons_succ, i64_w, i32_w]
                                  rfl
                                refine pure_ (i := 11) (N := some 44) (v := ?_) (a' := ?_) #[true, true, true, true, true, true, true, true, true, true, true, true, false, true, false, false] rfl rfl (any_of HT_.out (by kernel_rfl)) (fun _ _ _ h => h) (Or.inl ⟨by rfl, ?_⟩) ?_ ?_
                                rotate_left
                                · intro w'
                                  go_simp
                                  with_reducible rfl
                                rotate_left
                                · simp only [Act.put, List.setIfInBounds_toArray, List.set_cons_zero, List.set_cons_succ, i64_w, i32_w]
                                  rfl
                                refine pure_ (i := 12) (N := some 45) (v := ?_) (a' := ?_) #[true, true, true, true, true, true, true, true, true, true, true, true, true, true, false, false] rfl rfl (any_of HT_.out (by kernel_rfl)) (fun _ _ _ h => h) (Or.inl ⟨by rfl, ?_⟩) ?_ ?_
                                rotate_left
                                · intro w'
                                  go_simp
                                  with_reducible rfl
                                rotate_left
                                · simp only [Act.put, List.setIfInBounds_toArray, List.set_cons_zero, List.set_cons_succ, i64_w, i32_w]
                                  rfl
                                exact norm_ (by simp only [putAll, Act.put, List.setIfInBounds_toArray, List.set_cons_zero, List.set_cons_succ]) (hCont (.slice Ao30 y479.length co30, gb485) _ ⟨hHeld, (by (with_reducible repeat (first | apply Kd.R_alloc | apply Kd.R_drewN | apply Kd.R_drew)); exact Kd.R_mono HO481.out (fun _ hk => ⟨hk.1.2, hk.2⟩)), (by (with_reducible repeat (first | apply Kd.R_alloc | apply Kd.R_drewN | apply Kd.R_drew)); exact Kd.R_mono HO_6.out (fun _ hk => ⟨hk.2, hk.1.2⟩)), (by (with_reducible repeat (first | refine blk_drewN ?_ _ | refine blk_drew ?_ | refine blk_alloc ?_ _)); exact BK485.out), GW485.out, GE485.out, (by repeat (first | (with_reducible first | exact HB.out | apply below_alloc | apply pw_below_drewN | apply below_drew1 | refine below_set ?_ GE485.out) | exact HB.out))⟩)
                            rintro ⟨v480, gb485⟩ w32 ⟨hS_, h0_, h1_, h2_, h3_, h4_, h5_⟩
                            have n0_ : Aside0 (Kd.R k26 26 w32 w.heap.size (fun k_ => some k_ ≠ (v475 : Value).ownBlock ∧ k_ ≠ gb485) v480 y479) := ⟨h0_⟩
                            have n1_ : Aside0 (Kd.R k26 26 w32 w.heap.size (fun k_ => some k_ ≠ (v480 : Value).ownBlock ∧ k_ ≠ gb485) v475 x6_2) := ⟨h1_⟩
                            have n2_ : Aside0 (w32.heap[gb485]? = some (.cells #[.int .u64 0, .int .i64 0] 26 (0, 0))) := ⟨h2_⟩
                            have n3_ : Aside0 (w.heap.size ≤ gb485) := ⟨h3_⟩
                            have n4_ : Aside0 (w.heap.size ≤ gb485) := ⟨h4_⟩
                            have n5_ : Aside0 (Below w.heap.size w w32) := ⟨h5_⟩
                            clear HO_6
                            clear HB
                            clear h0_ h1_ h2_ h3_ h4_ h5_
                            have HO481 := n0_
                            have HO_6 := n1_
                            have BK485 := n2_
                            have GW485 := n3_
                            have GE485 := n4_
                            have HB := n5_
                            clear n0_ n1_ n2_ n3_ n4_ n5_
                            have hHeld : w32.cell? (ad477.add ((x30_2).toNat * 2)) = some (.int .u64 ((rd_T26 l0 x30_2).f0)) ∧ w32.cell? ⟨(ad477.add ((x30_2).toNat * 2)).block, (ad477.add ((x30_2).toNat * 2)).off + 1, none⟩ = some (.int .i64 ((rd_T26 l0 x30_2).f1)) ∧ w32.cell? (ad478.add ((x30_2).toNat * 2)) = some (.int .u64 ((rd_T26 l1 x30_2).f0)) ∧ w32.cell? ⟨(ad478.add ((x30_2).toNat * 2)).block, (ad478.add ((x30_2).toNat * 2)).off + 1, none⟩ = some (.int .i64 ((rd_T26 l1 x30_2).f1)) := hS_
                            refine norm_ (a' := ?_) ?_ ?_
                            rotate_left
                            · simp only [putAll, Act.put, List.setIfInBounds_toArray, List.set_cons_zero, List.set_cons_succ]
                              rfl
                            refine one_ (i := 14) (N := none) #[true, true, true, true, true, true, true, true, true, true, true, true, true, true, true, false] rfl rfl (one_of HT_.out (by kernel_rfl)) (by decide) (fun K hK => ?_)
                            have hs33 : w32.cell? ⟨gb485, 0, none⟩ = some (.int .u64 0) := (blk_cell BK485.out 0).trans rfl
                            have hfs33 := blk_frozen BK485.out 0
                            have hs34 : w32.cell? ⟨gb485, 1, none⟩ = some (.int .i64 0) := (blk_cell BK485.out 1).trans rfl
                            have hfs34 := blk_frozen BK485.out 1
                            refine skip_ (w1 := ?_) (by rfl) rfl ?_ ?_
                            rotate_left
                            · go_simp
                              rfl
                            refine hK.out _ _ ⟨((cell_far (p := ⟨gb485, _, none⟩) (by first | exact Nat.ne_of_lt (Nat.lt_of_lt_of_le (by have := World.block_lt_of_cell? _ _ hw477_0; first | rwa [add_block] at this | exact this) GW485.out) | (rw [add_block]; exact Nat.ne_of_lt (Nat.lt_of_lt_of_le (by have := World.block_lt_of_cell? _ _ hw477_0; first | rwa [add_block] at this | exact this) GW485.out)) | (show (Addr.add _ _).block ≠ _; rw [add_block]; exact Nat.ne_of_lt (Nat.lt_of_lt_of_le (by have := World.block_lt_of_cell? _ _ hw477_0; first | rwa [add_block] at this | exact this) GW485.out)) | (dsimp only; exact Nat.ne_of_lt (Nat.lt_of_lt_of_le (by have := World.block_lt_of_cell? _ _ hw477_0; first | rwa [add_block] at this | exact this) GW485.out))) _).trans (((cell_far (p := ⟨gb485, _, none⟩) (by first | exact Nat.ne_of_lt (Nat.lt_of_lt_of_le (by have := World.block_lt_of_cell? _ _ hw477_0; first | rwa [add_block] at this | exact this) GW485.out) | (rw [add_block]; exact Nat.ne_of_lt (Nat.lt_of_lt_of_le (by have := World.block_lt_of_cell? _ _ hw477_0; first | rwa [add_block] at this | exact this) GW485.out)) | (show (Addr.add _ _).block ≠ _; rw [add_block]; exact Nat.ne_of_lt (Nat.lt_of_lt_of_le (by have := World.block_lt_of_cell? _ _ hw477_0; first | rwa [add_block] at this | exact this) GW485.out)) | (dsimp only; exact Nat.ne_of_lt (Nat.lt_of_lt_of_le (by have := World.block_lt_of_cell? _ _ hw477_0; first | rwa [add_block] at this | exact this) GW485.out))) _).trans (hHeld.1)))), ((cell_far (p := ⟨gb485, _, none⟩) (by first | exact Nat.ne_of_lt (Nat.lt_of_lt_of_le (by have := World.block_lt_of_cell? _ _ hw477_1; first | rwa [add_block] at this | exact this) GW485.out) | (rw [add_block]; exact Nat.ne_of_lt (Nat.lt_of_lt_of_le (by have := World.block_lt_of_cell? _ _ hw477_1; first | rwa [add_block] at this | exact this) GW485.out)) | (show (Addr.add _ _).block ≠ _; rw [add_block]; exact Nat.ne_of_lt (Nat.lt_of_lt_of_le (by have := World.block_lt_of_cell? _ _ hw477_1; first | rwa [add_block] at this | exact this) GW485.out)) | (dsimp only; exact Nat.ne_of_lt (Nat.lt_of_lt_of_le (by have := World.block_lt_of_cell? _ _ hw477_1; first | rwa [add_block] at this | exact this) GW485.out))) _).trans (((cell_far (p := ⟨gb485, _, none⟩) (by first | exact Nat.ne_of_lt (Nat.lt_of_lt_of_le (by have := World.block_lt_of_cell? _ _ hw477_1; first | rwa [add_block] at this | exact this) GW485.out) | (rw [add_block]; exact Nat.ne_of_lt (Nat.lt_of_lt_of_le (by have := World.block_lt_of_cell? _ _ hw477_1; first | rwa [add_block] at this | exact this) GW485.out)) | (show (Addr.add _ _).block ≠ _; rw [add_block]; exact Nat.ne_of_lt (Nat.lt_of_lt_of_le (by have := World.block_lt_of_cell? _ _ hw477_1; first | rwa [add_block] at this | exact this) GW485.out)) | (dsimp only; exact Nat.ne_of_lt (Nat.lt_of_lt_of_le (by have := World.block_lt_of_cell? _ _ hw477_1; first | rwa [add_block] at this | exact this) GW485.out))) _).trans (hHeld.2.1)))), ((cell_far (p := ⟨gb485, _, none⟩) (by first | exact Nat.ne_of_lt (Nat.lt_of_lt_of_le (by have := World.block_lt_of_cell? _ _ hw478_0; first | rwa [add_block] at this | exact this) GW485.out) | (rw [add_block]; exact Nat.ne_of_lt (Nat.lt_of_lt_of_le (by have := World.block_lt_of_cell? _ _ hw478_0; first | rwa [add_block] at this | exact this) GW485.out)) | (show (Addr.add _ _).block ≠ _; rw [add_block]; exact Nat.ne_of_lt (Nat.lt_of_lt_of_le (by have := World.block_lt_of_cell? _ _ hw478_0; first | rwa [add_block] at this | exact this) GW485.out)) | (dsimp only; exact Nat.ne_of_lt (Nat.lt_of_lt_of_le (by have := World.block_lt_of_cell? _ _ hw478_0; first | rwa [add_block] at this | exact this) GW485.out))) _).trans (((cell_far (p := ⟨gb485, _, none⟩) (by first | exact Nat.ne_of_lt (Nat.lt_of_lt_of_le (by have := World.block_lt_of_cell? _ _ hw478_0; first | rwa [add_block] at this | exact this) GW485.out) | (rw [add_block]; exact Nat.ne_of_lt (Nat.lt_of_lt_of_le (by have := World.block_lt_of_cell? _ _ hw478_0; first | rwa [add_block] at this | exact this) GW485.out)) | (show (Addr.add _ _).block ≠ _; rw [add_block]; exact Nat.ne_of_lt (Nat.lt_of_lt_of_le (by have := World.block_lt_of_cell? _ _ hw478_0; first | rwa [add_block] at this | exact this) GW485.out)) | (dsimp only; exact Nat.ne_of_lt (Nat.lt_of_lt_of_le (by have := World.block_lt_of_cell? _ _ hw478_0; first | rwa [add_block] at this | exact this) GW485.out))) _).trans (hHeld.2.2.1)))), ((cell_far (p := ⟨gb485, _, none⟩) (by first | exact Nat.ne_of_lt (Nat.lt_of_lt_of_le (by have := World.block_lt_of_cell? _ _ hw478_1; first | rwa [add_block] at this | exact this) GW485.out) | (rw [add_block]; exact Nat.ne_of_lt (Nat.lt_of_lt_of_le (by have := World.block_lt_of_cell? _ _ hw478_1; first | rwa [add_block] at this | exact this) GW485.out)) | (show (Addr.add _ _).block ≠ _; rw [add_block]; exact Nat.ne_of_lt (Nat.lt_of_lt_of_le (by have := World.block_lt_of_cell? _ _ hw478_1; first | rwa [add_block] at this | exact this) GW485.out)) | (dsimp only; exact Nat.ne_of_lt (Nat.lt_of_lt_of_le (by have := World.block_lt_of_cell? _ _ hw478_1; first | rwa [add_block] at this | exact this) GW485.out))) _).trans (((cell_far (p := ⟨gb485, _, none⟩) (by first | exact Nat.ne_of_lt (Nat.lt_of_lt_of_le (by have := World.block_lt_of_cell? _ _ hw478_1; first | rwa [add_block] at this | exact this) GW485.out) | (rw [add_block]; exact Nat.ne_of_lt (Nat.lt_of_lt_of_le (by have := World.block_lt_of_cell? _ _ hw478_1; first | rwa [add_block] at this | exact this) GW485.out)) | (show (Addr.add _ _).block ≠ _; rw [add_block]; exact Nat.ne_of_lt (Nat.lt_of_lt_of_le (by have := World.block_lt_of_cell? _ _ hw478_1; first | rwa [add_block] at this | exact this) GW485.out)) | (dsimp only; exact Nat.ne_of_lt (Nat.lt_of_lt_of_le (by have := World.block_lt_of_cell? _ _ hw478_1; first | rwa [add_block] at this | exact this) GW485.out))) _).trans (hHeld.2.2.2))))⟩ (fun hHeld => ?_)
                            clear hK K
                            refine pure_ (i := 15) (N := some 9) (v := ?_) (a' := ?_) #[true, true, true, true, true, true, true, true, true, true, true, true, true, true, true, true] rfl rfl (any_of HT_.out (by kernel_rfl)) (fun _ _ _ h => h) (Or.inl ⟨by rfl, ?_⟩) ?_ ?_
                            rotate_left
                            · intro w'
                              go_simp
                              with_reducible rfl
                            rotate_left
                            · simp only [Act.put, List.setIfInBounds_toArray, List.set_cons_zero, List.set_cons_succ, i64_w, i32_w]
                              rfl
                            refine done_ (done_of HT_.out (by kernel_rfl)) ?_
                            have n0_ : Aside0 (Kd.R k26 26 ((w32.setCell ⟨gb485, 0, none⟩ (.int .u64 t482)).setCell ⟨gb485, 1, none⟩ (.int .i64 t483)) w.heap.size (fun k_ => some k_ ≠ (v480 : Value).ownBlock ∧ k_ ≠ gb485) v475 x6_2) := ⟨by (with_reducible repeat (first | apply Kd.R_alloc | apply Kd.R_drewN | apply Kd.R_drew)); exact Kd.R_mono (Kd.R_far (p := ⟨gb485, 1, none⟩) (Kd.R_far (p := ⟨gb485, 0, none⟩) (Kd.R_mono HO_6.out (fun k_ hk => (⟨hk, hk.2⟩ : _ ∧ k_ ≠ gb485))) (fun _ hk => hk.2) (.int .u64 t482)) (fun _ hk => hk.2) (.int .i64 t483)) (fun _ hk => ⟨hk.1.1, hk.1.2⟩)⟩
                            have n1_ : Aside0 (Kd.R k26 26 ((w32.setCell ⟨gb485, 0, none⟩ (.int .u64 t482)).setCell ⟨gb485, 1, none⟩ (.int .i64 t483)) w.heap.size (fun k_ => some k_ ≠ (v475 : Value).ownBlock ∧ k_ ≠ gb485) v480 y479) := ⟨by (with_reducible repeat (first | apply Kd.R_alloc | apply Kd.R_drewN | apply Kd.R_drew)); exact Kd.R_mono (Kd.R_far (p := ⟨gb485, 1, none⟩) (Kd.R_far (p := ⟨gb485, 0, none⟩) (Kd.R_mono HO481.out (fun k_ hk => (⟨hk, hk.2⟩ : _ ∧ k_ ≠ gb485))) (fun _ hk => hk.2) (.int .u64 t482)) (fun _ hk => hk.2) (.int .i64 t483)) (fun _ hk => ⟨hk.1.1, hk.1.2⟩)⟩
                            have n2_ : Aside0 (((w32.setCell ⟨gb485, 0, none⟩ (.int .u64 t482)).setCell ⟨gb485, 1, none⟩ (.int .i64 t483)).heap[gb485]? = some (.cells #[.int .u64 t482, .int .i64 t483] 26 (0, 0))) := ⟨by (with_reducible repeat (first | refine blk_drewN ?_ _ | refine blk_drew ?_ | refine blk_alloc ?_ _)); refine blk_put (cs := #[.int .u64 t482, .int .i64 0]) ?_ 1 _ rfl; (with_reducible repeat (first | refine blk_drewN ?_ _ | refine blk_drew ?_ | refine blk_alloc ?_ _)); refine blk_put (cs := #[.int .u64 0, .int .i64 0]) ?_ 0 _ rfl; (with_reducible repeat (first | refine blk_drewN ?_ _ | refine blk_drew ?_ | refine blk_alloc ?_ _)); exact BK485.out⟩
                            have n3_ : Aside0 (Below w.heap.size w ((w32.setCell ⟨gb485, 0, none⟩ (.int .u64 t482)).setCell ⟨gb485, 1, none⟩ (.int .i64 t483))) := ⟨by repeat (first | (with_reducible first | exact HB.out | apply below_alloc | apply pw_below_drewN | apply below_drew1 | refine below_set ?_ GE485.out) | exact HB.out)⟩
                            (try clear HO_6)
                            (try clear HO481)
                            (try clear BK485)
                            (try clear HB)
                            generalize ((w32.setCell ⟨gb485, 0, none⟩ (.int .u64 t482)).setCell ⟨gb485, 1, none⟩ (.int .i64 t483)) = w35 at n0_ n1_ n2_ n3_ ⊢
                            have HO_6 := n0_
                            have HO481 := n1_
                            have BK485 := n2_
                            have HB := n3_
                            clear n0_ n1_ n2_ n3_
                            have hcz36_0 : w35.cell? ⟨gb485, 0, none⟩ = some (.int .u64 t482) := (blk_cell BK485.out 0).trans rfl
                            have hcz36_1 : w35.cell? ⟨gb485, 1, none⟩ = some (.int .i64 t483) := (blk_cell BK485.out 1).trans rfl
                            have hfz36_0 := blk_frozen BK485.out 0
                            have hfz36_1 := blk_frozen BK485.out 1
                            have p25 : 0 ≤ (x30_2 : Int) := of_decide_eq_true (by first | (with_reducible assumption) | assumption)
                            have q25 : (x30_2 : Int) < ((x6_2.length : Int) : Int) := of_decide_eq_true (by first | (with_reducible assumption) | assumption)
                            obtain ⟨go25, co25, eo25, gb25, gl25, cl25, HG25⟩ := Kd.R_form HO_6.out (by omega)
                            (first | cases eo25 | (injection eo25 with ea_ en_ ec_; (first | subst ea_ | (injection ea_ with ea_; subst ea_)); subst ec_; clear en_))
                            have GB25 := Aside0.mk gb25
                            have GG25 := Aside0.mk HG25
                            clear gb25 gl25 HG25
                            obtain ⟨ce25, hcl25, hM25, hcc25, hfr25⟩ := Kd.R_elem HO_6.out z26 (x30_2 : Int) p25 q25
                            obtain rfl := k26_openM hM25
                            have hx25_0 : w35.cell? ⟨go25, (x30_2 : Int).toNat * 2, none⟩ = some (.int .u64 ((rd_T26 x6_2 x30_2).f0)) := hcc25 0 _ rfl
                            have hx25_1 : w35.cell? ⟨go25, (x30_2 : Int).toNat * 2 + 1, none⟩ = some (.int .i64 ((rd_T26 x6_2 x30_2).f1)) := hcc25 1 _ rfl
                            have hf25_0 : w35.frozen? ⟨go25, (x30_2 : Int).toNat * 2, none⟩ = false := hfr25 0
                            have hf25_1 : w35.frozen? ⟨go25, (x30_2 : Int).toNat * 2 + 1, none⟩ = false := hfr25 1
                            clear hcl25 hcc25 hfr25 hM25
                            replace p25 := eq_true p25
                            replace q25 := eq_true q25
                            have HX37 := Aside0.mk (show Kd.R k26 26 w35 w.heap.size (fun k_ => some k_ ≠ (v480 : Value).ownBlock ∧ k_ ≠ gb485) (.slice (some ⟨go25, 0, none⟩) x6_2.length co25) x6_2 from (by (with_reducible repeat (first | apply Kd.R_alloc | apply Kd.R_drewN | apply Kd.R_drew)); exact HO_6.out))
                            obtain ⟨ce37, hcl37, hM37, hcc37, hfr37⟩ := Kd.R_elem HX37.out z26 (x30_2 : Int) (of_decide_eq_true (by first | (with_reducible assumption) | assumption)) (by have h_ : (x30_2 : Int) < ((x6_2.length : Int) : Int) := of_decide_eq_true (by first | (with_reducible assumption) | assumption); first | exact h_ | (have e_ := (Kd.R_reads' HO_6.out).1; omega) | simpa using h_)
                            obtain rfl := k26_openM hM37
                            have HP37 := Kd.R_seg HX37.out (x30_2 : Int) (of_decide_eq_true (by first | (with_reducible assumption) | assumption)) (by have h_ : (x30_2 : Int) < ((x6_2.length : Int) : Int) := of_decide_eq_true (by first | (with_reducible assumption) | assumption); first | exact h_ | (have e_ := (Kd.R_reads' HO_6.out).1; omega) | simpa using h_) (seg := [.int .u64 t482, .int .i64 t483]) (j := 0) hcl37 hcc37 (show 2 ≤ 2 from by decide) (x' := (⟨t482, t483⟩ : S26)) (k26_mkM _ _ _ (⟨t482, t483⟩ : S26) ) (fun _ hk => hk)
                            have hx37_0 := hcc37 0 _ rfl
                            (try simp only [show (k26).sz = 2 from rfl, Nat.mul_one, Nat.add_zero] at hx37_0)
                            have hf37_0 := hfr37 0
                            (try simp only [show (k26).sz = 2 from rfl, Nat.mul_one, Nat.add_zero] at hf37_0)
                            have hx37_1 := hcc37 1 _ rfl
                            (try simp only [show (k26).sz = 2 from rfl, Nat.mul_one, Nat.add_zero] at hx37_1)
                            have hf37_1 := hfr37 1
                            (try simp only [show (k26).sz = 2 from rfl, Nat.mul_one, Nat.add_zero] at hf37_1)
                            clear hcl37 hcc37 hfr37 hM37
                            try go_wp2_with (first | ((with_reducible refine gate_store (t := 26) (p := 52) rfl ?_); refine store_event (t := 26) (p := 52) (v := ?vo_w38) (w1 := ((w35.setCell ⟨go25, (x30_2 : Int).toNat * 2, none⟩ (.int .u64 t482)).setCell ⟨go25, (x30_2 : Int).toNat * 2 + 1, none⟩ (.int .i64 t483))) ?hg ?ho ?hn ?hr ?_; (case ho => rfl); (case hg => rfl); (case hn => rfl); (case hr => first | (go_simp; done) | (go_simp; rfl)); intro w38 hw; have hg : w35.grownBy w38 (some go25) := (by rw [hw]; exact HP37.2); have hp_ : Kd.R k26 26 w38 w.heap.size (fun k_ => some k_ ≠ (v480 : Value).ownBlock ∧ k_ ≠ gb485) (.slice (some ⟨go25, 0, none⟩) x6_2.length co25) y486 := (by rw [hw, Ny486.out]; exact HP37.1); clear HP37; have n0_ := Aside0.mk (hp_); have n1_ := Aside0.mk (Kd.R_after (v := (.slice (some ⟨go25, 0, none⟩) x6_2.length co25)) (v1 := (.slice (some ⟨go25, 0, none⟩) x6_2.length co25)) (ok := (fun k_ => k_ ≠ gb485)) (by (with_reducible repeat (first | apply Kd.R_alloc | apply Kd.R_drewN | apply Kd.R_drew)); exact Kd.R_mono HO481.out (fun _ hk => ⟨hk.2, hk.1⟩)) hg (.inl rfl)); have n2_ := Aside0.mk (blk_grown (g := gb485) (o := .cells #[.int .u64 t482, .int .i64 t483] 26 (0, 0)) (by (with_reducible repeat (first | refine blk_drewN ?_ _ | refine blk_drew ?_ | refine blk_alloc ?_ _)); exact BK485.out) hg (Kd.R_away HO_6.out (fun _ hk => hk.2))); have n3_ := Aside0.mk ((by rw [hw]; exact below_set (below_set (HB.out) GB25.out) GB25.out : Below w.heap.size w w38)); clear HO_6; clear HO481; clear BK485; clear HB; have HO_6 := n0_; have HO481 := n1_; have BK485 := n2_; have HB := n3_; clear n0_ n1_ n2_ n3_; clear hg hw hp_))
                            go_roundg k2
                            case measure => have := HJ2.out; have := HK2.out; omega
                            case rel => exact ⟨(y486), (wrap64 (x30_2 + 1)), (by first | rfl | (simp; done) | (simp [*]; done)), H', ⟨by have := HJ2.out; have := HK2.out; omega⟩, ⟨by (with_reducible repeat (first | apply Kd.R_alloc | apply Kd.R_drewN | apply Kd.R_drew)); exact Kd.R_mono HO_6.out (fun _ hk => trivial)⟩, ⟨by repeat (first | (with_reducible first | exact HB.out | apply below_alloc | apply pw_below_drewN | apply below_drew1 | refine below_set ?_ GE485.out) | exact HB.out)⟩⟩
                          · rw [if_neg c24] at H
                            exact absurd H (by simp)
                        · rw [if_neg c23] at H
                          have c23b0 : (t484 == 0) = false := beq_eq_false_iff_ne.mpr c23
                          have c23b1 : (t484 != 0) = true := bne_iff_ne.mpr c23
                          simp only [Option.some.injEq, Prod.mk.injEq] at H
                          obtain ⟨rfl, rfl⟩ := H
                          try go_wp2
                          have n0_ := Aside0.mk (Kd.R_drew HO_6.out)
                          have n1_ := Aside0.mk (below_drew1 HB.out)
                          clear HO_6
                          clear HB
                          have HO_6 := n0_
                          have HB := n1_
                          clear n0_ n1_
                          have p477 : 0 ≤ (x30_2 : Int) := of_decide_eq_true (by first | (with_reducible assumption) | assumption)
                          have q477 : x30_2 < (l0.length : Int) := of_decide_eq_true (by first | (with_reducible assumption) | assumption)
                          obtain ⟨ad477, e477, hx477_0, hx477_1⟩ := at_T26 HR0.out x30_2 p477 q477
                          have hw477_1 := hx477_1
                          have hw477_0 := hx477_0
                          cases e477
                          replace hx477_0 := (HB.out.cell (World.block_lt_of_cell? w _ hx477_0)).trans hx477_0
                          replace hx477_1 := (HB.out.cell (World.block_lt_of_cell? w _ hx477_1)).trans hx477_1
                          replace p477 := eq_true p477
                          replace q477 := eq_true q477
                          have p478 : 0 ≤ (x30_2 : Int) := of_decide_eq_true (by first | (with_reducible assumption) | assumption)
                          have q478 : x30_2 < (l1.length : Int) := of_decide_eq_true (by first | (with_reducible assumption) | assumption)
                          obtain ⟨ad478, e478, hx478_0, hx478_1⟩ := at_T26 HR1.out x30_2 p478 q478
                          have hw478_1 := hx478_1
                          have hw478_0 := hx478_0
                          cases e478
                          replace hx478_0 := (HB.out.cell (World.block_lt_of_cell? w _ hx478_0)).trans hx478_0
                          replace hx478_1 := (HB.out.cell (World.block_lt_of_cell? w _ hx478_1)).trans hx478_1
                          replace p478 := eq_true p478
                          replace q478 := eq_true q478
                          refine start_ (n := 16) (S := fun w' => w'.cell? (ad477.add ((x30_2).toNat * 2)) = some (.int .u64 ((rd_T26 l0 x30_2).f0)) ∧ w'.cell? ⟨(ad477.add ((x30_2).toNat * 2)).block, (ad477.add ((x30_2).toNat * 2)).off + 1, none⟩ = some (.int .i64 ((rd_T26 l0 x30_2).f1)) ∧ w'.cell? (ad478.add ((x30_2).toNat * 2)) = some (.int .u64 ((rd_T26 l1 x30_2).f0)) ∧ w'.cell? ⟨(ad478.add ((x30_2).toNat * 2)).block, (ad478.add ((x30_2).toNat * 2)).off + 1, none⟩ = some (.int .i64 ((rd_T26 l1 x30_2).f1))) (ds := []) #[false, false, false, false, false, false, false, false, false, false, false, false, false, false, false, false] (by kernel_rfl) rfl rfl ⟨((HB.out.cell (World.block_lt_of_cell? w _ hw477_0)).trans hw477_0), ((HB.out.cell (World.block_lt_of_cell? w _ hw477_1)).trans hw477_1), ((HB.out.cell (World.block_lt_of_cell? w _ hw478_0)).trans hw478_0), ((HB.out.cell (World.block_lt_of_cell? w _ hw478_1)).trans hw478_1)⟩ (fun hHeld => ?_); refine with_tabW table_Merge.tab7 table_Merge.bits7 (fun HT_ HW_ => ?_)
                          generalize wr.drew = w39 at HO_6 HB hx477_0 hx477_1 hx478_0 hx478_1 hHeld ⊢
                          refine pure_ (i := 0) (N := some 34) (v := ?_) (a' := ?_) #[true, false, false, false, false, false, false, false, false, false, false, false, false, false, false, false] rfl rfl (any_of HT_.out (by kernel_rfl)) (fun _ _ _ h => h) (Or.inl ⟨by rfl, ?_⟩) ?_ ?_
                          rotate_left
                          · intro w'
                            go_simp
                            with_reducible rfl
                          rotate_left
                          · simp only [Act.put, List.setIfInBounds_toArray, List.set_cons_zero, List.set_cons_succ, i64_w, i32_w]
                            rfl
                          refine pure_ (i := 1) (N := some 35) (v := ?_) (a' := ?_) #[true, true, false, false, false, false, false, false, false, false, false, false, false, false, false, false] rfl rfl (any_of HT_.out (by kernel_rfl)) (fun _ _ _ h => h) (Or.inl ⟨by rfl, ?_⟩) ?_ ?_
                          rotate_left
                          · intro w'
                            go_simp
                            with_reducible rfl
                          rotate_left
                          · simp only [Act.put, List.setIfInBounds_toArray, List.set_cons_zero, List.set_cons_succ, i64_w, i32_w]
                            rfl
                          refine pure_ (i := 2) (N := some 36) (v := ?_) (a' := ?_) #[true, true, true, false, false, false, false, false, false, false, false, false, false, false, false, false] rfl rfl (any_of HT_.out (by kernel_rfl)) (fun _ _ _ h => h) (Or.inl ⟨by rfl, ?_⟩) ?_ ?_
                          rotate_left
                          · intro w'
                            go_simp
                            with_reducible rfl
                          rotate_left
                          · simp only [Act.put, List.setIfInBounds_toArray, List.set_cons_zero, List.set_cons_succ, i64_w, i32_w]
                            rfl
                          refine pure_ (i := 4) (N := some 38) (v := ?_) (a' := ?_) #[true, true, true, false, true, false, false, false, false, false, false, false, false, false, false, false] rfl rfl (any_of HT_.out (by kernel_rfl)) (fun _ _ _ h => h) (Or.inl ⟨by rfl, ?_⟩) ?_ ?_
                          rotate_left
                          · intro w'
                            go_simp
                            with_reducible rfl
                          rotate_left
                          · simp only [Act.put, List.setIfInBounds_toArray, List.set_cons_zero, List.set_cons_succ, i64_w, i32_w]
                            rfl
                          refine pure_ (i := 5) (N := some 39) (v := ?_) (a' := ?_) #[true, true, true, false, true, true, false, false, false, false, false, false, false, false, false, false] rfl rfl (any_of HT_.out (by kernel_rfl)) (fun _ _ _ h => h) (Or.inl ⟨by rfl, ?_⟩) ?_ ?_
                          rotate_left
                          · intro w'
                            go_simp
                            with_reducible rfl
                          rotate_left
                          · simp only [Act.put, List.setIfInBounds_toArray, List.set_cons_zero, List.set_cons_succ, i64_w, i32_w]
                            rfl
                          refine pure_ (i := 6) (N := some 40) (v := ?_) (a' := ?_) #[true, true, true, false, true, true, true, false, false, false, false, false, false, false, false, false] rfl rfl (any_of HT_.out (by kernel_rfl)) (fun _ _ _ h => h) (Or.inl ⟨by rfl, ?_⟩) ?_ ?_
                          rotate_left
                          · intro w'
                            go_simp
                            with_reducible rfl
                          rotate_left
                          · simp only [Act.put, List.setIfInBounds_toArray, List.set_cons_zero, List.set_cons_succ, i64_w, i32_w]
                            rfl
                          refine take_ (i := 3) (N := some 37) (v := ?_) (a' := ?_) #[true, true, true, true, true, true, true, false, false, false, false, false, false, false, false, false] rfl rfl (take_ofW HT_.out HW_.out (by kernel_rfl)) (fun _ _ _ h => h) (Or.inl ⟨by rfl, ?_⟩) hHeld ?_ ?_
                          rotate_left
                          · rintro w' ⟨s0, s1, s2, s3⟩
                            go_simp
                            with_reducible rfl
                          rotate_left
                          · simp only [Act.put, List.setIfInBounds_toArray, List.set_cons_zero, List.set_cons_succ, i64_w, i32_w]
                            rfl
                          refine take_ (i := 7) (N := some 41) (v := ?_) (a' := ?_) #[true, true, true, true, true, true, true, true, false, false, false, false, false, false, false, false] rfl rfl (take_ofW HT_.out HW_.out (by kernel_rfl)) (fun _ _ _ h => h) (Or.inl ⟨by rfl, ?_⟩) hHeld ?_ ?_
                          rotate_left
                          · rintro w' ⟨s0, s1, s2, s3⟩
                            go_simp
                            with_reducible rfl
                          rotate_left
                          · simp only [Act.put, List.setIfInBounds_toArray, List.set_cons_zero, List.set_cons_succ, i64_w, i32_w]
                            rfl
                          refine join_ (σ := Value × Nat) 2 #[true, true, true, true, true, true, true, true, true, true, true, true, true, true, false, false] (fun s_ => [(42, s_.1), (43, .tuple #[.agg #[.int .u64 t482, .int .i64 t483], .int .i64 t484]), (8, .pointer (some ⟨s_.2, 0, none⟩)), (33, .tuple #[.agg #[.int .u64 t482, .int .i64 t483], .int .i64 t484]), (44, .agg #[.int .u64 t482, .int .i64 t483]), (45, .int .i64 t484)]) (fun s_ w' => (w'.cell? (ad477.add ((x30_2).toNat * 2)) = some (.int .u64 ((rd_T26 l0 x30_2).f0)) ∧ w'.cell? ⟨(ad477.add ((x30_2).toNat * 2)).block, (ad477.add ((x30_2).toNat * 2)).off + 1, none⟩ = some (.int .i64 ((rd_T26 l0 x30_2).f1)) ∧ w'.cell? (ad478.add ((x30_2).toNat * 2)) = some (.int .u64 ((rd_T26 l1 x30_2).f0)) ∧ w'.cell? ⟨(ad478.add ((x30_2).toNat * 2)).block, (ad478.add ((x30_2).toNat * 2)).off + 1, none⟩ = some (.int .i64 ((rd_T26 l1 x30_2).f1))) ∧ (Kd.R k26 26 w' w.heap.size (fun k_ => some k_ ≠ (v475 : Value).ownBlock ∧ k_ ≠ s_.2) s_.1 y479) ∧ (Kd.R k26 26 w' w.heap.size (fun k_ => some k_ ≠ (s_.1 : Value).ownBlock ∧ k_ ≠ s_.2) v475 x6_2) ∧ (w'.heap[s_.2]? = some (.cells #[.int .u64 0, .int .i64 0] 26 (0, 0))) ∧ (w.heap.size ≤ s_.2) ∧ (w.heap.size ≤ s_.2) ∧ (Below w.heap.size w w')) ?_ ?_
                          rotate_left
                          · intro hCont
                            refine two_ (i := 8) (j := 13) (Ni := some 42) (Nj := some 8) #[true, true, true, true, true, true, true, true, true, false, false, false, false, false, false, false] #[true, true, true, true, true, true, true, true, false, false, false, false, false, true, false, false] rfl rfl rfl rfl (two_of HT_.out (by kernel_rfl)) (by decide) (by decide) (fun K hK => ?_) (fun K hK => ?_)
                            · skip
                              refine Kd.R_lit_step k26 _ 26 ?hg (N := 42) ?hd (xs := ([(⟨(rd_T26 l0 x30_2).f0, (rd_T26 l0 x30_2).f1⟩ : S26), (⟨(rd_T26 l1 x30_2).f0, (rd_T26 l1 x30_2).f1⟩ : S26)] : List (S26))) (inner := [.int .u64 ((rd_T26 l0 x30_2).f0), .int .i64 ((rd_T26 l0 x30_2).f1), .int .u64 ((rd_T26 l1 x30_2).f0), .int .i64 ((rd_T26 l1 x30_2).f1)]) (ok := fun _ => True) (okp := fun _ => True) ?hr ?hp (fun _ hk => hk) trivial (Below.refl _ _) (Nat.le_refl _) (by simp) ?_; (case hd => rfl); (case hg => rfl); (case hr => first | (go_simp; done) | (go_simp; rfl)); (case hp => exact (Reps.c2 (show Kd.M k26 _ _ _ (⟨(rd_T26 l0 x30_2).f0, (rd_T26 l0 x30_2).f1⟩ : S26) [.int .u64 ((rd_T26 l0 x30_2).f0), .int .i64 ((rd_T26 l0 x30_2).f1)] from (k26_mkM _ _ _ (⟨(rd_T26 l0 x30_2).f0, (rd_T26 l0 x30_2).f1⟩ : S26) )) (Reps.c2 (show Kd.M k26 _ _ _ (⟨(rd_T26 l1 x30_2).f0, (rd_T26 l1 x30_2).f1⟩ : S26) [.int .u64 ((rd_T26 l1 x30_2).f0), .int .i64 ((rd_T26 l1 x30_2).f1)] from (k26_mkM _ _ _ (⟨(rd_T26 l1 x30_2).f0, (rd_T26 l1 x30_2).f1⟩ : S26) )) (Reps.none _ _))))
                              intro v480 w40 ho41 hb hg_ hnew_
                              clear hg_ hnew_
                              (first | rw [← Ny479.out] at ho41 | (simp only [Int.reduceToNat] at ho41; rw [← Ny479.out] at ho41))
                              have n0_ := Aside0.mk (Kd.R_elder' (by (with_reducible repeat (first | apply Kd.R_alloc | apply Kd.R_drewN | apply Kd.R_drew)); exact HO_6.out) (Kd.R_base ho41) hb)
                              have n1_ := Aside0.mk (Kd.R_lower (Kd.R_new' ho41 (Kd.R_lt (by (with_reducible repeat (first | apply Kd.R_alloc | apply Kd.R_drewN | apply Kd.R_drew)); exact HO_6.out))) (below_size (by repeat (first | (with_reducible first | exact HB.out | apply below_alloc | apply pw_below_drewN | apply below_drew1) | exact HB.out))))
                              have n2_ := Aside0.mk (below_step (by repeat (first | (with_reducible first | exact HB.out | apply below_alloc | apply pw_below_drewN | apply below_drew1) | exact HB.out)) hb)
                              clear HO_6
                              clear HB
                              have HO_6 := n0_
                              have HO481 := n1_
                              have HB := n2_
                              clear n0_ n1_ n2_
                              clear hb ho41
                              obtain ⟨Ao42, co42, eo42⟩ := Kd.R_slice HO481.out
                              (first | subst eo42 | (injection eo42 with f1_ f2_ f3_; have f4_ := f1_.symm; have f5_ := f3_.symm; clear f1_ f2_ f3_; subst f4_; subst f5_))
                              refine hK.out _ _ ⟨((HB.out.cell (World.block_lt_of_cell? w _ hw477_0)).trans hw477_0), ((HB.out.cell (World.block_lt_of_cell? w _ hw477_1)).trans hw477_1), ((HB.out.cell (World.block_lt_of_cell? w _ hw478_0)).trans hw478_0), ((HB.out.cell (World.block_lt_of_cell? w _ hw478_1)).trans hw478_1)⟩ (fun hHeld => ?_)
                              clear hK K
                              refine norm_ (a' := ?_) ?_ ?_
                              rotate_left
                              · show Act.put _ (some 42) _ = _
                                simp only [Act.put, List.setIfInBounds_toArray, List.set_cons_zero, List.set_cons_succ, i64_w, i32_w]
                                rfl
                              refine two_ (i := 9) (j := 13) (Ni := some 43) (Nj := some 8) #[true, true, true, true, true, true, true, true, true, true, false, false, false, false, false, false] #[true, true, true, true, true, true, true, true, true, false, false, false, false, true, false, false] rfl rfl rfl rfl (two_of HT_.out (by kernel_rfl)) (by decide) (by decide) (fun K hK => ?_) (fun K hK => ?_)
                              · skip
                                refine goes_ Try.func16 (by kernel_rfl) rfl #[.slice Ao42 y479.length co42] (by rfl) rfl rfl (by (try simp only [List.map_toArray, List.map_cons, List.map_nil]); first | done | rfl | (simp only [List.length_drop, List.length_take]; rfl)) ?_
                                with_reducible refine (know_Join.calls k2 _ _ y479 t482 t483 t484 _ ?side1 ?side2 A22.out).mono ?_
                                (case side1 => repeat (first | exact (Kd.R_reads' HO481.out).2.2 | (with_reducible refine Kd.C_alloc ?_ _) | (with_reducible refine Kd.C_drewN ?_ _) | (with_reducible refine Kd.C_drew ?_)))
                                (case side2 => exact (Kd.R_reads' HO481.out).2.1)
                                rintro e w43 ⟨rfl, hb⟩
                                refine ⟨_, rfl, ?_⟩
                                have n0_ := Aside0.mk (Kd.R_below (by (with_reducible repeat (first | apply Kd.R_alloc | apply Kd.R_drewN | apply Kd.R_drew)); exact HO_6.out) hb)
                                have n1_ := Aside0.mk (Kd.R_below (by (with_reducible repeat (first | apply Kd.R_alloc | apply Kd.R_drewN | apply Kd.R_drew)); exact HO481.out) hb)
                                have n2_ := Aside0.mk (below_step (by repeat (first | (with_reducible first | exact HB.out | apply below_alloc | apply pw_below_drewN | apply below_drew1) | exact HB.out)) hb)
                                clear HO_6
                                clear HO481
                                clear HB
                                have HO_6 := n0_
                                have HO481 := n1_
                                have HB := n2_
                                clear n0_ n1_ n2_
                                (try clear hb)
                                (try clear hb2)
                                (try clear hk)
                                (try clear hi)
                                refine hK.out _ _ ⟨((HB.out.cell (World.block_lt_of_cell? w _ hw477_0)).trans hw477_0), ((HB.out.cell (World.block_lt_of_cell? w _ hw477_1)).trans hw477_1), ((HB.out.cell (World.block_lt_of_cell? w _ hw478_0)).trans hw478_0), ((HB.out.cell (World.block_lt_of_cell? w _ hw478_1)).trans hw478_1)⟩ (fun hHeld => ?_)
                                clear hK K
                                refine norm_ (a' := ?_) ?_ ?_
                                rotate_left
                                · show Act.put _ (some 43) _ = _
                                  simp only [Act.put, List.setIfInBounds_toArray, List.set_cons_zero, List.set_cons_succ, i64_w, i32_w]
                                  rfl
                                refine pure_ (i := 10) (N := some 33) (v := ?_) (a' := ?_) #[true, true, true, true, true, true, true, true, true, true, true, false, false, false, false, false] rfl rfl (any_of HT_.out (by kernel_rfl)) (fun _ _ _ h => h) (Or.inl ⟨by rfl, ?_⟩) ?_ ?_
                                rotate_left
                                · intro w'
                                  go_simp
                                  with_reducible rfl
                                rotate_left
                                · simp only [Act.put, List.setIfInBounds_toArray, List.set_cons_zero, List.set_cons_succ, i64_w, i32_w]
                                  rfl
                                refine pure_ (i := 11) (N := some 44) (v := ?_) (a' := ?_) #[true, true, true, true, true, true, true, true, true, true, true, true, false, false, false, false] rfl rfl (any_of HT_.out (by kernel_rfl)) (fun _ _ _ h => h) (Or.inl ⟨by rfl, ?_⟩) ?_ ?_
                                rotate_left
                                · intro w'
                                  go_simp
                                  with_reducible rfl
                                rotate_left
                                · simp only [Act.put, List.setIfInBounds_toArray, List.set_cons_zero, List.set_cons_succ, i64_w, i32_w]
                                  rfl
                                refine pure_ (i := 12) (N := some 45) (v := ?_) (a' := ?_) #[true, true, true, true, true, true, true, true, true, true, true, true, true, false, false, false] rfl rfl (any_of HT_.out (by kernel_rfl)) (fun _ _ _ h => h) (Or.inl ⟨by rfl, ?_⟩) ?_ ?_
                                rotate_left
                                · intro w'
                                  go_simp
                                  with_reducible rfl
                                rotate_left
                                · simp only [Act.put, List.setIfInBounds_toArray, List.set_cons_zero, List.set_cons_succ, i64_w, i32_w]
                                  rfl
                                refine one_ (i := 13) (N := some 8) #[true, true, true, true, true, true, true, true, true, true, true, true, true, true, false, false] rfl rfl (one_of HT_.out (by kernel_rfl)) (by decide) (fun K hK => ?_)
                                refine box_step ?hg (N := 8) ?hd (cs := #[.int .u64 0, .int .i64 0]) (t := 26) ?hr ?_; (case hd => rfl); (case hg => rfl); (case hr => first | (go_simp; done) | (go_simp; rfl))
                                intro gb485 hg w44 hbox hb
                                have n0_ := Aside0.mk (Kd.R_below (Kd.R_elderB (by (with_reducible repeat (first | apply Kd.R_alloc | apply Kd.R_drewN | apply Kd.R_drew)); exact HO_6.out) gb485 (Nat.le_of_eq hg.symm)) hb)
                                have n1_ := Aside0.mk (Kd.R_below (Kd.R_elderB (by (with_reducible repeat (first | apply Kd.R_alloc | apply Kd.R_drewN | apply Kd.R_drew)); exact HO481.out) gb485 (Nat.le_of_eq hg.symm)) hb)
                                have n2_ := Aside0.mk (below_step (by repeat (first | (with_reducible first | exact HB.out | apply below_alloc | apply pw_below_drewN | apply below_drew1) | exact HB.out)) hb)
                                have n3_ := Aside0.mk (hbox)
                                have n4_ := Aside0.mk ((by rw [hg]; exact (below_size (by repeat (first | (with_reducible first | exact HB.out | apply below_alloc | apply pw_below_drewN | apply below_drew1) | exact HB.out))) : w.heap.size ≤ gb485))
                                have n5_ := Aside0.mk ((by rw [hg]; exact (below_size (by repeat (first | (with_reducible first | exact HB.out | apply below_alloc | apply pw_below_drewN | apply below_drew1) | exact HB.out))) : w.heap.size ≤ gb485))
                                clear HO_6
                                clear HO481
                                clear HB
                                have HO_6 := n0_
                                have HO481 := n1_
                                have HB := n2_
                                have BK485 := n3_
                                have GW485 := n4_
                                have GE485 := n5_
                                clear n0_ n1_ n2_ n3_ n4_ n5_
                                clear hb hbox hg
                                refine hK.out _ _ ⟨((HB.out.cell (World.block_lt_of_cell? w _ hw477_0)).trans hw477_0), ((HB.out.cell (World.block_lt_of_cell? w _ hw477_1)).trans hw477_1), ((HB.out.cell (World.block_lt_of_cell? w _ hw478_0)).trans hw478_0), ((HB.out.cell (World.block_lt_of_cell? w _ hw478_1)).trans hw478_1)⟩ (fun hHeld => ?_)
                                clear hK K
                                refine norm_ (a' := ?_) ?_ ?_
                                rotate_left
                                · show Act.put _ (some 8) _ = _
                                  simp only [Act.put, List.setIfInBounds_toArray, List.set_cons_zero, List.set_cons_succ, i64_w, i32_w]
                                  rfl
                                exact norm_ (by simp only [putAll, Act.put, List.setIfInBounds_toArray, List.set_cons_zero, List.set_cons_succ]) (hCont (.slice Ao42 y479.length co42, gb485) _ ⟨hHeld, (by (with_reducible repeat (first | apply Kd.R_alloc | apply Kd.R_drewN | apply Kd.R_drew)); exact Kd.R_mono HO481.out (fun _ hk => ⟨hk.1.2, hk.2⟩)), (by (with_reducible repeat (first | apply Kd.R_alloc | apply Kd.R_drewN | apply Kd.R_drew)); exact Kd.R_mono HO_6.out (fun _ hk => ⟨hk.1.2, hk.2⟩)), (by (with_reducible repeat (first | refine blk_drewN ?_ _ | refine blk_drew ?_ | refine blk_alloc ?_ _)); exact BK485.out), GW485.out, GE485.out, (by repeat (first | (with_reducible first | exact HB.out | apply below_alloc | apply pw_below_drewN | apply below_drew1 | refine below_set ?_ GE485.out) | exact HB.out))⟩)
                              · skip
                                refine box_step ?hg (N := 8) ?hd (cs := #[.int .u64 0, .int .i64 0]) (t := 26) ?hr ?_; (case hd => rfl); (case hg => rfl); (case hr => first | (go_simp; done) | (go_simp; rfl))
                                intro gb485 hg w42 hbox hb
                                have n0_ := Aside0.mk (Kd.R_below (Kd.R_elderB (by (with_reducible repeat (first | apply Kd.R_alloc | apply Kd.R_drewN | apply Kd.R_drew)); exact HO_6.out) gb485 (Nat.le_of_eq hg.symm)) hb)
                                have n1_ := Aside0.mk (Kd.R_below (Kd.R_elderB (by (with_reducible repeat (first | apply Kd.R_alloc | apply Kd.R_drewN | apply Kd.R_drew)); exact HO481.out) gb485 (Nat.le_of_eq hg.symm)) hb)
                                have n2_ := Aside0.mk (below_step (by repeat (first | (with_reducible first | exact HB.out | apply below_alloc | apply pw_below_drewN | apply below_drew1) | exact HB.out)) hb)
                                have n3_ := Aside0.mk (hbox)
                                have n4_ := Aside0.mk ((by rw [hg]; exact (below_size (by repeat (first | (with_reducible first | exact HB.out | apply below_alloc | apply pw_below_drewN | apply below_drew1) | exact HB.out))) : w.heap.size ≤ gb485))
                                have n5_ := Aside0.mk ((by rw [hg]; exact (below_size (by repeat (first | (with_reducible first | exact HB.out | apply below_alloc | apply pw_below_drewN | apply below_drew1) | exact HB.out))) : w.heap.size ≤ gb485))
                                clear HO_6
                                clear HO481
                                clear HB
                                have HO_6 := n0_
                                have HO481 := n1_
                                have HB := n2_
                                have BK485 := n3_
                                have GW485 := n4_
                                have GE485 := n5_
                                clear n0_ n1_ n2_ n3_ n4_ n5_
                                clear hb hbox hg
                                obtain ⟨Ao43, co43, eo43⟩ := Kd.R_slice HO481.out
                                (first | subst eo43 | (injection eo43 with f1_ f2_ f3_; have f4_ := f1_.symm; have f5_ := f3_.symm; clear f1_ f2_ f3_; subst f4_; subst f5_))
                                refine hK.out _ _ ⟨((HB.out.cell (World.block_lt_of_cell? w _ hw477_0)).trans hw477_0), ((HB.out.cell (World.block_lt_of_cell? w _ hw477_1)).trans hw477_1), ((HB.out.cell (World.block_lt_of_cell? w _ hw478_0)).trans hw478_0), ((HB.out.cell (World.block_lt_of_cell? w _ hw478_1)).trans hw478_1)⟩ (fun hHeld => ?_)
                                clear hK K
                                refine norm_ (a' := ?_) ?_ ?_
                                rotate_left
                                · show Act.put _ (some 8) _ = _
                                  simp only [Act.put, List.setIfInBounds_toArray, List.set_cons_zero, List.set_cons_succ, i64_w, i32_w]
                                  rfl
                                refine one_ (i := 9) (N := some 43) #[true, true, true, true, true, true, true, true, true, true, false, false, false, true, false, false] rfl rfl (one_of HT_.out (by kernel_rfl)) (by decide) (fun K hK => ?_)
                                refine goes_ Try.func16 (by kernel_rfl) rfl #[.slice Ao43 y479.length co43] (by rfl) rfl rfl (by (try simp only [List.map_toArray, List.map_cons, List.map_nil]); first | done | rfl | (simp only [List.length_drop, List.length_take]; rfl)) ?_
                                with_reducible refine (know_Join.calls k2 _ _ y479 t482 t483 t484 _ ?side1 ?side2 A22.out).mono ?_
                                (case side1 => repeat (first | exact (Kd.R_reads' HO481.out).2.2 | (with_reducible refine Kd.C_alloc ?_ _) | (with_reducible refine Kd.C_drewN ?_ _) | (with_reducible refine Kd.C_drew ?_)))
                                (case side2 => exact (Kd.R_reads' HO481.out).2.1)
                                rintro e w44 ⟨rfl, hb⟩
                                refine ⟨_, rfl, ?_⟩
                                have n0_ := Aside0.mk (Kd.R_below (by (with_reducible repeat (first | apply Kd.R_alloc | apply Kd.R_drewN | apply Kd.R_drew)); exact HO_6.out) hb)
                                have n1_ := Aside0.mk (Kd.R_below (by (with_reducible repeat (first | apply Kd.R_alloc | apply Kd.R_drewN | apply Kd.R_drew)); exact HO481.out) hb)
                                have n2_ := Aside0.mk (blk_below (g := gb485) (o := .cells #[.int .u64 0, .int .i64 0] 26 (0, 0)) (by (with_reducible repeat (first | refine blk_drewN ?_ _ | refine blk_drew ?_ | refine blk_alloc ?_ _)); exact BK485.out) hb)
                                have n3_ := Aside0.mk (below_step (by repeat (first | (with_reducible first | exact HB.out | apply below_alloc | apply pw_below_drewN | apply below_drew1 | refine below_set ?_ GE485.out) | exact HB.out)) hb)
                                clear HO_6
                                clear HO481
                                clear BK485
                                clear HB
                                have HO_6 := n0_
                                have HO481 := n1_
                                have BK485 := n2_
                                have HB := n3_
                                clear n0_ n1_ n2_ n3_
                                (try clear hb)
                                (try clear hb2)
                                (try clear hk)
                                (try clear hi)
                                refine hK.out _ _ ⟨((HB.out.cell (World.block_lt_of_cell? w _ hw477_0)).trans hw477_0), ((HB.out.cell (World.block_lt_of_cell? w _ hw477_1)).trans hw477_1), ((HB.out.cell (World.block_lt_of_cell? w _ hw478_0)).trans hw478_0), ((HB.out.cell (World.block_lt_of_cell? w _ hw478_1)).trans hw478_1)⟩ (fun hHeld => ?_)
                                clear hK K
                                refine norm_ (a' := ?_) ?_ ?_
                                rotate_left
                                · show Act.put _ (some 43) _ = _
                                  simp only [Act.put, List.setIfInBounds_toArray, List.set_cons_zero, List.set_cons_succ, i64_w, i32_w]
                                  rfl
                                refine pure_ (i := 10) (N := some 33) (v := ?_) (a' := ?_) #[true, true, true, true, true, true, true, true, true, true, true, false, false, true, false, false] rfl rfl (any_of HT_.out (by kernel_rfl)) (fun _ _ _ h => h) (Or.inl ⟨by rfl, ?_⟩) ?_ ?_
                                rotate_left
                                · intro w'
                                  go_simp
                                  with_reducible rfl
                                rotate_left
                                · simp only [Act.put, List.setIfInBounds_toArray, List.set_cons_zero, List.set_cons_succ, i64_w, i32_w]
                                  rfl
                                refine pure_ (i := 11) (N := some 44) (v := ?_) (a' := ?_) #[true, true, true, true, true, true, true, true, true, true, true, true, false, true, false, false] rfl rfl (any_of HT_.out (by kernel_rfl)) (fun _ _ _ h => h) (Or.inl ⟨by rfl, ?_⟩) ?_ ?_
                                rotate_left
                                · intro w'
                                  go_simp
                                  with_reducible rfl
                                rotate_left
                                · simp only [Act.put, List.setIfInBounds_toArray, List.set_cons_zero, List.set_cons_succ, i64_w, i32_w]
                                  rfl
                                refine pure_ (i := 12) (N := some 45) (v := ?_) (a' := ?_) #[true, true, true, true, true, true, true, true, true, true, true, true, true, true, false, false] rfl rfl (any_of HT_.out (by kernel_rfl)) (fun _ _ _ h => h) (Or.inl ⟨by rfl, ?_⟩) ?_ ?_
                                rotate_left
                                · intro w'
                                  go_simp
                                  with_reducible rfl
                                rotate_left
                                · simp only [Act.put, List.setIfInBounds_toArray, List.set_cons_zero, List.set_cons_succ, i64_w, i32_w]
                                  rfl
                                exact norm_ (by simp only [putAll, Act.put, List.setIfInBounds_toArray, List.set_cons_zero, List.set_cons_succ]) (hCont (.slice Ao43 y479.length co43, gb485) _ ⟨hHeld, (by (with_reducible repeat (first | apply Kd.R_alloc | apply Kd.R_drewN | apply Kd.R_drew)); exact Kd.R_mono HO481.out (fun _ hk => ⟨hk.1.2, hk.2⟩)), (by (with_reducible repeat (first | apply Kd.R_alloc | apply Kd.R_drewN | apply Kd.R_drew)); exact Kd.R_mono HO_6.out (fun _ hk => ⟨hk.1.2, hk.2⟩)), (by (with_reducible repeat (first | refine blk_drewN ?_ _ | refine blk_drew ?_ | refine blk_alloc ?_ _)); exact BK485.out), GW485.out, GE485.out, (by repeat (first | (with_reducible first | exact HB.out | apply below_alloc | apply pw_below_drewN | apply below_drew1 | refine below_set ?_ GE485.out) | exact HB.out))⟩)
                            · skip
                              refine box_step ?hg (N := 8) ?hd (cs := #[.int .u64 0, .int .i64 0]) (t := 26) ?hr ?_; (case hd => rfl); (case hg => rfl); (case hr => first | (go_simp; done) | (go_simp; rfl))
                              intro gb485 hg w40 hbox hb
                              have n0_ := Aside0.mk (Kd.R_below (Kd.R_elderB (by (with_reducible repeat (first | apply Kd.R_alloc | apply Kd.R_drewN | apply Kd.R_drew)); exact HO_6.out) gb485 (Nat.le_of_eq hg.symm)) hb)
                              have n1_ := Aside0.mk (below_step (by repeat (first | (with_reducible first | exact HB.out | apply below_alloc | apply pw_below_drewN | apply below_drew1) | exact HB.out)) hb)
                              have n2_ := Aside0.mk (hbox)
                              have n3_ := Aside0.mk ((by rw [hg]; exact (below_size (by repeat (first | (with_reducible first | exact HB.out | apply below_alloc | apply pw_below_drewN | apply below_drew1) | exact HB.out))) : w.heap.size ≤ gb485))
                              have n4_ := Aside0.mk ((by rw [hg]; exact (below_size (by repeat (first | (with_reducible first | exact HB.out | apply below_alloc | apply pw_below_drewN | apply below_drew1) | exact HB.out))) : w.heap.size ≤ gb485))
                              clear HO_6
                              clear HB
                              have HO_6 := n0_
                              have HB := n1_
                              have BK485 := n2_
                              have GW485 := n3_
                              have GE485 := n4_
                              clear n0_ n1_ n2_ n3_ n4_
                              clear hb hbox hg
                              refine hK.out _ _ ⟨((HB.out.cell (World.block_lt_of_cell? w _ hw477_0)).trans hw477_0), ((HB.out.cell (World.block_lt_of_cell? w _ hw477_1)).trans hw477_1), ((HB.out.cell (World.block_lt_of_cell? w _ hw478_0)).trans hw478_0), ((HB.out.cell (World.block_lt_of_cell? w _ hw478_1)).trans hw478_1)⟩ (fun hHeld => ?_)
                              clear hK K
                              refine norm_ (a' := ?_) ?_ ?_
                              rotate_left
                              · show Act.put _ (some 8) _ = _
                                simp only [Act.put, List.setIfInBounds_toArray, List.set_cons_zero, List.set_cons_succ, i64_w, i32_w]
                                rfl
                              refine one_ (i := 8) (N := some 42) #[true, true, true, true, true, true, true, true, true, false, false, false, false, true, false, false] rfl rfl (one_of HT_.out (by kernel_rfl)) (by decide) (fun K hK => ?_)
                              refine Kd.R_lit_step k26 _ 26 ?hg (N := 42) ?hd (xs := ([(⟨(rd_T26 l0 x30_2).f0, (rd_T26 l0 x30_2).f1⟩ : S26), (⟨(rd_T26 l1 x30_2).f0, (rd_T26 l1 x30_2).f1⟩ : S26)] : List (S26))) (inner := [.int .u64 ((rd_T26 l0 x30_2).f0), .int .i64 ((rd_T26 l0 x30_2).f1), .int .u64 ((rd_T26 l1 x30_2).f0), .int .i64 ((rd_T26 l1 x30_2).f1)]) (ok := fun _ => True) (okp := fun _ => True) ?hr ?hp (fun _ hk => hk) trivial (Below.refl _ _) (Nat.le_refl _) (by simp) ?_; (case hd => rfl); (case hg => rfl); (case hr => first | (go_simp; done) | (go_simp; rfl)); (case hp => exact (Reps.c2 (show Kd.M k26 _ _ _ (⟨(rd_T26 l0 x30_2).f0, (rd_T26 l0 x30_2).f1⟩ : S26) [.int .u64 ((rd_T26 l0 x30_2).f0), .int .i64 ((rd_T26 l0 x30_2).f1)] from (k26_mkM _ _ _ (⟨(rd_T26 l0 x30_2).f0, (rd_T26 l0 x30_2).f1⟩ : S26) )) (Reps.c2 (show Kd.M k26 _ _ _ (⟨(rd_T26 l1 x30_2).f0, (rd_T26 l1 x30_2).f1⟩ : S26) [.int .u64 ((rd_T26 l1 x30_2).f0), .int .i64 ((rd_T26 l1 x30_2).f1)] from (k26_mkM _ _ _ (⟨(rd_T26 l1 x30_2).f0, (rd_T26 l1 x30_2).f1⟩ : S26) )) (Reps.none _ _))))
                              intro v480 w41 ho42 hb hg_ hnew_
                              clear hg_ hnew_
                              (first | rw [← Ny479.out] at ho42 | (simp only [Int.reduceToNat] at ho42; rw [← Ny479.out] at ho42))
                              have n0_ := Aside0.mk (Kd.R_elder' (by (with_reducible repeat (first | apply Kd.R_alloc | apply Kd.R_drewN | apply Kd.R_drew)); exact HO_6.out) (Kd.R_base ho42) hb)
                              have n1_ := Aside0.mk (Kd.R_lower (Kd.R_newB (Kd.R_new' ho42 (Kd.R_lt (by (with_reducible repeat (first | apply Kd.R_alloc | apply Kd.R_drewN | apply Kd.R_drew)); exact HO_6.out))) (g := gb485) (o := .cells #[.int .u64 0, .int .i64 0] 26 (0, 0)) (by (with_reducible repeat (first | refine blk_drewN ?_ _ | refine blk_drew ?_ | refine blk_alloc ?_ _)); exact BK485.out)) (below_size (by repeat (first | (with_reducible first | exact HB.out | apply below_alloc | apply pw_below_drewN | apply below_drew1 | refine below_set ?_ GE485.out) | exact HB.out))))
                              have n2_ := Aside0.mk (blk_below (g := gb485) (o := .cells #[.int .u64 0, .int .i64 0] 26 (0, 0)) (by (with_reducible repeat (first | refine blk_drewN ?_ _ | refine blk_drew ?_ | refine blk_alloc ?_ _)); exact BK485.out) hb)
                              have n3_ := Aside0.mk (below_step (by repeat (first | (with_reducible first | exact HB.out | apply below_alloc | apply pw_below_drewN | apply below_drew1 | refine below_set ?_ GE485.out) | exact HB.out)) hb)
                              clear HO_6
                              clear BK485
                              clear HB
                              have HO_6 := n0_
                              have HO481 := n1_
                              have BK485 := n2_
                              have HB := n3_
                              clear n0_ n1_ n2_ n3_
                              clear hb ho42
                              obtain ⟨Ao43, co43, eo43⟩ := Kd.R_slice HO481.out
                              (first | subst eo43 | (injection eo43 with f1_ f2_ f3_; have f4_ := f1_.symm; have f5_ := f3_.symm; clear f1_ f2_ f3_; subst f4_; subst f5_))
                              refine hK.out _ _ ⟨((HB.out.cell (World.block_lt_of_cell? w _ hw477_0)).trans hw477_0), ((HB.out.cell (World.block_lt_of_cell? w _ hw477_1)).trans hw477_1), ((HB.out.cell (World.block_lt_of_cell? w _ hw478_0)).trans hw478_0), ((HB.out.cell (World.block_lt_of_cell? w _ hw478_1)).trans hw478_1)⟩ (fun hHeld => ?_)
                              clear hK K
                              refine norm_ (a' := ?_) ?_ ?_
                              rotate_left
                              · show Act.put _ (some 42) _ = _
                                simp only [Act.put, List.setIfInBounds_toArray, List.set_cons_zero, List.set_cons_succ, i64_w, i32_w]
                                rfl
                              refine one_ (i := 9) (N := some 43) #[true, true, true, true, true, true, true, true, true, true, false, false, false, true, false, false] rfl rfl (one_of HT_.out (by kernel_rfl)) (by decide) (fun K hK => ?_)
                              refine goes_ Try.func16 (by kernel_rfl) rfl #[.slice Ao43 y479.length co43] (by rfl) rfl rfl (by (try simp only [List.map_toArray, List.map_cons, List.map_nil]); first | done | rfl | (simp only [List.length_drop, List.length_take]; rfl)) ?_
                              with_reducible refine (know_Join.calls k2 _ _ y479 t482 t483 t484 _ ?side1 ?side2 A22.out).mono ?_
                              (case side1 => repeat (first | exact (Kd.R_reads' HO481.out).2.2 | (with_reducible refine Kd.C_alloc ?_ _) | (with_reducible refine Kd.C_drewN ?_ _) | (with_reducible refine Kd.C_drew ?_)))
                              (case side2 => exact (Kd.R_reads' HO481.out).2.1)
                              rintro e w44 ⟨rfl, hb⟩
                              refine ⟨_, rfl, ?_⟩
                              have n0_ := Aside0.mk (Kd.R_below (by (with_reducible repeat (first | apply Kd.R_alloc | apply Kd.R_drewN | apply Kd.R_drew)); exact HO_6.out) hb)
                              have n1_ := Aside0.mk (Kd.R_below (by (with_reducible repeat (first | apply Kd.R_alloc | apply Kd.R_drewN | apply Kd.R_drew)); exact HO481.out) hb)
                              have n2_ := Aside0.mk (blk_below (g := gb485) (o := .cells #[.int .u64 0, .int .i64 0] 26 (0, 0)) (by (with_reducible repeat (first | refine blk_drewN ?_ _ | refine blk_drew ?_ | refine blk_alloc ?_ _)); exact BK485.out) hb)
                              have n3_ := Aside0.mk (below_step (by repeat (first | (with_reducible first | exact HB.out | apply below_alloc | apply pw_below_drewN | apply below_drew1 | refine below_set ?_ GE485.out) | exact HB.out)) hb)
                              clear HO_6
                              clear HO481
                              clear BK485
                              clear HB
                              have HO_6 := n0_
                              have HO481 := n1_
                              have BK485 := n2_
                              have HB := n3_
                              clear n0_ n1_ n2_ n3_
                              (try clear hb)
                              (try clear hb2)
                              (try clear hk)
                              (try clear hi)
                              refine hK.out _ _ ⟨((HB.out.cell (World.block_lt_of_cell? w _ hw477_0)).trans hw477_0), ((HB.out.cell (World.block_lt_of_cell? w _ hw477_1)).trans hw477_1), ((HB.out.cell (World.block_lt_of_cell? w _ hw478_0)).trans hw478_0), ((HB.out.cell (World.block_lt_of_cell? w _ hw478_1)).trans hw478_1)⟩ (fun hHeld => ?_)
                              clear hK K
                              refine norm_ (a' := ?_) ?_ ?_
                              rotate_left
                              · show Act.put _ (some 43) _ = _
                                simp only [Act.put, List.setIfInBounds_toArray, List.set_cons_zero, List.set_cons_succ, i64_w, i32_w]
                                rfl
                              refine pure_ (i := 10) (N := some 33) (v := ?_) (a' := ?_) #[true, true, true, true, true, true, true, true, true, true, true, false, false, true, false, false] rfl rfl (any_of HT_.out (by kernel_rfl)) (fun _ _ _ h => h) (Or.inl ⟨by rfl, ?_⟩) ?_ ?_
                              rotate_left
                              · intro w'
                                go_simp
                                with_reducible rfl
                              rotate_left
                              · simp only [Act.put, List.setIfInBounds_toArray, List.set_cons_zero, List.set_cons_succ, i64_w, i32_w]
                                rfl
                              refine pure_ (i := 11) (N := some 44) (v := ?_) (a' := ?_) #[true, true, true, true, true, true, true, true, true, true, true, true, false, true, false, false] rfl rfl (any_of HT_.out (by kernel_rfl)) (fun _ _ _ h => h) (Or.inl ⟨by rfl, ?_⟩) ?_ ?_
                              rotate_left
                              · intro w'
                                go_simp
                                with_reducible rfl
                              rotate_left
                              · simp only [Act.put, List.setIfInBounds_toArray, List.set_cons_zero, List.set_cons_succ, i64_w, i32_w]
                                rfl
                              refine pure_ (i := 12) (N := some 45) (v := ?_) (a' := ?_) #[true, true, true, true, true, true, true, true, true, true, true, true, true, true, false, false] rfl rfl (any_of HT_.out (by kernel_rfl)) (fun _ _ _ h => h) (Or.inl ⟨by rfl, ?_⟩) ?_ ?_
                              rotate_left
                              · intro w'
                                go_simp
                                with_reducible rfl
                              rotate_left
                              · simp only [Act.put, List.setIfInBounds_toArray, List.set_cons_zero, List.set_cons_succ, i64_w, i32_w]
                                rfl
                              exact norm_ (by simp only [putAll, Act.put, List.setIfInBounds_toArray, List.set_cons_zero, List.set_cons_succ]) (hCont (.slice Ao43 y479.length co43, gb485) _ ⟨hHeld, (by (with_reducible repeat (first | apply Kd.R_alloc | apply Kd.R_drewN | apply Kd.R_drew)); exact Kd.R_mono HO481.out (fun _ hk => ⟨hk.1.2, hk.2⟩)), (by (with_reducible repeat (first | apply Kd.R_alloc | apply Kd.R_drewN | apply Kd.R_drew)); exact Kd.R_mono HO_6.out (fun _ hk => ⟨hk.2, hk.1.2⟩)), (by (with_reducible repeat (first | refine blk_drewN ?_ _ | refine blk_drew ?_ | refine blk_alloc ?_ _)); exact BK485.out), GW485.out, GE485.out, (by repeat (first | (with_reducible first | exact HB.out | apply below_alloc | apply pw_below_drewN | apply below_drew1 | refine below_set ?_ GE485.out) | exact HB.out))⟩)
                          rintro ⟨v480, gb485⟩ w45 ⟨hS_, h0_, h1_, h2_, h3_, h4_, h5_⟩
                          have n0_ : Aside0 (Kd.R k26 26 w45 w.heap.size (fun k_ => some k_ ≠ (v475 : Value).ownBlock ∧ k_ ≠ gb485) v480 y479) := ⟨h0_⟩
                          have n1_ : Aside0 (Kd.R k26 26 w45 w.heap.size (fun k_ => some k_ ≠ (v480 : Value).ownBlock ∧ k_ ≠ gb485) v475 x6_2) := ⟨h1_⟩
                          have n2_ : Aside0 (w45.heap[gb485]? = some (.cells #[.int .u64 0, .int .i64 0] 26 (0, 0))) := ⟨h2_⟩
                          have n3_ : Aside0 (w.heap.size ≤ gb485) := ⟨h3_⟩
                          have n4_ : Aside0 (w.heap.size ≤ gb485) := ⟨h4_⟩
                          have n5_ : Aside0 (Below w.heap.size w w45) := ⟨h5_⟩
                          clear HO_6
                          clear HB
                          clear h0_ h1_ h2_ h3_ h4_ h5_
                          have HO481 := n0_
                          have HO_6 := n1_
                          have BK485 := n2_
                          have GW485 := n3_
                          have GE485 := n4_
                          have HB := n5_
                          clear n0_ n1_ n2_ n3_ n4_ n5_
                          have hHeld : w45.cell? (ad477.add ((x30_2).toNat * 2)) = some (.int .u64 ((rd_T26 l0 x30_2).f0)) ∧ w45.cell? ⟨(ad477.add ((x30_2).toNat * 2)).block, (ad477.add ((x30_2).toNat * 2)).off + 1, none⟩ = some (.int .i64 ((rd_T26 l0 x30_2).f1)) ∧ w45.cell? (ad478.add ((x30_2).toNat * 2)) = some (.int .u64 ((rd_T26 l1 x30_2).f0)) ∧ w45.cell? ⟨(ad478.add ((x30_2).toNat * 2)).block, (ad478.add ((x30_2).toNat * 2)).off + 1, none⟩ = some (.int .i64 ((rd_T26 l1 x30_2).f1)) := hS_
                          refine norm_ (a' := ?_) ?_ ?_
                          rotate_left
                          · simp only [putAll, Act.put, List.setIfInBounds_toArray, List.set_cons_zero, List.set_cons_succ]
                            rfl
                          refine one_ (i := 14) (N := none) #[true, true, true, true, true, true, true, true, true, true, true, true, true, true, true, false] rfl rfl (one_of HT_.out (by kernel_rfl)) (by decide) (fun K hK => ?_)
                          have hs46 : w45.cell? ⟨gb485, 0, none⟩ = some (.int .u64 0) := (blk_cell BK485.out 0).trans rfl
                          have hfs46 := blk_frozen BK485.out 0
                          have hs47 : w45.cell? ⟨gb485, 1, none⟩ = some (.int .i64 0) := (blk_cell BK485.out 1).trans rfl
                          have hfs47 := blk_frozen BK485.out 1
                          refine skip_ (w1 := ?_) (by rfl) rfl ?_ ?_
                          rotate_left
                          · go_simp
                            rfl
                          refine hK.out _ _ ⟨((cell_far (p := ⟨gb485, _, none⟩) (by first | exact Nat.ne_of_lt (Nat.lt_of_lt_of_le (by have := World.block_lt_of_cell? _ _ hw477_0; first | rwa [add_block] at this | exact this) GW485.out) | (rw [add_block]; exact Nat.ne_of_lt (Nat.lt_of_lt_of_le (by have := World.block_lt_of_cell? _ _ hw477_0; first | rwa [add_block] at this | exact this) GW485.out)) | (show (Addr.add _ _).block ≠ _; rw [add_block]; exact Nat.ne_of_lt (Nat.lt_of_lt_of_le (by have := World.block_lt_of_cell? _ _ hw477_0; first | rwa [add_block] at this | exact this) GW485.out)) | (dsimp only; exact Nat.ne_of_lt (Nat.lt_of_lt_of_le (by have := World.block_lt_of_cell? _ _ hw477_0; first | rwa [add_block] at this | exact this) GW485.out))) _).trans (((cell_far (p := ⟨gb485, _, none⟩) (by first | exact Nat.ne_of_lt (Nat.lt_of_lt_of_le (by have := World.block_lt_of_cell? _ _ hw477_0; first | rwa [add_block] at this | exact this) GW485.out) | (rw [add_block]; exact Nat.ne_of_lt (Nat.lt_of_lt_of_le (by have := World.block_lt_of_cell? _ _ hw477_0; first | rwa [add_block] at this | exact this) GW485.out)) | (show (Addr.add _ _).block ≠ _; rw [add_block]; exact Nat.ne_of_lt (Nat.lt_of_lt_of_le (by have := World.block_lt_of_cell? _ _ hw477_0; first | rwa [add_block] at this | exact this) GW485.out)) | (dsimp only; exact Nat.ne_of_lt (Nat.lt_of_lt_of_le (by have := World.block_lt_of_cell? _ _ hw477_0; first | rwa [add_block] at this | exact this) GW485.out))) _).trans (hHeld.1)))), ((cell_far (p := ⟨gb485, _, none⟩) (by first | exact Nat.ne_of_lt (Nat.lt_of_lt_of_le (by have := World.block_lt_of_cell? _ _ hw477_1; first | rwa [add_block] at this | exact this) GW485.out) | (rw [add_block]; exact Nat.ne_of_lt (Nat.lt_of_lt_of_le (by have := World.block_lt_of_cell? _ _ hw477_1; first | rwa [add_block] at this | exact this) GW485.out)) | (show (Addr.add _ _).block ≠ _; rw [add_block]; exact Nat.ne_of_lt (Nat.lt_of_lt_of_le (by have := World.block_lt_of_cell? _ _ hw477_1; first | rwa [add_block] at this | exact this) GW485.out)) | (dsimp only; exact Nat.ne_of_lt (Nat.lt_of_lt_of_le (by have := World.block_lt_of_cell? _ _ hw477_1; first | rwa [add_block] at this | exact this) GW485.out))) _).trans (((cell_far (p := ⟨gb485, _, none⟩) (by first | exact Nat.ne_of_lt (Nat.lt_of_lt_of_le (by have := World.block_lt_of_cell? _ _ hw477_1; first | rwa [add_block] at this | exact this) GW485.out) | (rw [add_block]; exact Nat.ne_of_lt (Nat.lt_of_lt_of_le (by have := World.block_lt_of_cell? _ _ hw477_1; first | rwa [add_block] at this | exact this) GW485.out)) | (show (Addr.add _ _).block ≠ _; rw [add_block]; exact Nat.ne_of_lt (Nat.lt_of_lt_of_le (by have := World.block_lt_of_cell? _ _ hw477_1; first | rwa [add_block] at this | exact this) GW485.out)) | (dsimp only; exact Nat.ne_of_lt (Nat.lt_of_lt_of_le (by have := World.block_lt_of_cell? _ _ hw477_1; first | rwa [add_block] at this | exact this) GW485.out))) _).trans (hHeld.2.1)))), ((cell_far (p := ⟨gb485, _, none⟩) (by first | exact Nat.ne_of_lt (Nat.lt_of_lt_of_le (by have := World.block_lt_of_cell? _ _ hw478_0; first | rwa [add_block] at this | exact this) GW485.out) | (rw [add_block]; exact Nat.ne_of_lt (Nat.lt_of_lt_of_le (by have := World.block_lt_of_cell? _ _ hw478_0; first | rwa [add_block] at this | exact this) GW485.out)) | (show (Addr.add _ _).block ≠ _; rw [add_block]; exact Nat.ne_of_lt (Nat.lt_of_lt_of_le (by have := World.block_lt_of_cell? _ _ hw478_0; first | rwa [add_block] at this | exact this) GW485.out)) | (dsimp only; exact Nat.ne_of_lt (Nat.lt_of_lt_of_le (by have := World.block_lt_of_cell? _ _ hw478_0; first | rwa [add_block] at this | exact this) GW485.out))) _).trans (((cell_far (p := ⟨gb485, _, none⟩) (by first | exact Nat.ne_of_lt (Nat.lt_of_lt_of_le (by have := World.block_lt_of_cell? _ _ hw478_0; first | rwa [add_block] at this | exact this) GW485.out) | (rw [add_block]; exact Nat.ne_of_lt (Nat.lt_of_lt_of_le (by have := World.block_lt_of_cell? _ _ hw478_0; first | rwa [add_block] at this | exact this) GW485.out)) | (show (Addr.add _ _).block ≠ _; rw [add_block]; exact Nat.ne_of_lt (Nat.lt_of_lt_of_le (by have := World.block_lt_of_cell? _ _ hw478_0; first | rwa [add_block] at this | exact this) GW485.out)) | (dsimp only; exact Nat.ne_of_lt (Nat.lt_of_lt_of_le (by have := World.block_lt_of_cell? _ _ hw478_0; first | rwa [add_block] at this | exact this) GW485.out))) _).trans (hHeld.2.2.1)))), ((cell_far (p := ⟨gb485, _, none⟩) (by first | exact Nat.ne_of_lt (Nat.lt_of_lt_of_le (by have := World.block_lt_of_cell? _ _ hw478_1; first | rwa [add_block] at this | exact this) GW485.out) | (rw [add_block]; exact Nat.ne_of_lt (Nat.lt_of_lt_of_le (by have := World.block_lt_of_cell? _ _ hw478_1; first | rwa [add_block] at this | exact this) GW485.out)) | (show (Addr.add _ _).block ≠ _; rw [add_block]; exact Nat.ne_of_lt (Nat.lt_of_lt_of_le (by have := World.block_lt_of_cell? _ _ hw478_1; first | rwa [add_block] at this | exact this) GW485.out)) | (dsimp only; exact Nat.ne_of_lt (Nat.lt_of_lt_of_le (by have := World.block_lt_of_cell? _ _ hw478_1; first | rwa [add_block] at this | exact this) GW485.out))) _).trans (((cell_far (p := ⟨gb485, _, none⟩) (by first | exact Nat.ne_of_lt (Nat.lt_of_lt_of_le (by have := World.block_lt_of_cell? _ _ hw478_1; first | rwa [add_block] at this | exact this) GW485.out) | (rw [add_block]; exact Nat.ne_of_lt (Nat.lt_of_lt_of_le (by have := World.block_lt_of_cell? _ _ hw478_1; first | rwa [add_block] at this | exact this) GW485.out)) | (show (Addr.add _ _).block ≠ _; rw [add_block]; exact Nat.ne_of_lt (Nat.lt_of_lt_of_le (by have := World.block_lt_of_cell? _ _ hw478_1; first | rwa [add_block] at this | exact this) GW485.out)) | (dsimp only; exact Nat.ne_of_lt (Nat.lt_of_lt_of_le (by have := World.block_lt_of_cell? _ _ hw478_1; first | rwa [add_block] at this | exact this) GW485.out))) _).trans (hHeld.2.2.2))))⟩ (fun hHeld => ?_)
                          clear hK K
                          refine pure_ (i := 15) (N := some 9) (v := ?_) (a' := ?_) #[true, true, true, true, true, true, true, true, true, true, true, true, true, true, true, true] rfl rfl (any_of HT_.out (by kernel_rfl)) (fun _ _ _ h => h) (Or.inl ⟨by rfl, ?_⟩) ?_ ?_
                          rotate_left
                          · intro w'
                            go_simp
                            with_reducible rfl
                          rotate_left
                          · simp only [Act.put, List.setIfInBounds_toArray, List.set_cons_zero, List.set_cons_succ, i64_w, i32_w]
                            rfl
                          refine done_ (done_of HT_.out (by kernel_rfl)) ?_
                          try go_wp2
                          go_ret2
                          exact ⟨_, by first | rfl | (simp [errW_none, errW_some] <;> rfl) | (simp [*, errW_none, errW_some] <;> rfl), by first | exact Kd.R_nil _ _ _ _ _ | exact Kd.N_nil _ _ _ _ _ | exact Kd.V_nil _ _ _ _ _ | exact Kd.Q_nil _ _ _ _ _ | exact Kd.S_nil _ _ _ _ _, by repeat (first | (with_reducible first | exact HB.out | apply below_alloc | apply pw_below_drewN | apply below_drew1 | refine below_set ?_ GE485.out) | exact HB.out)⟩
                      · rw [if_neg c21] at H
                        exact absurd H (by simp)
                    · rw [if_neg c20] at H
                      exact absurd H (by simp)
                  · rw [if_neg c19] at H
                    exact absurd H (by simp)
                · rw [if_neg c18] at H
                  have c18b0 : decide (x30_2 < (l0.length : Int)) = false := decide_eq_false c18
                  clear c18
                  simp only [Option.some.injEq, Prod.mk.injEq] at H
                  obtain ⟨rfl, rfl⟩ := H
                  go_wp2
                  go_ret2
                  exact ⟨_, by first | rfl | (simp [errW_none, errW_some] <;> rfl) | (simp [*, errW_none, errW_some] <;> rfl), by (with_reducible repeat (first | apply Kd.R_alloc | apply Kd.R_drewN | apply Kd.R_drew)); exact HO_6.out, by repeat (first | (with_reducible first | exact HB.out | apply below_alloc | apply pw_below_drewN | apply below_drew1) | exact HB.out)⟩
          · rw [if_neg c15] at H
            exact absurd H (by simp)
        · rw [if_neg c14] at H
          exact absurd H (by simp)

end Go.Proofs.Ytjamociekniepaa.Fn
