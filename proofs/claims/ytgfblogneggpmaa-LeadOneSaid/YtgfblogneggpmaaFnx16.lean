-- Written by program (a turned copy of the kit's print) for this seat: functions, contracts. Lean checks it.
import Derived.Test.YtgfblogneggpmaaFnx0
import Derived.Test.YtgfblogneggpmaaFnx15
import Derived.Test.YtgfblogneggpmaaExCheck
namespace Go.Proofs.Ytgfblogneggpmaa.Fn
open Go.RowKit Go.Proofs.YtgfblogneggpmaaW.PrintWords Go.Proofs.YtgfblogneggpmaaW.PrintLast Go.Proofs.YtgfblogneggpmaaW.PrintMore
attribute [local go_sem] max2_int min2_int max_two min_two max_three min_three max_four min_four   -- for this text's walks alone
set_option linter.unusedVariables false
set_option linter.unusedSimpArgs false

/-! ### lead_Granted: function 22 -/
def lead_Granted.j0 : Nat → Int → Int → Int → Bool → Int → List Int → Option (Int × List Int × Int)
  | 0, _, _, _, _, _, _ => none
  | k + 1, x1, x2, x3, x10, x333000, x333001 => if x10 = true then (some (x333000, x333001, 1)) else (if x2 = x333000 then ((slices_Clone_int64_int64.f x333001).bind fun t336 => (if 0 ≤ x1 then (if x1 < (t336.length : Int) then (some (x333000, (t336.set (x1 : Int).toNat (mx (rd t336 x1) x3)), 0)) else (none)) else (none))) else (some (x333000, x333001, 8)))
def lead_Granted.f (k : Nat) (a0_0 : Int) (l0_1 : List Int) (a1 : Int) (a2 : Int) (a3 : Int) : Option (Int × List Int × Int) := (lead_Check.f a0_0 l0_1).bind fun t334 => (if t334 = 0 then (if a1 < 0 then (lead_Granted.j0 k a1 a2 a3 true a0_0 l0_1) else (if a1 ≥ (l0_1.length : Int) then (lead_Granted.j0 k a1 a2 a3 true a0_0 l0_1) else ((lead_moment.f a3).bind fun t335 => (lead_Granted.j0 k a1 a2 a3 (!t335) a0_0 l0_1)))) else (lead_Granted.j0 k a1 a2 a3 true a0_0 l0_1))
theorem lead_Granted.mono_l : ∀ k, (∀ y0 y1 y2 y3 y4 y5, LeO (lead_Granted.j0 k y0 y1 y2 y3 y4 y5) (lead_Granted.j0 (k + 1) y0 y1 y2 y3 y4 y5))
  | 0 => fun _ _ _ _ _ _ r h => by simp [lead_Granted.j0] at h
  | k + 1 => by
    have ih0 := lead_Granted.mono_l k
    · intro y0 y1 y2 y3 y4 y5
      unfold lead_Granted.j0
      repeat' first
      | (with_reducible exact ih0 _ _ _ _ _ _)
      | (with_reducible exact LeO.refl _)
      | (with_reducible exact LeO.none _)
      | (with_reducible refine LeO.ite ?_ ?_)
      | (with_reducible refine LeO.bind ?_ (fun _ => ?_))
      | exact ih0 _ _ _ _ _ _
      | exact LeO.none _
      | refine LeO.ite ?_ ?_
      | refine LeO.bind ?_ (fun _ => ?_)
theorem lead_Granted.mono : ∀ a0 a1 a2 a3 a4 k, LeO (lead_Granted.f k a0 a1 a2 a3 a4) (lead_Granted.f (k + 1) a0 a1 a2 a3 a4) := by
  intro a0 a1 a2 a3 a4 k
  have ih0 := lead_Granted.mono_l k
  unfold lead_Granted.f
  repeat' first
      | (with_reducible exact ih0 _ _ _ _ _ _)
      | (with_reducible exact LeO.refl _)
      | (with_reducible exact LeO.none _)
      | (with_reducible refine LeO.ite ?_ ?_)
      | (with_reducible refine LeO.bind ?_ (fun _ => ?_))
      | exact ih0 _ _ _ _ _ _
      | exact LeO.none _
      | refine LeO.ite ?_ ?_
      | refine LeO.bind ?_ (fun _ => ?_)
def lead_Granted.T6 : Bool × List (List Nat × List Nat) := (true, [([], []), ([0], [0]), ([], []), ([], []), ([3], [3]), ([], []), ([4, 5], [4, 5]), ([6], [6]), ([], []), ([7, 8], [7, 8]), ([1, 2, 0, 1, 2, 3, 4, 5, 6, 7, 8, 9], [1, 2]), ([10, 9, 0, 1, 2, 3, 4, 5, 6, 7, 8, 9], [9, 10])])
def lead_Granted.B6 : List Nat := [0, 1, 0, 0, 8, 0, 56, 120, 0, 504, 1023, 2047]
theorem lead_Granted.tab6 : rtab .any (opsOf Try.f22 6) = lead_Granted.T6 := by kernel_rfl
theorem lead_Granted.bits6 : waitsOk lead_Granted.T6.2 lead_Granted.B6 = true := by kernel_rfl
set_option maxHeartbeats 8000000 in
set_option maxRecDepth 100000 in
theorem lead_Granted.calls (k : Nat) (a0_0 : Int) (P0_1_ : Nat → Prop) (A0_1 : Option Addr) (c0_1 : Nat) (l0_1 : List Int) (a1 : Int) (a2 : Int) (a3 : Int) (r1 : Int) (r2 : List Int) (r3 : Int) (w : World) (hs0_1 : Kd.V (Kd.int .i64) 2 w w.heap.size (fun k_ => P0_1_ k_) (.slice A0_1 l0_1.length c0_1) l0_1) (h : lead_Granted.f k a0_0 l0_1 a1 a2 a3 = some (r1, r2, r3)) :
    Calls Try.prog 22 #[.agg #[.int .u64 a0_0, .slice A0_1 l0_1.length c0_1], .int .i64 a1, .int .u64 a2, .int .i64 a3] w fun e w' => ∃ v1_ : Value, e = .returned (.tuple #[.agg #[.int .u64 r1, v1_], .int .i64 r3]) ∧ Kd.V (Kd.int .i64) 2 w' w.heap.size (fun k_ => (P0_1_ k_ ∨ w.heap.size ≤ k_)) v1_ r2 ∧ Below w.heap.size w w' := by
  have hu52 := Try.underlying52
  have HO0_1 := Aside0.mk (show Kd.V (Kd.int .i64) 2 w w.heap.size (fun k_ => (P0_1_ k_ ∨ w.heap.size ≤ k_)) (.slice A0_1 l0_1.length c0_1) l0_1 from Kd.V_mono hs0_1 (fun k_ hk => .inl hk))
  have HB := Aside0.mk (Below.refl w.heap.size w)
  have H : ((lead_Check.f a0_0 l0_1).bind fun t334 => (if t334 = 0 then (if a1 < 0 then (lead_Granted.j0 k a1 a2 a3 true a0_0 l0_1) else (if a1 ≥ (l0_1.length : Int) then (lead_Granted.j0 k a1 a2 a3 true a0_0 l0_1) else ((lead_moment.f a3).bind fun t335 => (lead_Granted.j0 k a1 a2 a3 (!t335) a0_0 l0_1)))) else (lead_Granted.j0 k a1 a2 a3 true a0_0 l0_1))) = some (r1, r2, r3) := h
  clear h
  have HC5 := Aside0.mk H
  clear H
  go_enter Try.func22, Try.ntmps22
  go_upto_region 1 with (first | ((with_reducible refine gate_dst (N := 4) rfl ?_); (try (refine gate_guard (by rfl) ?_; dsimp only)); refine box_event ?hg (N := 4) ?hd (cs := #[.int .u64 a0_0, .slice A0_1 l0_1.length c0_1]) (t := 52) ?hr ?_; (case hd => rfl); (case hg => rfl); (case hr => first | (go_simp; done) | (go_simp; rfl)); intro gb332 hg w6 hbox hb; have n0_ := Aside0.mk (Kd.V_below (Kd.V_elderB (by (with_reducible repeat (first | apply Kd.V_alloc | apply Kd.V_drewN | apply Kd.V_drew)); exact HO0_1.out) gb332 (Nat.le_of_eq hg.symm)) hb); have n1_ := Aside0.mk (below_step (by repeat (first | (with_reducible first | exact HB.out | apply below_alloc | apply pw_below_drewN | apply below_drew1) | exact HB.out)) hb); have n2_ := Aside0.mk (hbox); have n3_ := Aside0.mk ((by rw [hg]; exact (below_size (by repeat (first | (with_reducible first | exact HB.out | apply below_alloc | apply pw_below_drewN | apply below_drew1) | exact HB.out))) : w.heap.size ≤ gb332)); have n4_ := Aside0.mk ((by rw [hg]; exact (below_size (by repeat (first | (with_reducible first | exact HB.out | apply below_alloc | apply pw_below_drewN | apply below_drew1) | exact HB.out))) : w.heap.size ≤ gb332)); clear HO0_1; clear HB; have HO0_1 := n0_; have HB := n1_; have BK332 := n2_; have GW332 := n3_; have GE332 := n4_; clear n0_ n1_ n2_ n3_ n4_; clear hb hbox hg) | ((with_reducible refine gate_dst (N := 8) rfl ?_); (try (refine gate_guard (by rfl) ?_; dsimp only)); refine box_event ?hg (N := 8) ?hd (cs := #[.int .u64 0, .slice none 0 0]) (t := 52) ?hr ?_; (case hd => rfl); (case hg => rfl); (case hr => first | (go_simp; done) | (go_simp; rfl)); intro gb333 hg w7 hbox hb; have n0_ := Aside0.mk (Kd.V_below (Kd.V_elderB (by (with_reducible repeat (first | apply Kd.V_alloc | apply Kd.V_drewN | apply Kd.V_drew)); exact HO0_1.out) gb333 (Nat.le_of_eq hg.symm)) hb); have n1_ := Aside0.mk (blk_below (g := gb332) (o := .cells #[.int .u64 a0_0, .slice A0_1 l0_1.length c0_1] 52 (0, 0)) (by (with_reducible repeat (first | refine blk_drewN ?_ _ | refine blk_drew ?_ | refine blk_alloc ?_ _)); exact BK332.out) hb); have n2_ := Aside0.mk (below_step (by repeat (first | (with_reducible first | exact HB.out | apply below_alloc | apply pw_below_drewN | apply below_drew1 | refine below_set ?_ GE332.out) | exact HB.out)) hb); have n3_ := Aside0.mk (hbox); have n4_ := Aside0.mk ((by rw [hg]; exact (below_size (by repeat (first | (with_reducible first | exact HB.out | apply below_alloc | apply pw_below_drewN | apply below_drew1 | refine below_set ?_ GE332.out) | exact HB.out))) : w.heap.size ≤ gb333)); have n5_ := Aside0.mk ((by rw [hg]; exact (below_size (by repeat (first | (with_reducible first | exact HB.out | apply below_alloc | apply pw_below_drewN | apply below_drew1 | refine below_set ?_ GE332.out) | exact HB.out))) : w.heap.size ≤ gb333)); have n6_ := Aside0.mk ((by rw [hg]; exact Nat.ne_of_lt (blk_lt (g := gb332) (o := .cells #[.int .u64 a0_0, .slice A0_1 l0_1.length c0_1] 52 (0, 0)) (by (with_reducible repeat (first | refine blk_drewN ?_ _ | refine blk_drew ?_ | refine blk_alloc ?_ _)); exact BK332.out)) : gb332 ≠ gb333)); have n7_ := Aside0.mk ((by rw [hg]; exact Nat.ne_of_gt (blk_lt (g := gb332) (o := .cells #[.int .u64 a0_0, .slice A0_1 l0_1.length c0_1] 52 (0, 0)) (by (with_reducible repeat (first | refine blk_drewN ?_ _ | refine blk_drew ?_ | refine blk_alloc ?_ _)); exact BK332.out)) : gb333 ≠ gb332)); clear HO0_1; clear BK332; clear HB; have HO0_1 := n0_; have BK332 := n1_; have HB := n2_; have BK333 := n3_; have GW333 := n4_; have GE333 := n5_; have NB332_333 := n6_; have NB333_332 := n7_; clear n0_ n1_ n2_ n3_ n4_ n5_ n6_ n7_; clear hb hbox hg))
  (try simp only [Act.put, List.setIfInBounds_toArray, List.set_cons_zero, List.set_cons_succ])
  go_cut [10] (fun v10 wc => ∃ (kq : Nat) (x10_4 : Bool), v10 = .bool x10_4 ∧ Aside0 (lead_Granted.j0 kq a1 a2 a3 x10_4 a0_0 l0_1 = some (r1, r2, r3)) ∧ Aside0 (kq ≤ k) ∧ Aside0 (Kd.V (Kd.int .i64) 2 wc w.heap.size (fun k_ => (P0_1_ k_ ∨ w.heap.size ≤ k_) ∧ k_ ≠ gb332 ∧ k_ ≠ gb333) (.slice A0_1 l0_1.length c0_1) l0_1) ∧ Aside0 (wc.heap[gb332]? = some (.cells #[.int .u64 a0_0, (.slice A0_1 l0_1.length c0_1)] 52 (0, 0))) ∧ Aside0 (wc.heap[gb333]? = some (.cells #[.int .u64 0, (.slice none 0 0)] 52 (0, 0))) ∧ Aside0 (Below w.heap.size w wc))
  case first =>
    have H := HC5.out
    clear HC5
    replace H := Option.bind_eq_some_iff.mp H
    obtain ⟨t334, A80, H⟩ := H
    replace H : (if t334 = 0 then (if a1 < 0 then (lead_Granted.j0 k a1 a2 a3 true a0_0 l0_1) else (if a1 ≥ (l0_1.length : Int) then (lead_Granted.j0 k a1 a2 a3 true a0_0 l0_1) else ((lead_moment.f a3).bind fun t335 => (lead_Granted.j0 k a1 a2 a3 (!t335) a0_0 l0_1)))) else (lead_Granted.j0 k a1 a2 a3 true a0_0 l0_1)) = some (r1, r2, r3) := H
    have A8 := Aside0.mk A80
    clear A80
    by_cases c9 : t334 = 0
    · rw [if_pos c9] at H
      have c9b0 : (t334 == 0) = true := beq_iff_eq.mpr c9
      have c9b1 : (t334 != 0) = false := bne_eq_false_iff_eq.mpr c9
      clear c9
      (first | rw [c9b0] | (simp only [i64_w, i32_w]; rw [c9b0]) | skip)
      by_cases c10 : a1 < 0
      · rw [if_pos c10] at H
        have c10b0 : decide (a1 < 0) = true := decide_eq_true c10
        clear c10
        have H' := Aside0.mk H
        clear H
        have hnb11 := NB332_333.out
        have hnc11 := NB333_332.out
        have hcz12_0 : w7.cell? ⟨gb332, 0, none⟩ = some (.int .u64 a0_0) := (blk_cell BK332.out 0).trans rfl
        have hcz12_1 : w7.cell? ⟨gb332, 1, none⟩ = some (.slice A0_1 l0_1.length c0_1) := (blk_cell BK332.out 1).trans rfl
        have hfz12_0 := blk_frozen BK332.out 0
        have hfz12_1 := blk_frozen BK332.out 1
        go_wp2_with (first | ((with_reducible refine gate_callee (f := 28) rfl ?_); refine goesL_ (some 12) rfl rfl Try.func28 (by kernel_rfl) rfl #[.agg #[.int .u64 a0_0, .slice A0_1 l0_1.length c0_1]] rfl (by (try simp only [List.map_toArray, List.map_cons, List.map_nil]); first | done | rfl | (simp only [List.length_drop, List.length_take]; rfl)) ?_; (with_reducible refine (lead_Check.calls a0_0 _ _ l0_1 t334 _ ?side1 ?side2 A8.out).mono ?_); (case side1 => repeat (first | exact (Kd.V_reads' HO0_1.out).2.2 | (with_reducible refine Kd.C_alloc ?_ _) | (with_reducible refine Kd.C_drewN ?_ _) | (with_reducible refine Kd.C_drew ?_))); (case side2 => exact (Kd.V_reads' HO0_1.out).2.1); rintro e w13 ⟨rfl, hb⟩; refine ⟨_, rfl, ?_⟩; have n0_ := Aside0.mk (Kd.V_below (by (with_reducible repeat (first | apply Kd.V_alloc | apply Kd.V_drewN | apply Kd.V_drew)); exact HO0_1.out) hb); have n1_ := Aside0.mk (blk_below (g := gb332) (o := .cells #[.int .u64 a0_0, .slice A0_1 l0_1.length c0_1] 52 (0, 0)) (by (with_reducible repeat (first | refine blk_drewN ?_ _ | refine blk_drew ?_ | refine blk_alloc ?_ _)); exact BK332.out) hb); have n2_ := Aside0.mk (blk_below (g := gb333) (o := .cells #[.int .u64 0, .slice none 0 0] 52 (0, 0)) (by (with_reducible repeat (first | refine blk_drewN ?_ _ | refine blk_drew ?_ | refine blk_alloc ?_ _)); exact BK333.out) hb); have n3_ := Aside0.mk (below_step (by repeat (first | (with_reducible first | exact HB.out | apply below_alloc | apply pw_below_drewN | apply below_drew1 | refine below_set ?_ GE332.out | refine below_set ?_ GE333.out) | exact HB.out)) hb); clear HO0_1; clear BK332; clear BK333; clear HB; have HO0_1 := n0_; have BK332 := n1_; have BK333 := n2_; have HB := n3_; clear n0_ n1_ n2_ n3_; (try clear hb); (try clear hb2); (try clear hk); (try clear hi)))
        go_meet
        case rel => exact ⟨_, (true), (by first | rfl | (simp; done) | (simp [*]; done)), H', ⟨by first | omega | exact Nat.le_refl _⟩, ⟨by (with_reducible repeat (first | apply Kd.V_alloc | apply Kd.V_drewN | apply Kd.V_drew)); exact Kd.V_mono HO0_1.out (fun _ hk => ⟨hk.1.1, ⟨hk.1.2, hk.2⟩⟩)⟩, ⟨by (with_reducible repeat (first | refine blk_drewN ?_ _ | refine blk_drew ?_ | refine blk_alloc ?_ _)); exact BK332.out⟩, ⟨by (with_reducible repeat (first | refine blk_drewN ?_ _ | refine blk_drew ?_ | refine blk_alloc ?_ _)); exact BK333.out⟩, ⟨by repeat (first | (with_reducible first | exact HB.out | apply below_alloc | apply pw_below_drewN | apply below_drew1 | refine below_set ?_ GE332.out | refine below_set ?_ GE333.out) | exact HB.out)⟩⟩
      · rw [if_neg c10] at H
        have c10b0 : decide (a1 < 0) = false := decide_eq_false c10
        clear c10
        by_cases c14 : a1 ≥ (l0_1.length : Int)
        · rw [if_pos c14] at H
          have c14b0 : decide ((l0_1.length : Int) ≤ a1) = true := decide_eq_true c14
          clear c14
          have H' := Aside0.mk H
          clear H
          have hnb15 := NB332_333.out
          have hnc15 := NB333_332.out
          have hcz16_0 : w7.cell? ⟨gb332, 0, none⟩ = some (.int .u64 a0_0) := (blk_cell BK332.out 0).trans rfl
          have hcz16_1 : w7.cell? ⟨gb332, 1, none⟩ = some (.slice A0_1 l0_1.length c0_1) := (blk_cell BK332.out 1).trans rfl
          have hfz16_0 := blk_frozen BK332.out 0
          have hfz16_1 := blk_frozen BK332.out 1
          go_wp2_with (first | ((with_reducible refine gate_callee (f := 28) rfl ?_); refine goesL_ (some 12) rfl rfl Try.func28 (by kernel_rfl) rfl #[.agg #[.int .u64 a0_0, .slice A0_1 l0_1.length c0_1]] rfl (by (try simp only [List.map_toArray, List.map_cons, List.map_nil]); first | done | rfl | (simp only [List.length_drop, List.length_take]; rfl)) ?_; (with_reducible refine (lead_Check.calls a0_0 _ _ l0_1 t334 _ ?side1 ?side2 A8.out).mono ?_); (case side1 => repeat (first | exact (Kd.V_reads' HO0_1.out).2.2 | (with_reducible refine Kd.C_alloc ?_ _) | (with_reducible refine Kd.C_drewN ?_ _) | (with_reducible refine Kd.C_drew ?_))); (case side2 => exact (Kd.V_reads' HO0_1.out).2.1); rintro e w17 ⟨rfl, hb⟩; refine ⟨_, rfl, ?_⟩; have n0_ := Aside0.mk (Kd.V_below (by (with_reducible repeat (first | apply Kd.V_alloc | apply Kd.V_drewN | apply Kd.V_drew)); exact HO0_1.out) hb); have n1_ := Aside0.mk (blk_below (g := gb332) (o := .cells #[.int .u64 a0_0, .slice A0_1 l0_1.length c0_1] 52 (0, 0)) (by (with_reducible repeat (first | refine blk_drewN ?_ _ | refine blk_drew ?_ | refine blk_alloc ?_ _)); exact BK332.out) hb); have n2_ := Aside0.mk (blk_below (g := gb333) (o := .cells #[.int .u64 0, .slice none 0 0] 52 (0, 0)) (by (with_reducible repeat (first | refine blk_drewN ?_ _ | refine blk_drew ?_ | refine blk_alloc ?_ _)); exact BK333.out) hb); have n3_ := Aside0.mk (below_step (by repeat (first | (with_reducible first | exact HB.out | apply below_alloc | apply pw_below_drewN | apply below_drew1 | refine below_set ?_ GE332.out | refine below_set ?_ GE333.out) | exact HB.out)) hb); clear HO0_1; clear BK332; clear BK333; clear HB; have HO0_1 := n0_; have BK332 := n1_; have BK333 := n2_; have HB := n3_; clear n0_ n1_ n2_ n3_; (try clear hb); (try clear hb2); (try clear hk); (try clear hi); have hcz18_0 : w17.cell? ⟨gb332, 0, none⟩ = some (.int .u64 a0_0) := (blk_cell BK332.out 0).trans rfl; have hcz18_1 : w17.cell? ⟨gb332, 1, none⟩ = some (.slice A0_1 l0_1.length c0_1) := (blk_cell BK332.out 1).trans rfl; have hfz18_0 := blk_frozen BK332.out 0; have hfz18_1 := blk_frozen BK332.out 1))
          go_meet
          case rel => exact ⟨_, (true), (by first | rfl | (simp; done) | (simp [*]; done)), H', ⟨by first | omega | exact Nat.le_refl _⟩, ⟨by (with_reducible repeat (first | apply Kd.V_alloc | apply Kd.V_drewN | apply Kd.V_drew)); exact Kd.V_mono HO0_1.out (fun _ hk => ⟨hk.1.1, ⟨hk.1.2, hk.2⟩⟩)⟩, ⟨by (with_reducible repeat (first | refine blk_drewN ?_ _ | refine blk_drew ?_ | refine blk_alloc ?_ _)); exact BK332.out⟩, ⟨by (with_reducible repeat (first | refine blk_drewN ?_ _ | refine blk_drew ?_ | refine blk_alloc ?_ _)); exact BK333.out⟩, ⟨by repeat (first | (with_reducible first | exact HB.out | apply below_alloc | apply pw_below_drewN | apply below_drew1 | refine below_set ?_ GE332.out | refine below_set ?_ GE333.out) | exact HB.out)⟩⟩
        · rw [if_neg c14] at H
          have c14b0 : decide ((l0_1.length : Int) ≤ a1) = false := decide_eq_false c14
          clear c14
          replace H := Option.bind_eq_some_iff.mp H
          obtain ⟨t335, A190, H⟩ := H
          replace H : (lead_Granted.j0 k a1 a2 a3 (!t335) a0_0 l0_1) = some (r1, r2, r3) := H
          have A19 := Aside0.mk A190
          clear A190
          have H' := Aside0.mk H
          clear H
          have hnb20 := NB332_333.out
          have hnc20 := NB333_332.out
          have hcz21_0 : w7.cell? ⟨gb332, 0, none⟩ = some (.int .u64 a0_0) := (blk_cell BK332.out 0).trans rfl
          have hcz21_1 : w7.cell? ⟨gb332, 1, none⟩ = some (.slice A0_1 l0_1.length c0_1) := (blk_cell BK332.out 1).trans rfl
          have hfz21_0 := blk_frozen BK332.out 0
          have hfz21_1 := blk_frozen BK332.out 1
          go_wp2_with (first | ((with_reducible refine gate_callee (f := 28) rfl ?_); refine goesL_ (some 12) rfl rfl Try.func28 (by kernel_rfl) rfl #[.agg #[.int .u64 a0_0, .slice A0_1 l0_1.length c0_1]] rfl (by (try simp only [List.map_toArray, List.map_cons, List.map_nil]); first | done | rfl | (simp only [List.length_drop, List.length_take]; rfl)) ?_; (with_reducible refine (lead_Check.calls a0_0 _ _ l0_1 t334 _ ?side1 ?side2 A8.out).mono ?_); (case side1 => repeat (first | exact (Kd.V_reads' HO0_1.out).2.2 | (with_reducible refine Kd.C_alloc ?_ _) | (with_reducible refine Kd.C_drewN ?_ _) | (with_reducible refine Kd.C_drew ?_))); (case side2 => exact (Kd.V_reads' HO0_1.out).2.1); rintro e w22 ⟨rfl, hb⟩; refine ⟨_, rfl, ?_⟩; have n0_ := Aside0.mk (Kd.V_below (by (with_reducible repeat (first | apply Kd.V_alloc | apply Kd.V_drewN | apply Kd.V_drew)); exact HO0_1.out) hb); have n1_ := Aside0.mk (blk_below (g := gb332) (o := .cells #[.int .u64 a0_0, .slice A0_1 l0_1.length c0_1] 52 (0, 0)) (by (with_reducible repeat (first | refine blk_drewN ?_ _ | refine blk_drew ?_ | refine blk_alloc ?_ _)); exact BK332.out) hb); have n2_ := Aside0.mk (blk_below (g := gb333) (o := .cells #[.int .u64 0, .slice none 0 0] 52 (0, 0)) (by (with_reducible repeat (first | refine blk_drewN ?_ _ | refine blk_drew ?_ | refine blk_alloc ?_ _)); exact BK333.out) hb); have n3_ := Aside0.mk (below_step (by repeat (first | (with_reducible first | exact HB.out | apply below_alloc | apply pw_below_drewN | apply below_drew1 | refine below_set ?_ GE332.out | refine below_set ?_ GE333.out) | exact HB.out)) hb); clear HO0_1; clear BK332; clear BK333; clear HB; have HO0_1 := n0_; have BK332 := n1_; have BK333 := n2_; have HB := n3_; clear n0_ n1_ n2_ n3_; (try clear hb); (try clear hb2); (try clear hk); (try clear hi); have hcz23_0 : w22.cell? ⟨gb332, 0, none⟩ = some (.int .u64 a0_0) := (blk_cell BK332.out 0).trans rfl; have hcz23_1 : w22.cell? ⟨gb332, 1, none⟩ = some (.slice A0_1 l0_1.length c0_1) := (blk_cell BK332.out 1).trans rfl; have hfz23_0 := blk_frozen BK332.out 0; have hfz23_1 := blk_frozen BK332.out 1) | (go_at_call 53; (with_reducible refine (lead_moment.calls a3 t335 _ A19.out).mono ?_); rintro e w' ⟨rfl, ⟨nd, rfl⟩⟩))
          go_meet
          case rel => exact ⟨_, (!t335), (by first | rfl | (simp; done) | (simp [*]; done)), H', ⟨by first | omega | exact Nat.le_refl _⟩, ⟨by (with_reducible repeat (first | apply Kd.V_alloc | apply Kd.V_drewN | apply Kd.V_drew)); exact Kd.V_mono HO0_1.out (fun _ hk => ⟨hk.1.1, ⟨hk.1.2, hk.2⟩⟩)⟩, ⟨by (with_reducible repeat (first | refine blk_drewN ?_ _ | refine blk_drew ?_ | refine blk_alloc ?_ _)); exact BK332.out⟩, ⟨by (with_reducible repeat (first | refine blk_drewN ?_ _ | refine blk_drew ?_ | refine blk_alloc ?_ _)); exact BK333.out⟩, ⟨by repeat (first | (with_reducible first | exact HB.out | apply below_alloc | apply pw_below_drewN | apply below_drew1 | refine below_set ?_ GE332.out | refine below_set ?_ GE333.out) | exact HB.out)⟩⟩
    · rw [if_neg c9] at H
      have c9b0 : (t334 == 0) = false := beq_eq_false_iff_ne.mpr c9
      have c9b1 : (t334 != 0) = true := bne_iff_ne.mpr c9
      (first | rw [c9b0] | (simp only [i64_w, i32_w]; rw [c9b0]) | skip)
      have H' := Aside0.mk H
      clear H
      have hnb24 := NB332_333.out
      have hnc24 := NB333_332.out
      have hcz25_0 : w7.cell? ⟨gb332, 0, none⟩ = some (.int .u64 a0_0) := (blk_cell BK332.out 0).trans rfl
      have hcz25_1 : w7.cell? ⟨gb332, 1, none⟩ = some (.slice A0_1 l0_1.length c0_1) := (blk_cell BK332.out 1).trans rfl
      have hfz25_0 := blk_frozen BK332.out 0
      have hfz25_1 := blk_frozen BK332.out 1
      go_wp2_with (first | ((with_reducible refine gate_callee (f := 28) rfl ?_); refine goesL_ (some 12) rfl rfl Try.func28 (by kernel_rfl) rfl #[.agg #[.int .u64 a0_0, .slice A0_1 l0_1.length c0_1]] rfl (by (try simp only [List.map_toArray, List.map_cons, List.map_nil]); first | done | rfl | (simp only [List.length_drop, List.length_take]; rfl)) ?_; (with_reducible refine (lead_Check.calls a0_0 _ _ l0_1 t334 _ ?side1 ?side2 A8.out).mono ?_); (case side1 => repeat (first | exact (Kd.V_reads' HO0_1.out).2.2 | (with_reducible refine Kd.C_alloc ?_ _) | (with_reducible refine Kd.C_drewN ?_ _) | (with_reducible refine Kd.C_drew ?_))); (case side2 => exact (Kd.V_reads' HO0_1.out).2.1); rintro e w26 ⟨rfl, hb⟩; refine ⟨_, rfl, ?_⟩; have n0_ := Aside0.mk (Kd.V_below (by (with_reducible repeat (first | apply Kd.V_alloc | apply Kd.V_drewN | apply Kd.V_drew)); exact HO0_1.out) hb); have n1_ := Aside0.mk (blk_below (g := gb332) (o := .cells #[.int .u64 a0_0, .slice A0_1 l0_1.length c0_1] 52 (0, 0)) (by (with_reducible repeat (first | refine blk_drewN ?_ _ | refine blk_drew ?_ | refine blk_alloc ?_ _)); exact BK332.out) hb); have n2_ := Aside0.mk (blk_below (g := gb333) (o := .cells #[.int .u64 0, .slice none 0 0] 52 (0, 0)) (by (with_reducible repeat (first | refine blk_drewN ?_ _ | refine blk_drew ?_ | refine blk_alloc ?_ _)); exact BK333.out) hb); have n3_ := Aside0.mk (below_step (by repeat (first | (with_reducible first | exact HB.out | apply below_alloc | apply pw_below_drewN | apply below_drew1 | refine below_set ?_ GE332.out | refine below_set ?_ GE333.out) | exact HB.out)) hb); clear HO0_1; clear BK332; clear BK333; clear HB; have HO0_1 := n0_; have BK332 := n1_; have BK333 := n2_; have HB := n3_; clear n0_ n1_ n2_ n3_; (try clear hb); (try clear hb2); (try clear hk); (try clear hi)))
      go_meet
      case rel => exact ⟨_, (true), (by first | rfl | (simp; done) | (simp [*]; done)), H', ⟨by first | omega | exact Nat.le_refl _⟩, ⟨by (with_reducible repeat (first | apply Kd.V_alloc | apply Kd.V_drewN | apply Kd.V_drew)); exact Kd.V_mono HO0_1.out (fun _ hk => ⟨hk.1.1, ⟨hk.1.2, hk.2⟩⟩)⟩, ⟨by (with_reducible repeat (first | refine blk_drewN ?_ _ | refine blk_drew ?_ | refine blk_alloc ?_ _)); exact BK332.out⟩, ⟨by (with_reducible repeat (first | refine blk_drewN ?_ _ | refine blk_drew ?_ | refine blk_alloc ?_ _)); exact BK333.out⟩, ⟨by repeat (first | (with_reducible first | exact HB.out | apply below_alloc | apply pw_below_drewN | apply below_drew1 | refine below_set ?_ GE332.out | refine below_set ?_ GE333.out) | exact HB.out)⟩⟩
  case rest =>
    clear HC5
    try clear c1
    try clear c2
    try clear p2
    try clear c9
    try clear c9b0
    try clear c9b1
    try clear c10
    try clear c10b0
    try clear c11
    try clear c14
    try clear c14b0
    try clear c15
    try clear c20
    try clear c22
    try clear c24
    try clear hcz12_0
    try clear hcz12_1
    try clear hcz16_0
    try clear hcz16_1
    try clear hcz18_0
    try clear hcz18_1
    try clear hcz21_0
    try clear hcz21_1
    try clear hcz23_0
    try clear hcz23_1
    try clear hcz25_0
    try clear hcz25_1
    try clear hfz12_0
    try clear hfz12_1
    try clear hfz16_0
    try clear hfz16_1
    try clear hfz18_0
    try clear hfz18_1
    try clear hfz21_0
    try clear hfz21_1
    try clear hfz23_0
    try clear hfz23_1
    try clear hfz25_0
    try clear hfz25_1
    obtain ⟨kq, x10_4, rfl, HA, HJ4, HO_333001, BK332, BK333, HB⟩ := hcut
    cases kq with
    | zero => exact absurd HA.out (by simp [lead_Granted.j0])
    | succ kj4 =>
      have H := HA.out
      clear HA
      simp only [lead_Granted.j0] at H
      by_cases c27 : x10_4 = true
      · subst c27
        have H1 : (some (a0_0, l0_1, 1)) = some (r1, r2, r3) := by rw [if_pos rfl] at H; exact H
        clear H
        have H := H1
        clear H1
        simp only [Option.some.injEq, Prod.mk.injEq] at H
        obtain ⟨rfl, rfl, rfl⟩ := H
        have hnb28 := NB332_333.out
        have hnc28 := NB333_332.out
        have hcz29_0 : wc.cell? ⟨gb332, 0, none⟩ = some (.int .u64 a0_0) := (blk_cell BK332.out 0).trans rfl
        have hcz29_1 : wc.cell? ⟨gb332, 1, none⟩ = some (.slice A0_1 l0_1.length c0_1) := (blk_cell BK332.out 1).trans rfl
        have hfz29_0 := blk_frozen BK332.out 0
        have hfz29_1 := blk_frozen BK332.out 1
        have hcz30_0 : wc.cell? ⟨gb333, 0, none⟩ = some (.int .u64 0) := (blk_cell BK333.out 0).trans rfl
        have hcz30_1 : wc.cell? ⟨gb333, 1, none⟩ = some (.slice none 0 0) := (blk_cell BK333.out 1).trans rfl
        have hfz30_0 := blk_frozen BK333.out 0
        have hfz30_1 := blk_frozen BK333.out 1
        go_wp2
        refine bodyPost_ret (results_ct rfl _ _ gb333 52 #[.int .u64 a0_0, .slice A0_1 l0_1.length c0_1] (0, 0) _ rfl (by (with_reducible repeat (first | refine blk_drewN ?_ _ | refine blk_drew ?_ | refine blk_alloc ?_ _)); refine blk_put (cs := #[.int .u64 a0_0, .slice none 0 0]) ?_ 1 _ rfl; (with_reducible repeat (first | refine blk_drewN ?_ _ | refine blk_drew ?_ | refine blk_alloc ?_ _)); refine blk_put (cs := #[.int .u64 0, .slice none 0 0]) ?_ 0 _ rfl; (with_reducible repeat (first | refine blk_drewN ?_ _ | refine blk_drew ?_ | refine blk_alloc ?_ _)); exact BK333.out) Try.underlying52 rfl (by kernel_rfl)) rfl ?_
        exact ⟨_, by first | rfl | (simp [errW_none, errW_some] <;> rfl) | (simp [*, errW_none, errW_some] <;> rfl), by (with_reducible repeat (first | apply Kd.V_alloc | apply Kd.V_drewN | apply Kd.V_drew)); exact Kd.V_mono (Kd.V_far (p := ⟨gb333, 1, none⟩) (Kd.V_far (p := ⟨gb333, 0, none⟩) (Kd.V_mono HO_333001.out (fun k_ hk => (⟨hk, hk.2.2⟩ : _ ∧ k_ ≠ gb333))) (fun _ hk => hk.2) (.int .u64 a0_0)) (fun _ hk => hk.2) (.slice A0_1 l0_1.length c0_1)) (fun _ hk => hk.1.1), by repeat (first | (with_reducible first | exact HB.out | apply below_alloc | apply pw_below_drewN | apply below_drew1 | refine below_set ?_ GE332.out | refine below_set ?_ GE333.out) | exact HB.out)⟩
      · replace c27 := Bool.eq_false_iff.mpr c27
        subst c27
        have H1 : (if a2 = a0_0 then ((slices_Clone_int64_int64.f l0_1).bind fun t336 => (if 0 ≤ a1 then (if a1 < (t336.length : Int) then (some (a0_0, (t336.set (a1 : Int).toNat (mx (rd t336 a1) a3)), 0)) else (none)) else (none))) else (some (a0_0, l0_1, 8))) = some (r1, r2, r3) := by rw [if_neg (show ¬ (false = true) by decide)] at H; exact H
        clear H
        have H := H1
        clear H1
        by_cases c31 : a2 = a0_0
        · rw [if_pos c31] at H
          have c31b0 : (a2 == a0_0) = true := beq_iff_eq.mpr c31
          have c31b1 : (a2 != a0_0) = false := bne_eq_false_iff_eq.mpr c31
          clear c31
          replace H := Option.bind_eq_some_iff.mp H
          obtain ⟨t336, A320, H⟩ := H
          replace H : (if 0 ≤ a1 then (if a1 < (t336.length : Int) then (some (a0_0, (t336.set (a1 : Int).toNat (mx (rd t336 a1) a3)), 0)) else (none)) else (none)) = some (r1, r2, r3) := H
          have A32 := Aside0.mk A320
          clear A320
          by_cases c33 : 0 ≤ a1
          · rw [if_pos c33] at H
            have c33b0 : decide (0 ≤ a1) = true := decide_eq_true c33
            clear c33
            by_cases c34 : a1 < (t336.length : Int)
            · rw [if_pos c34] at H
              have c34b0 : decide (a1 < (t336.length : Int)) = true := decide_eq_true c34
              clear c34
              obtain ⟨ji35, hji35⟩ : ∃ j_ : Int, (mx (rd t336 a1) a3) = j_ := ⟨_, rfl⟩
              replace H : (some (a0_0, (t336.set (a1 : Int).toNat (ji35)), 0)) = some (r1, r2, r3) := by first | (rw [hji35] at H; exact H) | (simp only [hji35] at H ⊢; exact H)
              (try rw [hji35] at A32)
              have hji35_ : (if (rd t336 a1) < a3 then a3 else (rd t336 a1)) = ji35 := hji35
              obtain ⟨y340, hy340⟩ : ∃ y_ : List Int, y_ = (t336.set (a1 : Int).toNat (ji35)) := ⟨_, rfl⟩
              replace H : (some (a0_0, y340, 0)) = some (r1, r2, r3) := by first | (rw [hy340]; with_reducible exact H) | (have H2_ := (Option.bind_some _ _).symm.trans H; rw [hy340]; with_reducible exact H2_) | (have H2_ := (Option.bind_some _ _).symm.trans H; with_reducible exact H2_) | with_reducible exact H | (rw [hy340]; exact H) | exact H
              have Ny340 := Aside0.mk hy340
              clear hy340
              simp only [Option.some.injEq, Prod.mk.injEq] at H
              obtain ⟨rfl, rfl, rfl⟩ := H
              have hnb37 := NB332_333.out
              have hnc37 := NB333_332.out
              have hcz38_0 : wc.cell? ⟨gb332, 0, none⟩ = some (.int .u64 a0_0) := (blk_cell BK332.out 0).trans rfl
              have hcz38_1 : wc.cell? ⟨gb332, 1, none⟩ = some (.slice A0_1 l0_1.length c0_1) := (blk_cell BK332.out 1).trans rfl
              have hfz38_0 := blk_frozen BK332.out 0
              have hfz38_1 := blk_frozen BK332.out 1
              try go_wp2_with (first | ((with_reducible refine gate_callee (f := 54) rfl ?_); refine goesL_ (some 39) rfl rfl Try.func54 (by kernel_rfl) rfl #[.slice A0_1 l0_1.length c0_1] rfl (by (try simp only [List.map_toArray, List.map_cons, List.map_nil]); first | done | rfl | (simp only [List.length_drop, List.length_take]; rfl)) ?_; (with_reducible refine (slices_Clone_int64_int64.calls _ _ l0_1 t336 _ ?side1 ?side2 A32.out).mono ?_); (case side1 => repeat (first | exact (Kd.V_reads' HO_333001.out).2.2 | (with_reducible refine Kd.C_alloc ?_ _) | (with_reducible refine Kd.C_drewN ?_ _) | (with_reducible refine Kd.C_drew ?_))); (case side2 => exact (Kd.V_reads' HO_333001.out).2.1); rintro e w39 ⟨v337, rfl, ho0, hb⟩; refine ⟨_, rfl, ?_⟩; have n0_ := Aside0.mk (Kd.V_elder' (by (with_reducible repeat (first | apply Kd.V_alloc | apply Kd.V_drewN | apply Kd.V_drew)); exact HO_333001.out) (Kd.R_base ho0) hb); have n1_ := Aside0.mk (Kd.R_lower (Kd.R_newM (M := fun k_ => (w.heap.size ≤ k_)) ho0 (below_size (by repeat (first | (with_reducible first | exact HB.out | apply below_alloc | apply pw_below_drewN | apply below_drew1 | refine below_set ?_ GE332.out | refine below_set ?_ GE333.out) | exact HB.out))) (fun k_ h_ => h_)) (below_size (by repeat (first | (with_reducible first | exact HB.out | apply below_alloc | apply pw_below_drewN | apply below_drew1 | refine below_set ?_ GE332.out | refine below_set ?_ GE333.out) | exact HB.out)))); have n2_ := Aside0.mk (blk_below (g := gb332) (o := .cells #[.int .u64 a0_0, .slice A0_1 l0_1.length c0_1] 52 (0, 0)) (by (with_reducible repeat (first | refine blk_drewN ?_ _ | refine blk_drew ?_ | refine blk_alloc ?_ _)); exact BK332.out) hb); have n3_ := Aside0.mk (blk_below (g := gb333) (o := .cells #[.int .u64 0, .slice none 0 0] 52 (0, 0)) (by (with_reducible repeat (first | refine blk_drewN ?_ _ | refine blk_drew ?_ | refine blk_alloc ?_ _)); exact BK333.out) hb); have n4_ := Aside0.mk (below_step (by repeat (first | (with_reducible first | exact HB.out | apply below_alloc | apply pw_below_drewN | apply below_drew1 | refine below_set ?_ GE332.out | refine below_set ?_ GE333.out) | exact HB.out)) hb); clear HO_333001; clear BK332; clear BK333; clear HB; have HO_333001 := n0_; have HO338 := n1_; have BK332 := n2_; have BK333 := n3_; have HB := n4_; clear n0_ n1_ n2_ n3_ n4_; (try clear hb); (try clear hb2); (try clear hk); (try clear hi); (try clear ho0); obtain ⟨Ao40, co40, eo40⟩ := Kd.R_slice HO338.out; subst eo40; have hcz41_0 : w39.cell? ⟨gb332, 0, none⟩ = some (.int .u64 a0_0) := (blk_cell BK332.out 0).trans rfl; have hcz41_1 : w39.cell? ⟨gb332, 1, none⟩ = some (.slice A0_1 l0_1.length c0_1) := (blk_cell BK332.out 1).trans rfl; have hfz41_0 := blk_frozen BK332.out 0; have hfz41_1 := blk_frozen BK332.out 1))
              have n0_ : Aside0 (Kd.V (Kd.int .i64) 2 (w39.setCell ⟨gb332, 1, none⟩ (.slice Ao40 t336.length co40)) w.heap.size (fun k_ => (P0_1_ k_ ∨ w.heap.size ≤ k_) ∧ some k_ ≠ (.slice Ao40 t336.length co40 : Value).ownBlock ∧ k_ ≠ gb332 ∧ k_ ≠ gb333) (.slice A0_1 l0_1.length c0_1) l0_1) := ⟨by (with_reducible repeat (first | apply Kd.V_alloc | apply Kd.V_drewN | apply Kd.V_drew)); exact Kd.V_mono (Kd.V_far (p := ⟨gb332, 1, none⟩) (Kd.V_mono HO_333001.out (fun k_ hk => (⟨hk, hk.1.2.1⟩ : _ ∧ k_ ≠ gb332))) (fun _ hk => hk.2) (.slice Ao40 t336.length co40)) (fun _ hk => ⟨hk.1.1.1, ⟨hk.1.2, ⟨hk.1.1.2.1, hk.1.1.2.2⟩⟩⟩)⟩
              have n1_ : Aside0 (Kd.R (Kd.int .i64) 2 (w39.setCell ⟨gb332, 1, none⟩ (.slice Ao40 t336.length co40)) w.heap.size (fun k_ => (w.heap.size ≤ k_)) (.slice Ao40 t336.length co40) t336) := ⟨by (with_reducible repeat (first | apply Kd.R_alloc | apply Kd.R_drewN | apply Kd.R_drew)); exact Kd.R_mono (Kd.R_far (p := ⟨gb332, 1, none⟩) (Kd.R_types HO338.out BK332.out (by decide)) (fun _ hk => hk.2) (.slice Ao40 t336.length co40)) (fun _ hk => hk.1.1)⟩
              have n2_ : Aside0 ((w39.setCell ⟨gb332, 1, none⟩ (.slice Ao40 t336.length co40)).heap[gb332]? = some (.cells #[.int .u64 a0_0, .slice Ao40 t336.length co40] 52 (0, 0))) := ⟨by (with_reducible repeat (first | refine blk_drewN ?_ _ | refine blk_drew ?_ | refine blk_alloc ?_ _)); refine blk_put (cs := #[.int .u64 a0_0, .slice A0_1 l0_1.length c0_1]) ?_ 1 _ rfl; (with_reducible repeat (first | refine blk_drewN ?_ _ | refine blk_drew ?_ | refine blk_alloc ?_ _)); exact BK332.out⟩
              have n3_ : Aside0 ((w39.setCell ⟨gb332, 1, none⟩ (.slice Ao40 t336.length co40)).heap[gb333]? = some (.cells #[.int .u64 0, .slice none 0 0] 52 (0, 0))) := ⟨by (with_reducible repeat (first | refine blk_drewN ?_ _ | refine blk_drew ?_ | refine blk_alloc ?_ _)); refine blk_far ?_ NB333_332.out _; (with_reducible repeat (first | refine blk_drewN ?_ _ | refine blk_drew ?_ | refine blk_alloc ?_ _)); exact BK333.out⟩
              have n4_ : Aside0 (Below w.heap.size w (w39.setCell ⟨gb332, 1, none⟩ (.slice Ao40 t336.length co40))) := ⟨by repeat (first | (with_reducible first | exact HB.out | apply below_alloc | apply pw_below_drewN | apply below_drew1 | refine below_set ?_ GE332.out | refine below_set ?_ GE333.out) | exact HB.out)⟩
              (try clear HO_333001)
              (try clear HO338)
              (try clear BK332)
              (try clear BK333)
              (try clear HB)
              generalize (w39.setCell ⟨gb332, 1, none⟩ (.slice Ao40 t336.length co40)) = w42 at n0_ n1_ n2_ n3_ n4_ ⊢
              have HO_333001 := n0_
              have HO338 := n1_
              have BK332 := n2_
              have BK333 := n3_
              have HB := n4_
              clear n0_ n1_ n2_ n3_ n4_
              have n0_ := Aside0.mk (Kd.V_drew HO_333001.out)
              have n1_ := Aside0.mk (Kd.R_drew HO338.out)
              have n2_ := Aside0.mk (blk_drew BK332.out)
              have n3_ := Aside0.mk (blk_drew BK333.out)
              have n4_ := Aside0.mk (below_drew1 HB.out)
              clear HO_333001
              clear HO338
              clear BK332
              clear BK333
              clear HB
              have HO_333001 := n0_
              have HO338 := n1_
              have BK332 := n2_
              have BK333 := n3_
              have HB := n4_
              clear n0_ n1_ n2_ n3_ n4_
              have p339 : 0 ≤ (a1 : Int) := of_decide_eq_true (by first | (with_reducible assumption) | assumption)
              have q339 : a1 < (t336.length : Int) := of_decide_eq_true (by first | (with_reducible assumption) | assumption)
              obtain ⟨ad339, e339, hx339_0⟩ := Kd.at_int (Kd.R_reads' HO338.out).2.2 a1 p339 q339
              cases e339
              replace p339 := eq_true p339
              replace q339 := eq_true q339
              have p36 : 0 ≤ (a1 : Int) := of_decide_eq_true (by first | (with_reducible assumption) | assumption)
              have q36 : (a1 : Int) < ((t336.length : Int) : Int) := of_decide_eq_true (by first | (with_reducible assumption) | assumption)
              obtain ⟨go36, co36, eo36, gb36, gl36, cl36, HG36⟩ := Kd.R_form HO338.out (by omega)
              (first | cases eo36 | (injection eo36 with ea_ en_ ec_; (first | subst ea_ | (injection ea_ with ea_; subst ea_)); subst ec_; clear en_))
              have GB36 := Aside0.mk gb36
              have GG36 := Aside0.mk HG36
              clear gb36 gl36 HG36
              (first | simp only [add_plain] at hx339_0 | skip)
              obtain ⟨hx36_0, hf36_0⟩ := Kd.R_celln 0 HO338.out (a1 : Int) p36 q36
              replace p36 := eq_true p36
              replace q36 := eq_true q36
              have HP44 := Kd.R_putn HO338.out (a1 : Int) ji35
              rw [← Ny340.out] at HP44
              have HQ44 := Aside0.mk HP44
              clear HP44
              refine start_ (n := 12) (S := fun w' => w'.cell? ⟨gb332, 0, none⟩ = some (.int .u64 a0_0) ∧ w'.cell? ⟨gb332, 1, none⟩ = some (.slice (some ⟨go36, 0, none⟩) t336.length co40) ∧ w'.cell? ⟨go36, (a1).toNat, none⟩ = some (.int .i64 (rd t336 a1))) (ds := [11]) #[false, false, false, false, false, false, false, false, false, false, false, false] (by kernel_rfl) rfl rfl ⟨(blk_cell BK332.out 0).trans rfl, (blk_cell BK332.out 1).trans rfl, hx339_0⟩ (fun hHeld => ?_); refine with_tabW lead_Granted.tab6 lead_Granted.bits6 (fun HT_ HW_ => ?_)
              generalize w42.drew = w43 at HO_333001 HO338 BK332 BK333 HB GG36 HQ44 hf36_0 hx339_0 hx36_0 hHeld ⊢
              refine pure_ (i := 0) (N := some 41) (v := ?_) (a' := ?_) #[true, false, false, false, false, false, false, false, false, false, false, false] rfl rfl (any_of HT_.out (by kernel_rfl)) (fun _ _ _ h => h) (Or.inl ⟨by rfl, ?_⟩) ?_ ?_
              rotate_left
              · intro w'
                go_simp
                with_reducible rfl
              rotate_left
              · simp only [Act.put, List.setIfInBounds_toArray, List.set_cons_zero, List.set_cons_succ, i64_w, i32_w]
                rfl
              refine pure_ (i := 2) (N := some 43) (v := ?_) (a' := ?_) #[true, false, true, false, false, false, false, false, false, false, false, false] rfl rfl (any_of HT_.out (by kernel_rfl)) (fun _ _ _ h => h) (Or.inl ⟨by rfl, ?_⟩) ?_ ?_
              rotate_left
              · intro w'
                go_simp
                with_reducible rfl
              rotate_left
              · simp only [Act.put, List.setIfInBounds_toArray, List.set_cons_zero, List.set_cons_succ, i64_w, i32_w]
                rfl
              refine pure_ (i := 3) (N := some 44) (v := ?_) (a' := ?_) #[true, false, true, true, false, false, false, false, false, false, false, false] rfl rfl (any_of HT_.out (by kernel_rfl)) (fun _ _ _ h => h) (Or.inl ⟨by rfl, ?_⟩) ?_ ?_
              rotate_left
              · intro w'
                go_simp
                with_reducible rfl
              rotate_left
              · simp only [Act.put, List.setIfInBounds_toArray, List.set_cons_zero, List.set_cons_succ, i64_w, i32_w]
                rfl
              refine pure_ (i := 5) (N := some 46) (v := ?_) (a' := ?_) #[true, false, true, true, false, true, false, false, false, false, false, false] rfl rfl (any_of HT_.out (by kernel_rfl)) (fun _ _ _ h => h) (Or.inl ⟨by rfl, ?_⟩) ?_ ?_
              rotate_left
              · intro w'
                go_simp
                with_reducible rfl
              rotate_left
              · simp only [Act.put, List.setIfInBounds_toArray, List.set_cons_zero, List.set_cons_succ, i64_w, i32_w]
                rfl
              refine pure_ (i := 8) (N := some 49) (v := ?_) (a' := ?_) #[true, false, true, true, false, true, false, false, true, false, false, false] rfl rfl (any_of HT_.out (by kernel_rfl)) (fun _ _ _ h => h) (Or.inl ⟨by rfl, ?_⟩) ?_ ?_
              rotate_left
              · intro w'
                go_simp
                with_reducible rfl
              rotate_left
              · simp only [Act.put, List.setIfInBounds_toArray, List.set_cons_zero, List.set_cons_succ, i64_w, i32_w]
                rfl
              refine take_ (i := 1) (N := some 42) (v := ?_) (a' := ?_) #[true, true, true, true, false, true, false, false, true, false, false, false] rfl rfl (take_ofW HT_.out HW_.out (by kernel_rfl)) (fun _ _ _ h => h) (Or.inl ⟨by rfl, ?_⟩) hHeld ?_ ?_
              rotate_left
              · rintro w' ⟨s0, s1, s2⟩
                go_simp
                with_reducible rfl
              rotate_left
              · simp only [Act.put, List.setIfInBounds_toArray, List.set_cons_zero, List.set_cons_succ, i64_w, i32_w]
                rfl
              refine take_ (i := 4) (N := some 45) (v := ?_) (a' := ?_) #[true, true, true, true, true, true, false, false, true, false, false, false] rfl rfl (take_ofW HT_.out HW_.out (by kernel_rfl)) (fun _ _ _ h => h) (Or.inl ⟨by rfl, ?_⟩) hHeld ?_ ?_
              rotate_left
              · rintro w' ⟨s0, s1, s2⟩
                go_simp
                with_reducible rfl
              rotate_left
              · simp only [Act.put, List.setIfInBounds_toArray, List.set_cons_zero, List.set_cons_succ, i64_w, i32_w]
                rfl
              refine pure_ (i := 6) (N := some 47) (v := ?_) (a' := ?_) #[true, true, true, true, true, true, true, false, true, false, false, false] rfl rfl (any_of HT_.out (by kernel_rfl)) (fun _ _ _ h => h) (Or.inl ⟨by rfl, ?_⟩) ?_ ?_
              rotate_left
              · intro w'
                go_simp
                with_reducible rfl
              rotate_left
              · simp only [Act.put, List.setIfInBounds_toArray, List.set_cons_zero, List.set_cons_succ, i64_w, i32_w]
                rfl
              refine take_ (i := 7) (N := some 48) (v := ?_) (a' := ?_) #[true, true, true, true, true, true, true, true, true, false, false, false] rfl rfl (take_ofW HT_.out HW_.out (by kernel_rfl)) (fun _ _ _ h => h) (Or.inl ⟨by rfl, ?_⟩) hHeld ?_ ?_
              rotate_left
              · rintro w' ⟨s0, s1, s2⟩
                go_simp
                with_reducible rfl
              rotate_left
              · simp only [Act.put, List.setIfInBounds_toArray, List.set_cons_zero, List.set_cons_succ, i64_w, i32_w]
                rfl
              refine pure_ (i := 9) (N := some 50) (v := ?_) (a' := ?_) #[true, true, true, true, true, true, true, true, true, true, false, false] rfl rfl (any_of HT_.out (by kernel_rfl)) (fun _ _ _ h => h) (Or.inl ⟨by rfl, ?_⟩) ?_ ?_
              rotate_left
              · intro w'
                go_simp
                with_reducible rfl
              rotate_left
              · simp only [Act.put, List.setIfInBounds_toArray, List.set_cons_zero, List.set_cons_succ, i64_w, i32_w]
                rfl
              refine pure_ (i := 10) (N := some 51) (v := ?_) (a' := ?_) #[true, true, true, true, true, true, true, true, true, true, true, false] rfl rfl (any_of HT_.out (by kernel_rfl)) (fun _ _ _ h => h) (Or.inl ⟨by rfl, ?_⟩) ?_ ?_
              rotate_left
              · intro w'
                go_simp
                with_reducible rfl
              rotate_left
              · simp only [Act.put, List.setIfInBounds_toArray, List.set_cons_zero, List.set_cons_succ, i64_w, i32_w]
                rfl
              refine last_ (i := 11) (N := none) #[true, true, true, true, true, true, true, true, true, true, true, true] rfl rfl (one_of HT_.out (by kernel_rfl)) (by decide) (fun K hK => ?_)
              refine skip_ (w1 := ?_) (by rfl) rfl ?_ ?_
              rotate_left
              · go_simp
                rfl
              refine hK.out _ _ ?_
              clear hK K
              refine done_ (done_of HT_.out (by kernel_rfl)) ?_
              have n0_ : Aside0 (Kd.V (Kd.int .i64) 2 (w43.setCell ⟨go36, (a1 : Int).toNat, none⟩ (.int .i64 ji35)) w.heap.size (fun k_ => (P0_1_ k_ ∨ w.heap.size ≤ k_) ∧ some k_ ≠ (.slice (some ⟨go36, 0, none⟩) t336.length co40 : Value).ownBlock ∧ k_ ≠ gb332 ∧ k_ ≠ gb333) (.slice A0_1 l0_1.length c0_1) l0_1) := ⟨by (with_reducible repeat (first | apply Kd.V_alloc | apply Kd.V_drewN | apply Kd.V_drew)); exact Kd.V_mono (Kd.V_far (p := ⟨go36, (a1 : Int).toNat, none⟩) (Kd.V_mono HO_333001.out (fun k_ hk => (⟨hk, fun e_ => hk.2.1 (by rw [e_]; rfl)⟩ : _ ∧ k_ ≠ go36))) (fun _ hk => hk.2) (.int .i64 ji35)) (fun _ hk => ⟨hk.1.1, ⟨hk.1.2.1, ⟨hk.1.2.2.1, hk.1.2.2.2⟩⟩⟩)⟩
              have n1_ : Aside0 (Kd.R (Kd.int .i64) 2 (w43.setCell ⟨go36, (a1 : Int).toNat, none⟩ (.int .i64 ji35)) w.heap.size (fun k_ => (w.heap.size ≤ k_)) (.slice (some ⟨go36, 0, none⟩) t336.length co40) y340) := ⟨by (with_reducible repeat (first | apply Kd.R_alloc | apply Kd.R_drewN | apply Kd.R_drew)); exact HQ44.out⟩
              have n2_ : Aside0 ((w43.setCell ⟨go36, (a1 : Int).toNat, none⟩ (.int .i64 ji35)).heap[gb332]? = some (.cells #[.int .u64 a0_0, .slice (some ⟨go36, 0, none⟩) t336.length co40] 52 (0, 0))) := ⟨by (with_reducible repeat (first | refine blk_drewN ?_ _ | refine blk_drew ?_ | refine blk_alloc ?_ _)); refine blk_far ?_ (by have h_ := Kd.R_ne HO338.out BK332.out (by decide); intro e_; exact h_ (by rw [e_]; rfl)) _; (with_reducible repeat (first | refine blk_drewN ?_ _ | refine blk_drew ?_ | refine blk_alloc ?_ _)); exact BK332.out⟩
              have n3_ : Aside0 ((w43.setCell ⟨go36, (a1 : Int).toNat, none⟩ (.int .i64 ji35)).heap[gb333]? = some (.cells #[.int .u64 0, .slice none 0 0] 52 (0, 0))) := ⟨by (with_reducible repeat (first | refine blk_drewN ?_ _ | refine blk_drew ?_ | refine blk_alloc ?_ _)); refine blk_far ?_ (by have h_ := Kd.R_ne HO338.out BK333.out (by decide); intro e_; exact h_ (by rw [e_]; rfl)) _; (with_reducible repeat (first | refine blk_drewN ?_ _ | refine blk_drew ?_ | refine blk_alloc ?_ _)); exact BK333.out⟩
              have n4_ : Aside0 (Below w.heap.size w (w43.setCell ⟨go36, (a1 : Int).toNat, none⟩ (.int .i64 ji35))) := ⟨by repeat (first | (with_reducible first | exact HB.out | apply below_alloc | apply pw_below_drewN | apply below_drew1 | refine below_set ?_ GB36.out | refine below_set ?_ GE332.out | refine below_set ?_ GE333.out) | exact HB.out)⟩
              (try clear HO_333001)
              (try clear HO338)
              (try clear BK332)
              (try clear BK333)
              (try clear HB)
              generalize (w43.setCell ⟨go36, (a1 : Int).toNat, none⟩ (.int .i64 ji35)) = w45 at n0_ n1_ n2_ n3_ n4_ ⊢
              have HO_333001 := n0_
              have HO338 := n1_
              have BK332 := n2_
              have BK333 := n3_
              have HB := n4_
              clear n0_ n1_ n2_ n3_ n4_
              have hcz46_0 : w45.cell? ⟨gb332, 0, none⟩ = some (.int .u64 a0_0) := (blk_cell BK332.out 0).trans rfl
              have hcz46_1 : w45.cell? ⟨gb332, 1, none⟩ = some (.slice (some ⟨go36, 0, none⟩) t336.length co40) := (blk_cell BK332.out 1).trans rfl
              have hfz46_0 := blk_frozen BK332.out 0
              have hfz46_1 := blk_frozen BK332.out 1
              have hcz47_0 : w45.cell? ⟨gb333, 0, none⟩ = some (.int .u64 0) := (blk_cell BK333.out 0).trans rfl
              have hcz47_1 : w45.cell? ⟨gb333, 1, none⟩ = some (.slice none 0 0) := (blk_cell BK333.out 1).trans rfl
              have hfz47_0 := blk_frozen BK333.out 0
              have hfz47_1 := blk_frozen BK333.out 1
              try go_wp2
              refine bodyPost_ret (results_ct rfl _ _ gb333 52 #[.int .u64 a0_0, .slice (some ⟨go36, 0, none⟩) t336.length co40] (0, 0) _ rfl (by (with_reducible repeat (first | refine blk_drewN ?_ _ | refine blk_drew ?_ | refine blk_alloc ?_ _)); refine blk_put (cs := #[.int .u64 a0_0, .slice none 0 0]) ?_ 1 _ rfl; (with_reducible repeat (first | refine blk_drewN ?_ _ | refine blk_drew ?_ | refine blk_alloc ?_ _)); refine blk_put (cs := #[.int .u64 0, .slice none 0 0]) ?_ 0 _ rfl; (with_reducible repeat (first | refine blk_drewN ?_ _ | refine blk_drew ?_ | refine blk_alloc ?_ _)); exact BK333.out) Try.underlying52 rfl (by kernel_rfl)) rfl ?_
              exact ⟨_, by first | rfl | (simp [errW_none, errW_some] <;> rfl) | (simp only [← hji35]; first | rfl | (simp [errW_none, errW_some] <;> rfl)) | (simp [*, errW_none, errW_some] <;> rfl), Kd.V_mono (Kd.R_V (by (with_reducible repeat (first | apply Kd.R_alloc | apply Kd.R_drewN | apply Kd.R_drew)); exact Kd.R_mono (Kd.R_far (p := ⟨gb333, 1, none⟩) (Kd.R_far (p := ⟨gb333, 0, none⟩) (Kd.R_types HO338.out BK333.out (by decide)) (fun _ hk => hk.2) (.int .u64 a0_0)) (fun _ hk => hk.2) (.slice (some ⟨go36, 0, none⟩) t336.length co40)) (fun _ hk => hk.1))) (fun k_ hk => by first | exact ⟨(.inr (hk.1)), hk.2⟩ | exact (.inr (hk))), by repeat (first | (with_reducible first | exact HB.out | apply below_alloc | apply pw_below_drewN | apply below_drew1 | refine below_set ?_ GE332.out | refine below_set ?_ GE333.out) | exact HB.out)⟩
            · rw [if_neg c34] at H
              exact absurd H (by simp)
          · rw [if_neg c33] at H
            exact absurd H (by simp)
        · rw [if_neg c31] at H
          have c31b0 : (a2 == a0_0) = false := beq_eq_false_iff_ne.mpr c31
          have c31b1 : (a2 != a0_0) = true := bne_iff_ne.mpr c31
          simp only [Option.some.injEq, Prod.mk.injEq] at H
          obtain ⟨rfl, rfl, rfl⟩ := H
          have hnb48 := NB332_333.out
          have hnc48 := NB333_332.out
          have hcz49_0 : wc.cell? ⟨gb332, 0, none⟩ = some (.int .u64 a0_0) := (blk_cell BK332.out 0).trans rfl
          have hcz49_1 : wc.cell? ⟨gb332, 1, none⟩ = some (.slice A0_1 l0_1.length c0_1) := (blk_cell BK332.out 1).trans rfl
          have hfz49_0 := blk_frozen BK332.out 0
          have hfz49_1 := blk_frozen BK332.out 1
          have hcz50_0 : wc.cell? ⟨gb333, 0, none⟩ = some (.int .u64 0) := (blk_cell BK333.out 0).trans rfl
          have hcz50_1 : wc.cell? ⟨gb333, 1, none⟩ = some (.slice none 0 0) := (blk_cell BK333.out 1).trans rfl
          have hfz50_0 := blk_frozen BK333.out 0
          have hfz50_1 := blk_frozen BK333.out 1
          go_wp2
          refine bodyPost_ret (results_ct rfl _ _ gb333 52 #[.int .u64 a0_0, .slice A0_1 l0_1.length c0_1] (0, 0) _ rfl (by (with_reducible repeat (first | refine blk_drewN ?_ _ | refine blk_drew ?_ | refine blk_alloc ?_ _)); refine blk_put (cs := #[.int .u64 a0_0, .slice none 0 0]) ?_ 1 _ rfl; (with_reducible repeat (first | refine blk_drewN ?_ _ | refine blk_drew ?_ | refine blk_alloc ?_ _)); refine blk_put (cs := #[.int .u64 0, .slice none 0 0]) ?_ 0 _ rfl; (with_reducible repeat (first | refine blk_drewN ?_ _ | refine blk_drew ?_ | refine blk_alloc ?_ _)); exact BK333.out) Try.underlying52 rfl (by kernel_rfl)) rfl ?_
          exact ⟨_, by first | rfl | (simp [errW_none, errW_some] <;> rfl) | (simp [*, errW_none, errW_some] <;> rfl), by (with_reducible repeat (first | apply Kd.V_alloc | apply Kd.V_drewN | apply Kd.V_drew)); exact Kd.V_mono (Kd.V_far (p := ⟨gb333, 1, none⟩) (Kd.V_far (p := ⟨gb333, 0, none⟩) (Kd.V_mono HO_333001.out (fun k_ hk => (⟨hk, hk.2.2⟩ : _ ∧ k_ ≠ gb333))) (fun _ hk => hk.2) (.int .u64 a0_0)) (fun _ hk => hk.2) (.slice A0_1 l0_1.length c0_1)) (fun _ hk => hk.1.1), by repeat (first | (with_reducible first | exact HB.out | apply below_alloc | apply pw_below_drewN | apply below_drew1 | refine below_set ?_ GE332.out | refine below_set ?_ GE333.out) | exact HB.out)⟩

end Go.Proofs.Ytgfblogneggpmaa.Fn
