-- Written by program (a turned copy of the kit's print) for this seat: functions, contracts. Lean checks it.
import Derived.Test.YtahppppkepcbkaaFnx0
import Derived.Test.YtahppppkepcbkaaFnx2
import Derived.Test.YtahppppkepcbkaaFnx3
import Derived.Test.YtahppppkepcbkaaExPlayed
namespace Go.Proofs.Ytahppppkepcbkaa.Fn
open Go.RowKit Go.Proofs.YtahppppkepcbkaaW.PrintWords Go.Proofs.YtahppppkepcbkaaW.PrintLast Go.Proofs.YtahppppkepcbkaaW.PrintMore
attribute [local go_sem] max2_int min2_int max_two min_two max_three min_three max_four min_four   -- for this text's walks alone
set_option linter.unusedVariables false
set_option linter.unusedSimpArgs false

/-! ### clock_Far: function 22 -/
mutual
def clock_Far.j0 : Nat → Int → List (S87) → Int → Int → Bool → List (List Int) → List (List Int) → Option (Int × Int)
  | 0, _, _, _, _, _, _, _ => none
  | k + 1, x0, x1, x2, x3, x26, x125000, x125001 => if x26 = true then (some (0, 1)) else (clock_Far.l0 k x0 x1 x2 x3 0 x125000 x125001)
def clock_Far.l0 : Nat → Int → List (S87) → Int → Int → Int → List (List Int) → List (List Int) → Option (Int × Int)
  | 0, _, _, _, _, _, _, _ => none
  | k + 1, x0, x1, x2, x3, x12, x125000, x125001 => if x12 < (x1.length : Int) then ((clock_history_near.f k x125000 x125001 x0 (wrap64 (x12 + 1)) x2 x3).bind fun t126 => (if t126 = true then (clock_Far.l0 k x0 x1 x2 x3 (wrap64 (x12 + 1)) x125000 x125001) else (some (x12, 0)))) else (some (x12, 0))
end
def clock_Far.f (k : Nat) (a0 : Int) (l1 : List (S87)) (a2 : Int) (a3 : Int) : Option (Int × Int) := (clock_played.f a0 l1).bind fun bt117 => (if bt117.2.2 = true then ((clock_bound.f a2 a3).bind fun t125 => (clock_Far.j0 k a0 l1 a2 a3 (!t125) bt117.1 bt117.2.1)) else (clock_Far.j0 k a0 l1 a2 a3 true bt117.1 bt117.2.1))
theorem clock_Far.mono_l : ∀ k, (∀ y0 y1 y2 y3 y4 y5 y6, LeO (clock_Far.j0 k y0 y1 y2 y3 y4 y5 y6) (clock_Far.j0 (k + 1) y0 y1 y2 y3 y4 y5 y6)) ∧ (∀ y0 y1 y2 y3 y4 y5 y6, LeO (clock_Far.l0 k y0 y1 y2 y3 y4 y5 y6) (clock_Far.l0 (k + 1) y0 y1 y2 y3 y4 y5 y6))
  | 0 => ⟨fun _ _ _ _ _ _ _ r h => by simp [clock_Far.j0] at h, fun _ _ _ _ _ _ _ r h => by simp [clock_Far.l0] at h⟩
  | k + 1 => by
    obtain ⟨ih0, ih1⟩ := clock_Far.mono_l k
    refine ⟨?_, ?_⟩
    · intro y0 y1 y2 y3 y4 y5 y6
      unfold clock_Far.j0
      repeat' first
      | (with_reducible exact ih0 _ _ _ _ _ _ _)
      | (with_reducible exact ih1 _ _ _ _ _ _ _)
      | (with_reducible exact clock_history_near.mono _ _ _ _ _ _ _)
      | (with_reducible exact LeO.refl _)
      | (with_reducible exact LeO.none _)
      | (with_reducible refine LeO.ite ?_ ?_)
      | (with_reducible refine LeO.bind ?_ (fun _ => ?_))
      | exact ih0 _ _ _ _ _ _ _
      | exact ih1 _ _ _ _ _ _ _
      | exact clock_history_near.mono _ _ _ _ _ _ _
      | exact LeO.none _
      | refine LeO.ite ?_ ?_
      | refine LeO.bind ?_ (fun _ => ?_)
    · intro y0 y1 y2 y3 y4 y5 y6
      unfold clock_Far.l0
      repeat' first
      | (with_reducible exact ih0 _ _ _ _ _ _ _)
      | (with_reducible exact ih1 _ _ _ _ _ _ _)
      | (with_reducible exact clock_history_near.mono _ _ _ _ _ _ _)
      | (with_reducible exact LeO.refl _)
      | (with_reducible exact LeO.none _)
      | (with_reducible refine LeO.ite ?_ ?_)
      | (with_reducible refine LeO.bind ?_ (fun _ => ?_))
      | exact ih0 _ _ _ _ _ _ _
      | exact ih1 _ _ _ _ _ _ _
      | exact clock_history_near.mono _ _ _ _ _ _ _
      | exact LeO.none _
      | refine LeO.ite ?_ ?_
      | refine LeO.bind ?_ (fun _ => ?_)
theorem clock_Far.mono : ∀ a0 a1 a2 a3 k, LeO (clock_Far.f k a0 a1 a2 a3) (clock_Far.f (k + 1) a0 a1 a2 a3) := by
  intro a0 a1 a2 a3 k
  obtain ⟨ih0, ih1⟩ := clock_Far.mono_l k
  unfold clock_Far.f
  repeat' first
      | (with_reducible exact ih0 _ _ _ _ _ _ _)
      | (with_reducible exact ih1 _ _ _ _ _ _ _)
      | (with_reducible exact clock_history_near.mono _ _ _ _ _ _ _)
      | (with_reducible exact LeO.refl _)
      | (with_reducible exact LeO.none _)
      | (with_reducible refine LeO.ite ?_ ?_)
      | (with_reducible refine LeO.bind ?_ (fun _ => ?_))
      | exact ih0 _ _ _ _ _ _ _
      | exact ih1 _ _ _ _ _ _ _
      | exact clock_history_near.mono _ _ _ _ _ _ _
      | exact LeO.none _
      | refine LeO.ite ?_ ?_
      | refine LeO.bind ?_ (fun _ => ?_)
set_option maxHeartbeats 8000000 in
set_option maxRecDepth 100000 in
theorem clock_Far.calls (k : Nat) (a0 : Int) (A1 : Option Addr) (c1 : Nat) (l1 : List (S87)) (a2 : Int) (a3 : Int) (r1 : Int) (r2 : Int) (w : World) (hr1 : Kd.C k87 w A1 l1.length l1) (hc1 : l1.length ≤ c1) (h : clock_Far.f k a0 l1 a2 a3 = some (r1, r2)) :
    Calls Try.prog 22 #[.int .i64 a0, .slice A1 l1.length c1, .int .i64 a2, .int .i64 a3] w fun e w' => e = .returned (.tuple #[.int .i64 r1, .int .i64 r2]) ∧ Below w.heap.size w w' := by
  have hu81 := Try.underlying81
  have HR1 := Aside0.mk hr1
  have HC1 := Aside0.mk hc1
  clear hr1 hc1
  have HB := Aside0.mk (Below.refl w.heap.size w)
  have H : ((clock_played.f a0 l1).bind fun bt117 => (if bt117.2.2 = true then ((clock_bound.f a2 a3).bind fun t125 => (clock_Far.j0 k a0 l1 a2 a3 (!t125) bt117.1 bt117.2.1)) else (clock_Far.j0 k a0 l1 a2 a3 true bt117.1 bt117.2.1))) = some (r1, r2) := h
  clear h
  replace H := Option.bind_eq_some_iff.mp H
  obtain ⟨⟨t117, t120, t123⟩, A50, H⟩ := H
  replace H : (if t123 = true then ((clock_bound.f a2 a3).bind fun t125 => (clock_Far.j0 k a0 l1 a2 a3 (!t125) t117 t120)) else (clock_Far.j0 k a0 l1 a2 a3 true t117 t120)) = some (r1, r2) := H
  have A5 := Aside0.mk A50
  clear A50
  have HC6 := Aside0.mk H
  clear H
  go_enter Try.func22, Try.ntmps22
  go_upto_region 2 with (first | ((with_reducible refine gate_callee (f := 45) rfl ?_); refine goesL_ (some 16) rfl rfl Try.func45 (by kernel_rfl) rfl #[.int .i64 a0, .slice A1 l1.length c1] rfl (by (try simp only [List.map_toArray, List.map_cons, List.map_nil]); first | done | rfl | (simp only [List.length_drop, List.length_take]; rfl)) ?_; (with_reducible refine (clock_played.calls a0 _ _ l1 t117 t120 t123 _ ?side1 ?side2 A5.out).mono ?_); (case side1 => repeat (first | exact HR1.out | (with_reducible refine Kd.C_alloc ?_ _) | (with_reducible refine Kd.C_drewN ?_ _) | (with_reducible refine Kd.C_drew ?_))); (case side2 => exact HC1.out); rintro e w7 ⟨v118, v121, rfl, ho0, ho1, hb⟩; refine ⟨_, rfl, ?_⟩; have n0_ := Aside0.mk (Kd.S_lower ho0 (below_size (by repeat (first | (with_reducible first | exact HB.out | apply below_alloc | apply pw_below_drewN | apply below_drew1) | exact HB.out)))); have n1_ := Aside0.mk (Kd.S_lower ho1 (below_size (by repeat (first | (with_reducible first | exact HB.out | apply below_alloc | apply pw_below_drewN | apply below_drew1) | exact HB.out)))); have n2_ := Aside0.mk (below_step (by repeat (first | (with_reducible first | exact HB.out | apply below_alloc | apply pw_below_drewN | apply below_drew1) | exact HB.out)) hb); clear HB; have HO119 := n0_; have HO122 := n1_; have HB := n2_; clear n0_ n1_ n2_; (try clear hb); (try clear hb2); (try clear hk); (try clear hi); (try clear ho0); (try clear ho1)) | ((with_reducible refine gate_dst (N := 10) rfl ?_); refine box_event ?hg (N := 10) ?hd (cs := #[.slice none 0 0, .slice none 0 0]) (t := 81) ?hr ?_; (case hd => rfl); (case hg => rfl); (case hr => first | (go_simp; done) | (go_simp; rfl)); intro gb124 hg w8 hbox hb; have n0_ := Aside0.mk (Kd.S_below (by (with_reducible repeat (first | apply Kd.S_alloc | apply Kd.S_drewN | apply Kd.S_drew)); exact HO119.out) hb); have n1_ := Aside0.mk (Kd.S_below (by (with_reducible repeat (first | apply Kd.S_alloc | apply Kd.S_drewN | apply Kd.S_drew)); exact HO122.out) hb); have n2_ := Aside0.mk (below_step (by repeat (first | (with_reducible first | exact HB.out | apply below_alloc | apply pw_below_drewN | apply below_drew1) | exact HB.out)) hb); have n3_ := Aside0.mk (hbox); have n4_ := Aside0.mk ((by rw [hg]; exact (below_size (by repeat (first | (with_reducible first | exact HB.out | apply below_alloc | apply pw_below_drewN | apply below_drew1) | exact HB.out))) : w.heap.size ≤ gb124)); have n5_ := Aside0.mk ((by rw [hg]; exact (below_size (by repeat (first | (with_reducible first | exact HB.out | apply below_alloc | apply pw_below_drewN | apply below_drew1) | exact HB.out))) : w.heap.size ≤ gb124)); clear HO119; clear HO122; clear HB; have HO119 := n0_; have HO122 := n1_; have HB := n2_; have BK124 := n3_; have GW124 := n4_; have GE124 := n5_; clear n0_ n1_ n2_ n3_ n4_ n5_; clear hb hbox hg; obtain ⟨Ao9, co9, eo9⟩ := Kd.S_slice HO119.out; subst eo9; have hcz10_0 : w8.cell? ⟨gb124, 0, none⟩ = some (.slice none 0 0) := (blk_cell BK124.out 0).trans rfl; have hcz10_1 : w8.cell? ⟨gb124, 1, none⟩ = some (.slice none 0 0) := (blk_cell BK124.out 1).trans rfl; have hfz10_0 := blk_frozen BK124.out 0; have hfz10_1 := blk_frozen BK124.out 1; obtain ⟨Ao11, co11, eo11⟩ := Kd.S_slice HO122.out; subst eo11))
  (try simp only [Act.put, List.setIfInBounds_toArray, List.set_cons_zero, List.set_cons_succ])
  go_cut [26] (fun v26 wc => ∃ (kq : Nat) (x26_5 : Bool), v26 = .bool x26_5 ∧ Aside0 (clock_Far.j0 kq a0 l1 a2 a3 x26_5 t117 t120 = some (r1, r2)) ∧ Aside0 (kq ≤ k) ∧ Aside0 (Kd.S (Kd.slice 2 (Kd.int .i64)) 105 wc w.heap.size (fun _ => True) (.slice Ao9 t117.length co9) t117) ∧ Aside0 (Kd.S (Kd.slice 3 (Kd.int .i64)) 106 wc w.heap.size (fun _ => True) (.slice Ao11 t120.length co11) t120) ∧ Aside0 (wc.heap[gb124]? = some (.cells #[(.slice Ao9 t117.length co9), (.slice Ao11 t120.length co11)] 81 (0, 0))) ∧ Aside0 (Below w.heap.size w wc))
  case first =>
    have H := HC6.out
    clear HC6
    by_cases c12 : t123 = true
    · subst c12
      have H1 : ((clock_bound.f a2 a3).bind fun t125 => (clock_Far.j0 k a0 l1 a2 a3 (!t125) t117 t120)) = some (r1, r2) := by rw [if_pos rfl] at H; exact H
      clear H
      have H := H1
      clear H1
      replace H := Option.bind_eq_some_iff.mp H
      obtain ⟨t125, A130, H⟩ := H
      replace H : (clock_Far.j0 k a0 l1 a2 a3 (!t125) t117 t120) = some (r1, r2) := H
      have A13 := Aside0.mk A130
      clear A130
      have H' := Aside0.mk H
      clear H
      go_wp2_with (first | (go_at_call 41; (with_reducible refine (clock_bound.calls a2 a3 t125 _ A13.out).mono ?_); rintro e w' ⟨rfl, ⟨nd, rfl⟩⟩))
      go_meet
      case rel => exact ⟨_, (!t125), (by first | rfl | (simp; done) | (simp [*]; done)), H', ⟨by first | omega | exact Nat.le_refl _⟩, ⟨by (with_reducible repeat (first | apply Kd.S_alloc | apply Kd.S_drewN | apply Kd.S_drew)); exact Kd.S_mono (Kd.S_far (p := ⟨gb124, 1, none⟩) (Kd.S_far (p := ⟨gb124, 0, none⟩) (Kd.S_types HO119.out BK124.out (by decide)) (fun _ hk => hk.2) (.slice Ao9 t117.length co9)) (fun _ hk => hk.2) (.slice Ao11 t120.length co11)) (fun _ hk => trivial)⟩, ⟨by (with_reducible repeat (first | apply Kd.S_alloc | apply Kd.S_drewN | apply Kd.S_drew)); exact Kd.S_mono (Kd.S_far (p := ⟨gb124, 1, none⟩) (Kd.S_far (p := ⟨gb124, 0, none⟩) (Kd.S_types HO122.out BK124.out (by decide)) (fun _ hk => hk.2) (.slice Ao9 t117.length co9)) (fun _ hk => hk.2) (.slice Ao11 t120.length co11)) (fun _ hk => trivial)⟩, ⟨by (with_reducible repeat (first | refine blk_drewN ?_ _ | refine blk_drew ?_ | refine blk_alloc ?_ _)); refine blk_put (cs := #[.slice Ao9 t117.length co9, .slice none 0 0]) ?_ 1 _ rfl; (with_reducible repeat (first | refine blk_drewN ?_ _ | refine blk_drew ?_ | refine blk_alloc ?_ _)); refine blk_put (cs := #[.slice none 0 0, .slice none 0 0]) ?_ 0 _ rfl; (with_reducible repeat (first | refine blk_drewN ?_ _ | refine blk_drew ?_ | refine blk_alloc ?_ _)); exact BK124.out⟩, ⟨by repeat (first | (with_reducible first | exact HB.out | apply below_alloc | apply pw_below_drewN | apply below_drew1 | refine below_set ?_ GE124.out) | exact HB.out)⟩⟩
    · replace c12 := Bool.eq_false_iff.mpr c12
      subst c12
      have H1 : (clock_Far.j0 k a0 l1 a2 a3 true t117 t120) = some (r1, r2) := by rw [if_neg (show ¬ (false = true) by decide)] at H; exact H
      clear H
      have H := H1
      clear H1
      have H' := Aside0.mk H
      clear H
      go_wp2
      go_meet
      case rel => exact ⟨_, (true), (by first | rfl | (simp; done) | (simp [*]; done)), H', ⟨by first | omega | exact Nat.le_refl _⟩, ⟨by (with_reducible repeat (first | apply Kd.S_alloc | apply Kd.S_drewN | apply Kd.S_drew)); exact Kd.S_mono (Kd.S_far (p := ⟨gb124, 1, none⟩) (Kd.S_far (p := ⟨gb124, 0, none⟩) (Kd.S_types HO119.out BK124.out (by decide)) (fun _ hk => hk.2) (.slice Ao9 t117.length co9)) (fun _ hk => hk.2) (.slice Ao11 t120.length co11)) (fun _ hk => trivial)⟩, ⟨by (with_reducible repeat (first | apply Kd.S_alloc | apply Kd.S_drewN | apply Kd.S_drew)); exact Kd.S_mono (Kd.S_far (p := ⟨gb124, 1, none⟩) (Kd.S_far (p := ⟨gb124, 0, none⟩) (Kd.S_types HO122.out BK124.out (by decide)) (fun _ hk => hk.2) (.slice Ao9 t117.length co9)) (fun _ hk => hk.2) (.slice Ao11 t120.length co11)) (fun _ hk => trivial)⟩, ⟨by (with_reducible repeat (first | refine blk_drewN ?_ _ | refine blk_drew ?_ | refine blk_alloc ?_ _)); refine blk_put (cs := #[.slice Ao9 t117.length co9, .slice none 0 0]) ?_ 1 _ rfl; (with_reducible repeat (first | refine blk_drewN ?_ _ | refine blk_drew ?_ | refine blk_alloc ?_ _)); refine blk_put (cs := #[.slice none 0 0, .slice none 0 0]) ?_ 0 _ rfl; (with_reducible repeat (first | refine blk_drewN ?_ _ | refine blk_drew ?_ | refine blk_alloc ?_ _)); exact BK124.out⟩, ⟨by repeat (first | (with_reducible first | exact HB.out | apply below_alloc | apply pw_below_drewN | apply below_drew1 | refine below_set ?_ GE124.out) | exact HB.out)⟩⟩
  case rest =>
    clear HC6
    try clear c1
    try clear c2
    try clear p2
    try clear c4
    try clear c12
    try clear hcz10_0
    try clear hcz10_1
    try clear hfz10_0
    try clear hfz10_1
    obtain ⟨kq, x26_5, rfl, HA, HJ5, HO_125000, HO_125001, BK124, HB⟩ := hcut
    cases kq with
    | zero => exact absurd HA.out (by simp [clock_Far.j0])
    | succ kj5 =>
      have H := HA.out
      clear HA
      simp only [clock_Far.j0] at H
      by_cases c14 : x26_5 = true
      · subst c14
        have H1 : (some (0, 1)) = some (r1, r2) := by rw [if_pos rfl] at H; exact H
        clear H
        have H := H1
        clear H1
        simp only [Option.some.injEq, Prod.mk.injEq] at H
        obtain ⟨rfl, rfl⟩ := H
        go_wp2
        go_ret2
        exact ⟨by first | rfl | (simp [errW_none, errW_some] <;> rfl) | (simp [*, errW_none, errW_some] <;> rfl), by repeat (first | (with_reducible first | exact HB.out | apply below_alloc | apply pw_below_drewN | apply below_drew1 | refine below_set ?_ GE124.out) | exact HB.out)⟩
      · replace c14 := Bool.eq_false_iff.mpr c14
        subst c14
        have H1 : (clock_Far.l0 kj5 a0 l1 a2 a3 0 t117 t120) = some (r1, r2) := by rw [if_neg (show ¬ (false = true) by decide)] at H; exact H
        clear H
        have H := H1
        clear H1
        have H' := Aside0.mk H
        clear H
        go_wp2
        go_loopg [12] kj5 (fun kq v12 w' => ∃ (x12_2 : Int), v12 = .int .i64 x12_2 ∧ Aside0 (clock_Far.l0 kq a0 l1 a2 a3 x12_2 t117 t120 = some (r1, r2)) ∧ Aside0 (kq ≤ kj5) ∧ Aside0 (Kd.S (Kd.slice 2 (Kd.int .i64)) 105 w' w.heap.size (fun _ => True) (.slice Ao9 t117.length co9) t117) ∧ Aside0 (Kd.S (Kd.slice 3 (Kd.int .i64)) 106 w' w.heap.size (fun _ => True) (.slice Ao11 t120.length co11) t120) ∧ Aside0 (w'.heap[gb124]? = some (.cells #[(.slice Ao9 t117.length co9), (.slice Ao11 t120.length co11)] 81 (0, 0))) ∧ Aside0 (Below w.heap.size w w'))
        case atStart => exact ⟨(0), (by first | rfl | (simp; done) | (simp [*]; done)), H', ⟨Nat.le_refl _⟩, ⟨by (with_reducible repeat (first | apply Kd.S_alloc | apply Kd.S_drewN | apply Kd.S_drew)); exact HO_125000.out⟩, ⟨by (with_reducible repeat (first | apply Kd.S_alloc | apply Kd.S_drewN | apply Kd.S_drew)); exact HO_125001.out⟩, ⟨by (with_reducible repeat (first | refine blk_drewN ?_ _ | refine blk_drew ?_ | refine blk_alloc ?_ _)); exact BK124.out⟩, ⟨by repeat (first | (with_reducible first | exact HB.out | apply below_alloc | apply pw_below_drewN | apply below_drew1 | refine below_set ?_ GE124.out) | exact HB.out)⟩⟩
        case round =>
          clear H'
          try clear c1
          try clear c2
          try clear p2
          try clear c4
          try clear c12
          try clear c14
          try clear hcz10_0
          try clear hcz10_1
          try clear hfz10_0
          try clear hfz10_1
          try clear p2
          obtain ⟨x12_2, rfl, HA, HK2, HO_125000, HO_125001, BK124, HB⟩ := hrel
          cases gk with
          | zero => exact absurd HA.out (by simp [clock_Far.l0])
          | succ k2 =>
            have H := HA.out
            clear HA
            simp only [clock_Far.l0] at H
            by_cases c15 : x12_2 < (l1.length : Int)
            · rw [if_pos c15] at H
              have c15b0 : decide (x12_2 < (l1.length : Int)) = true := decide_eq_true c15
              clear c15
              replace H := Option.bind_eq_some_iff.mp H
              obtain ⟨t126, A160, H⟩ := H
              replace H : (if t126 = true then (clock_Far.l0 k2 a0 l1 a2 a3 (wrap64 (x12_2 + 1)) t117 t120) else (some (x12_2, 0))) = some (r1, r2) := H
              have A16 := Aside0.mk A160
              clear A160
              by_cases c17 : t126 = true
              · subst c17
                have H1 : (clock_Far.l0 k2 a0 l1 a2 a3 (wrap64 (x12_2 + 1)) t117 t120) = some (r1, r2) := by rw [if_pos rfl] at H; exact H
                clear H
                have H := H1
                clear H1
                have H' := Aside0.mk H
                clear H
                have hcz18_0 : wr.cell? ⟨gb124, 0, none⟩ = some (.slice Ao9 t117.length co9) := (blk_cell BK124.out 0).trans rfl
                have hcz18_1 : wr.cell? ⟨gb124, 1, none⟩ = some (.slice Ao11 t120.length co11) := (blk_cell BK124.out 1).trans rfl
                have hfz18_0 := blk_frozen BK124.out 0
                have hfz18_1 := blk_frozen BK124.out 1
                go_wp2_with (first | (go_at_call 49; (with_reducible refine (clock_history_near.calls k2 _ _ t117 _ _ t120 a0 (wrap64 (x12_2 + 1)) a2 a3 true _ ?side1 ?side2 ?side3 ?side4 A16.out).mono ?_); (case side1 => repeat (first | exact (Kd.S_reads' HO_125000.out).2.2 | (with_reducible refine Kd.C_alloc ?_ _) | (with_reducible refine Kd.C_drewN ?_ _) | (with_reducible refine Kd.C_drew ?_))); (case side2 => exact (Kd.S_reads' HO_125000.out).2.1); (case side3 => repeat (first | exact (Kd.S_reads' HO_125001.out).2.2 | (with_reducible refine Kd.C_alloc ?_ _) | (with_reducible refine Kd.C_drewN ?_ _) | (with_reducible refine Kd.C_drew ?_))); (case side4 => exact (Kd.S_reads' HO_125001.out).2.1); rintro e w19 ⟨rfl, hb⟩; have n0_ := Aside0.mk (Kd.S_below (by (with_reducible repeat (first | apply Kd.S_alloc | apply Kd.S_drewN | apply Kd.S_drew)); exact HO_125000.out) hb); have n1_ := Aside0.mk (Kd.S_below (by (with_reducible repeat (first | apply Kd.S_alloc | apply Kd.S_drewN | apply Kd.S_drew)); exact HO_125001.out) hb); have n2_ := Aside0.mk (blk_below (g := gb124) (o := .cells #[.slice Ao9 t117.length co9, .slice Ao11 t120.length co11] 81 (0, 0)) (by (with_reducible repeat (first | refine blk_drewN ?_ _ | refine blk_drew ?_ | refine blk_alloc ?_ _)); exact BK124.out) hb); have n3_ := Aside0.mk (below_step (by repeat (first | (with_reducible first | exact HB.out | apply below_alloc | apply pw_below_drewN | apply below_drew1 | refine below_set ?_ GE124.out) | exact HB.out)) hb); clear HO_125000; clear HO_125001; clear BK124; clear HB; have HO_125000 := n0_; have HO_125001 := n1_; have BK124 := n2_; have HB := n3_; clear n0_ n1_ n2_ n3_; (try clear hb); (try clear hb2); (try clear hk); (try clear hi)))
                go_roundg k2
                case measure => have := HJ5.out; have := HK2.out; omega
                case rel => exact ⟨(wrap64 (x12_2 + 1)), (by first | rfl | (simp; done) | (simp [*]; done)), H', ⟨by have := HJ5.out; have := HK2.out; omega⟩, ⟨by (with_reducible repeat (first | apply Kd.S_alloc | apply Kd.S_drewN | apply Kd.S_drew)); exact HO_125000.out⟩, ⟨by (with_reducible repeat (first | apply Kd.S_alloc | apply Kd.S_drewN | apply Kd.S_drew)); exact HO_125001.out⟩, ⟨by (with_reducible repeat (first | refine blk_drewN ?_ _ | refine blk_drew ?_ | refine blk_alloc ?_ _)); exact BK124.out⟩, ⟨by repeat (first | (with_reducible first | exact HB.out | apply below_alloc | apply pw_below_drewN | apply below_drew1 | refine below_set ?_ GE124.out) | exact HB.out)⟩⟩
              · replace c17 := Bool.eq_false_iff.mpr c17
                subst c17
                have H1 : (some (x12_2, 0)) = some (r1, r2) := by rw [if_neg (show ¬ (false = true) by decide)] at H; exact H
                clear H
                have H := H1
                clear H1
                simp only [Option.some.injEq, Prod.mk.injEq] at H
                obtain ⟨rfl, rfl⟩ := H
                have hcz20_0 : wr.cell? ⟨gb124, 0, none⟩ = some (.slice Ao9 t117.length co9) := (blk_cell BK124.out 0).trans rfl
                have hcz20_1 : wr.cell? ⟨gb124, 1, none⟩ = some (.slice Ao11 t120.length co11) := (blk_cell BK124.out 1).trans rfl
                have hfz20_0 := blk_frozen BK124.out 0
                have hfz20_1 := blk_frozen BK124.out 1
                go_wp2_with (first | (go_at_call 49; (with_reducible refine (clock_history_near.calls k2 _ _ t117 _ _ t120 a0 (wrap64 (x12_2 + 1)) a2 a3 false _ ?side1 ?side2 ?side3 ?side4 A16.out).mono ?_); (case side1 => repeat (first | exact (Kd.S_reads' HO_125000.out).2.2 | (with_reducible refine Kd.C_alloc ?_ _) | (with_reducible refine Kd.C_drewN ?_ _) | (with_reducible refine Kd.C_drew ?_))); (case side2 => exact (Kd.S_reads' HO_125000.out).2.1); (case side3 => repeat (first | exact (Kd.S_reads' HO_125001.out).2.2 | (with_reducible refine Kd.C_alloc ?_ _) | (with_reducible refine Kd.C_drewN ?_ _) | (with_reducible refine Kd.C_drew ?_))); (case side4 => exact (Kd.S_reads' HO_125001.out).2.1); rintro e w21 ⟨rfl, hb⟩; have n0_ := Aside0.mk (Kd.S_below (by (with_reducible repeat (first | apply Kd.S_alloc | apply Kd.S_drewN | apply Kd.S_drew)); exact HO_125000.out) hb); have n1_ := Aside0.mk (Kd.S_below (by (with_reducible repeat (first | apply Kd.S_alloc | apply Kd.S_drewN | apply Kd.S_drew)); exact HO_125001.out) hb); have n2_ := Aside0.mk (blk_below (g := gb124) (o := .cells #[.slice Ao9 t117.length co9, .slice Ao11 t120.length co11] 81 (0, 0)) (by (with_reducible repeat (first | refine blk_drewN ?_ _ | refine blk_drew ?_ | refine blk_alloc ?_ _)); exact BK124.out) hb); have n3_ := Aside0.mk (below_step (by repeat (first | (with_reducible first | exact HB.out | apply below_alloc | apply pw_below_drewN | apply below_drew1 | refine below_set ?_ GE124.out) | exact HB.out)) hb); clear HO_125000; clear HO_125001; clear BK124; clear HB; have HO_125000 := n0_; have HO_125001 := n1_; have BK124 := n2_; have HB := n3_; clear n0_ n1_ n2_ n3_; (try clear hb); (try clear hb2); (try clear hk); (try clear hi)))
                go_ret2
                exact ⟨by first | rfl | (simp [errW_none, errW_some] <;> rfl) | (simp [*, errW_none, errW_some] <;> rfl), by repeat (first | (with_reducible first | exact HB.out | apply below_alloc | apply pw_below_drewN | apply below_drew1 | refine below_set ?_ GE124.out) | exact HB.out)⟩
            · rw [if_neg c15] at H
              have c15b0 : decide (x12_2 < (l1.length : Int)) = false := decide_eq_false c15
              clear c15
              simp only [Option.some.injEq, Prod.mk.injEq] at H
              obtain ⟨rfl, rfl⟩ := H
              go_wp2
              go_ret2
              exact ⟨by first | rfl | (simp [errW_none, errW_some] <;> rfl) | (simp [*, errW_none, errW_some] <;> rfl), by repeat (first | (with_reducible first | exact HB.out | apply below_alloc | apply pw_below_drewN | apply below_drew1 | refine below_set ?_ GE124.out) | exact HB.out)⟩

end Go.Proofs.Ytahppppkepcbkaa.Fn
