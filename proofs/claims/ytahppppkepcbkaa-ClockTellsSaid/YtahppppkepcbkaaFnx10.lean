-- Written by program (a turned copy of the kit's print) for this seat: functions, contracts. Lean checks it.
import Derived.Test.YtahppppkepcbkaaFnx0
import Derived.Test.YtahppppkepcbkaaFnx2
import Derived.Test.YtahppppkepcbkaaExPlayed
namespace Go.Proofs.Ytahppppkepcbkaa.Fn
open Go.RowKit Go.Proofs.YtahppppkepcbkaaW.PrintWords Go.Proofs.YtahppppkepcbkaaW.PrintLast Go.Proofs.YtahppppkepcbkaaW.PrintMore
attribute [local go_sem] max2_int min2_int max_two min_two max_three min_three max_four min_four   -- for this text's walks alone
set_option linter.unusedVariables false
set_option linter.unusedSimpArgs false

/-! ### clock_Ticks: function 20 -/
def clock_Ticks.j0 : Nat → Int → Int → Int → Bool → List (List Int) → List (List Int) → Option (Int × Int)
  | 0, _, _, _, _, _, _ => none
  | k + 1, x2, x3, x4, x20, x205000, x205001 => if x20 = true then (some (0, 1)) else ((clock_history_up.f x205000 x205001 x2 x3 x4).bind fun t205 => (if t205 = true then ((clock_history_had.f x205000 x205001 x2 x3 x4).bind fun t206 => (some (t206, 0))) else (some (0, 7))))
def clock_Ticks.f (k : Nat) (a0 : Int) (l1 : List (S87)) (a2 : Int) (a3 : Int) (a4 : Int) : Option (Int × Int) := (clock_played.f a0 l1).bind fun bt197 => (if bt197.2.2 = true then (if a2 < 0 then (clock_Ticks.j0 k a2 a3 a4 true bt197.1 bt197.2.1) else (if a2 ≥ a0 then (clock_Ticks.j0 k a2 a3 a4 true bt197.1 bt197.2.1) else (if a3 < 0 then (clock_Ticks.j0 k a2 a3 a4 true bt197.1 bt197.2.1) else (if a3 > a4 then (clock_Ticks.j0 k a2 a3 a4 true bt197.1 bt197.2.1) else (clock_Ticks.j0 k a2 a3 a4 (decide (a4 > (l1.length : Int))) bt197.1 bt197.2.1))))) else (clock_Ticks.j0 k a2 a3 a4 true bt197.1 bt197.2.1))
theorem clock_Ticks.mono_l : ∀ k, (∀ y0 y1 y2 y3 y4 y5, LeO (clock_Ticks.j0 k y0 y1 y2 y3 y4 y5) (clock_Ticks.j0 (k + 1) y0 y1 y2 y3 y4 y5))
  | 0 => fun _ _ _ _ _ _ r h => by simp [clock_Ticks.j0] at h
  | k + 1 => by
    have ih0 := clock_Ticks.mono_l k
    · intro y0 y1 y2 y3 y4 y5
      unfold clock_Ticks.j0
      repeat' first
      | (with_reducible exact ih0 _ _ _ _ _ _)
      | (with_reducible exact LeO.refl _)
      | (with_reducible exact LeO.none _)
      | (with_reducible refine LeO.ite ?_ ?_)
      | (with_reducible refine LeO.bind ?_ (fun _ => ?_))
      | exact ih0 _ _ _ _ _ _
      | exact LeO.none _
      | refine LeO.ite ?_ ?_
      | refine LeO.bind ?_ (fun _ => ?_)
theorem clock_Ticks.mono : ∀ a0 a1 a2 a3 a4 k, LeO (clock_Ticks.f k a0 a1 a2 a3 a4) (clock_Ticks.f (k + 1) a0 a1 a2 a3 a4) := by
  intro a0 a1 a2 a3 a4 k
  have ih0 := clock_Ticks.mono_l k
  unfold clock_Ticks.f
  repeat' first
      | (with_reducible exact ih0 _ _ _ _ _ _)
      | (with_reducible exact LeO.refl _)
      | (with_reducible exact LeO.none _)
      | (with_reducible refine LeO.ite ?_ ?_)
      | (with_reducible refine LeO.bind ?_ (fun _ => ?_))
      | exact ih0 _ _ _ _ _ _
      | exact LeO.none _
      | refine LeO.ite ?_ ?_
      | refine LeO.bind ?_ (fun _ => ?_)
set_option maxHeartbeats 8000000 in
set_option maxRecDepth 100000 in
theorem clock_Ticks.calls (k : Nat) (a0 : Int) (A1 : Option Addr) (c1 : Nat) (l1 : List (S87)) (a2 : Int) (a3 : Int) (a4 : Int) (r1 : Int) (r2 : Int) (w : World) (hr1 : Kd.C k87 w A1 l1.length l1) (hc1 : l1.length ≤ c1) (h : clock_Ticks.f k a0 l1 a2 a3 a4 = some (r1, r2)) :
    Calls Try.prog 20 #[.int .i64 a0, .slice A1 l1.length c1, .int .i64 a2, .int .i64 a3, .int .i64 a4] w fun e w' => e = .returned (.tuple #[.int .i64 r1, .int .i64 r2]) ∧ Below w.heap.size w w' := by
  have hu81 := Try.underlying81
  have HR1 := Aside0.mk hr1
  have HC1 := Aside0.mk hc1
  clear hr1 hc1
  have HB := Aside0.mk (Below.refl w.heap.size w)
  have H : ((clock_played.f a0 l1).bind fun bt197 => (if bt197.2.2 = true then (if a2 < 0 then (clock_Ticks.j0 k a2 a3 a4 true bt197.1 bt197.2.1) else (if a2 ≥ a0 then (clock_Ticks.j0 k a2 a3 a4 true bt197.1 bt197.2.1) else (if a3 < 0 then (clock_Ticks.j0 k a2 a3 a4 true bt197.1 bt197.2.1) else (if a3 > a4 then (clock_Ticks.j0 k a2 a3 a4 true bt197.1 bt197.2.1) else (clock_Ticks.j0 k a2 a3 a4 (decide (a4 > (l1.length : Int))) bt197.1 bt197.2.1))))) else (clock_Ticks.j0 k a2 a3 a4 true bt197.1 bt197.2.1))) = some (r1, r2) := h
  clear h
  replace H := Option.bind_eq_some_iff.mp H
  obtain ⟨⟨t197, t200, t203⟩, A60, H⟩ := H
  replace H : (if t203 = true then (if a2 < 0 then (clock_Ticks.j0 k a2 a3 a4 true t197 t200) else (if a2 ≥ a0 then (clock_Ticks.j0 k a2 a3 a4 true t197 t200) else (if a3 < 0 then (clock_Ticks.j0 k a2 a3 a4 true t197 t200) else (if a3 > a4 then (clock_Ticks.j0 k a2 a3 a4 true t197 t200) else (clock_Ticks.j0 k a2 a3 a4 (decide (a4 > (l1.length : Int))) t197 t200))))) else (clock_Ticks.j0 k a2 a3 a4 true t197 t200)) = some (r1, r2) := H
  have A6 := Aside0.mk A60
  clear A60
  have HC7 := Aside0.mk H
  clear H
  go_enter Try.func20, Try.ntmps20
  go_upto_region 2 with (first | ((with_reducible refine gate_callee (f := 45) rfl ?_); refine goesL_ (some 17) rfl rfl Try.func45 (by kernel_rfl) rfl #[.int .i64 a0, .slice A1 l1.length c1] rfl (by (try simp only [List.map_toArray, List.map_cons, List.map_nil]); first | done | rfl | (simp only [List.length_drop, List.length_take]; rfl)) ?_; (with_reducible refine (clock_played.calls a0 _ _ l1 t197 t200 t203 _ ?side1 ?side2 A6.out).mono ?_); (case side1 => repeat (first | exact HR1.out | (with_reducible refine Kd.C_alloc ?_ _) | (with_reducible refine Kd.C_drewN ?_ _) | (with_reducible refine Kd.C_drew ?_))); (case side2 => exact HC1.out); rintro e w8 ⟨v198, v201, rfl, ho0, ho1, hb⟩; refine ⟨_, rfl, ?_⟩; have n0_ := Aside0.mk (Kd.S_lower ho0 (below_size (by repeat (first | (with_reducible first | exact HB.out | apply below_alloc | apply pw_below_drewN | apply below_drew1) | exact HB.out)))); have n1_ := Aside0.mk (Kd.S_lower ho1 (below_size (by repeat (first | (with_reducible first | exact HB.out | apply below_alloc | apply pw_below_drewN | apply below_drew1) | exact HB.out)))); have n2_ := Aside0.mk (below_step (by repeat (first | (with_reducible first | exact HB.out | apply below_alloc | apply pw_below_drewN | apply below_drew1) | exact HB.out)) hb); clear HB; have HO199 := n0_; have HO202 := n1_; have HB := n2_; clear n0_ n1_ n2_; (try clear hb); (try clear hb2); (try clear hk); (try clear hi); (try clear ho0); (try clear ho1)) | ((with_reducible refine gate_dst (N := 12) rfl ?_); (try (refine gate_guard (by rfl) ?_; dsimp only)); refine box_event ?hg (N := 12) ?hd (cs := #[.slice none 0 0, .slice none 0 0]) (t := 81) ?hr ?_; (case hd => rfl); (case hg => rfl); (case hr => first | (go_simp; done) | (go_simp; rfl)); intro gb204 hg w9 hbox hb; have n0_ := Aside0.mk (Kd.S_below (by (with_reducible repeat (first | apply Kd.S_alloc | apply Kd.S_drewN | apply Kd.S_drew)); exact HO199.out) hb); have n1_ := Aside0.mk (Kd.S_below (by (with_reducible repeat (first | apply Kd.S_alloc | apply Kd.S_drewN | apply Kd.S_drew)); exact HO202.out) hb); have n2_ := Aside0.mk (below_step (by repeat (first | (with_reducible first | exact HB.out | apply below_alloc | apply pw_below_drewN | apply below_drew1) | exact HB.out)) hb); have n3_ := Aside0.mk (hbox); have n4_ := Aside0.mk ((by rw [hg]; exact (below_size (by repeat (first | (with_reducible first | exact HB.out | apply below_alloc | apply pw_below_drewN | apply below_drew1) | exact HB.out))) : w.heap.size ≤ gb204)); have n5_ := Aside0.mk ((by rw [hg]; exact (below_size (by repeat (first | (with_reducible first | exact HB.out | apply below_alloc | apply pw_below_drewN | apply below_drew1) | exact HB.out))) : w.heap.size ≤ gb204)); clear HO199; clear HO202; clear HB; have HO199 := n0_; have HO202 := n1_; have HB := n2_; have BK204 := n3_; have GW204 := n4_; have GE204 := n5_; clear n0_ n1_ n2_ n3_ n4_ n5_; clear hb hbox hg; obtain ⟨Ao10, co10, eo10⟩ := Kd.S_slice HO199.out; subst eo10; have hcz11_0 : w9.cell? ⟨gb204, 0, none⟩ = some (.slice none 0 0) := (blk_cell BK204.out 0).trans rfl; have hcz11_1 : w9.cell? ⟨gb204, 1, none⟩ = some (.slice none 0 0) := (blk_cell BK204.out 1).trans rfl; have hfz11_0 := blk_frozen BK204.out 0; have hfz11_1 := blk_frozen BK204.out 1; obtain ⟨Ao12, co12, eo12⟩ := Kd.S_slice HO202.out; subst eo12))
  (try simp only [Act.put, List.setIfInBounds_toArray, List.set_cons_zero, List.set_cons_succ])
  go_cut [20] (fun v20 wc => ∃ (kq : Nat) (x20_6 : Bool), v20 = .bool x20_6 ∧ Aside0 (clock_Ticks.j0 kq a2 a3 a4 x20_6 t197 t200 = some (r1, r2)) ∧ Aside0 (kq ≤ k) ∧ Aside0 (Kd.S (Kd.slice 2 (Kd.int .i64)) 105 wc w.heap.size (fun _ => True) (.slice Ao10 t197.length co10) t197) ∧ Aside0 (Kd.S (Kd.slice 3 (Kd.int .i64)) 106 wc w.heap.size (fun _ => True) (.slice Ao12 t200.length co12) t200) ∧ Aside0 (wc.heap[gb204]? = some (.cells #[(.slice Ao10 t197.length co10), (.slice Ao12 t200.length co12)] 81 (0, 0))) ∧ Aside0 (Below w.heap.size w wc))
  case first =>
    have H := HC7.out
    clear HC7
    by_cases c13 : t203 = true
    · subst c13
      have H1 : (if a2 < 0 then (clock_Ticks.j0 k a2 a3 a4 true t197 t200) else (if a2 ≥ a0 then (clock_Ticks.j0 k a2 a3 a4 true t197 t200) else (if a3 < 0 then (clock_Ticks.j0 k a2 a3 a4 true t197 t200) else (if a3 > a4 then (clock_Ticks.j0 k a2 a3 a4 true t197 t200) else (clock_Ticks.j0 k a2 a3 a4 (decide (a4 > (l1.length : Int))) t197 t200))))) = some (r1, r2) := by rw [if_pos rfl] at H; exact H
      clear H
      have H := H1
      clear H1
      by_cases c14 : a2 < 0
      · rw [if_pos c14] at H
        have c14b0 : decide (a2 < 0) = true := decide_eq_true c14
        clear c14
        (first | rw [c14b0] | (simp only [i64_w, i32_w]; rw [c14b0]) | skip)
        have H' := Aside0.mk H
        clear H
        go_wp2
        go_meet
        case rel => exact ⟨_, (true), (by first | rfl | (simp; done) | (simp [*]; done)), H', ⟨by first | omega | exact Nat.le_refl _⟩, ⟨by (with_reducible repeat (first | apply Kd.S_alloc | apply Kd.S_drewN | apply Kd.S_drew)); exact Kd.S_mono (Kd.S_far (p := ⟨gb204, 1, none⟩) (Kd.S_far (p := ⟨gb204, 0, none⟩) (Kd.S_types HO199.out BK204.out (by decide)) (fun _ hk => hk.2) (.slice Ao10 t197.length co10)) (fun _ hk => hk.2) (.slice Ao12 t200.length co12)) (fun _ hk => trivial)⟩, ⟨by (with_reducible repeat (first | apply Kd.S_alloc | apply Kd.S_drewN | apply Kd.S_drew)); exact Kd.S_mono (Kd.S_far (p := ⟨gb204, 1, none⟩) (Kd.S_far (p := ⟨gb204, 0, none⟩) (Kd.S_types HO202.out BK204.out (by decide)) (fun _ hk => hk.2) (.slice Ao10 t197.length co10)) (fun _ hk => hk.2) (.slice Ao12 t200.length co12)) (fun _ hk => trivial)⟩, ⟨by (with_reducible repeat (first | refine blk_drewN ?_ _ | refine blk_drew ?_ | refine blk_alloc ?_ _)); refine blk_put (cs := #[.slice Ao10 t197.length co10, .slice none 0 0]) ?_ 1 _ rfl; (with_reducible repeat (first | refine blk_drewN ?_ _ | refine blk_drew ?_ | refine blk_alloc ?_ _)); refine blk_put (cs := #[.slice none 0 0, .slice none 0 0]) ?_ 0 _ rfl; (with_reducible repeat (first | refine blk_drewN ?_ _ | refine blk_drew ?_ | refine blk_alloc ?_ _)); exact BK204.out⟩, ⟨by repeat (first | (with_reducible first | exact HB.out | apply below_alloc | apply pw_below_drewN | apply below_drew1 | refine below_set ?_ GE204.out) | exact HB.out)⟩⟩
      · rw [if_neg c14] at H
        have c14b0 : decide (a2 < 0) = false := decide_eq_false c14
        clear c14
        (first | rw [c14b0] | (simp only [i64_w, i32_w]; rw [c14b0]) | skip)
        by_cases c15 : a2 ≥ a0
        · rw [if_pos c15] at H
          have c15b0 : decide (a0 ≤ a2) = true := decide_eq_true c15
          clear c15
          have H' := Aside0.mk H
          clear H
          go_wp2
          go_meet
          case rel => exact ⟨_, (true), (by first | rfl | (simp; done) | (simp [*]; done)), H', ⟨by first | omega | exact Nat.le_refl _⟩, ⟨by (with_reducible repeat (first | apply Kd.S_alloc | apply Kd.S_drewN | apply Kd.S_drew)); exact Kd.S_mono (Kd.S_far (p := ⟨gb204, 1, none⟩) (Kd.S_far (p := ⟨gb204, 0, none⟩) (Kd.S_types HO199.out BK204.out (by decide)) (fun _ hk => hk.2) (.slice Ao10 t197.length co10)) (fun _ hk => hk.2) (.slice Ao12 t200.length co12)) (fun _ hk => trivial)⟩, ⟨by (with_reducible repeat (first | apply Kd.S_alloc | apply Kd.S_drewN | apply Kd.S_drew)); exact Kd.S_mono (Kd.S_far (p := ⟨gb204, 1, none⟩) (Kd.S_far (p := ⟨gb204, 0, none⟩) (Kd.S_types HO202.out BK204.out (by decide)) (fun _ hk => hk.2) (.slice Ao10 t197.length co10)) (fun _ hk => hk.2) (.slice Ao12 t200.length co12)) (fun _ hk => trivial)⟩, ⟨by (with_reducible repeat (first | refine blk_drewN ?_ _ | refine blk_drew ?_ | refine blk_alloc ?_ _)); refine blk_put (cs := #[.slice Ao10 t197.length co10, .slice none 0 0]) ?_ 1 _ rfl; (with_reducible repeat (first | refine blk_drewN ?_ _ | refine blk_drew ?_ | refine blk_alloc ?_ _)); refine blk_put (cs := #[.slice none 0 0, .slice none 0 0]) ?_ 0 _ rfl; (with_reducible repeat (first | refine blk_drewN ?_ _ | refine blk_drew ?_ | refine blk_alloc ?_ _)); exact BK204.out⟩, ⟨by repeat (first | (with_reducible first | exact HB.out | apply below_alloc | apply pw_below_drewN | apply below_drew1 | refine below_set ?_ GE204.out) | exact HB.out)⟩⟩
        · rw [if_neg c15] at H
          have c15b0 : decide (a0 ≤ a2) = false := decide_eq_false c15
          clear c15
          by_cases c16 : a3 < 0
          · rw [if_pos c16] at H
            have c16b0 : decide (a3 < 0) = true := decide_eq_true c16
            clear c16
            have H' := Aside0.mk H
            clear H
            go_wp2
            go_meet
            case rel => exact ⟨_, (true), (by first | rfl | (simp; done) | (simp [*]; done)), H', ⟨by first | omega | exact Nat.le_refl _⟩, ⟨by (with_reducible repeat (first | apply Kd.S_alloc | apply Kd.S_drewN | apply Kd.S_drew)); exact Kd.S_mono (Kd.S_far (p := ⟨gb204, 1, none⟩) (Kd.S_far (p := ⟨gb204, 0, none⟩) (Kd.S_types HO199.out BK204.out (by decide)) (fun _ hk => hk.2) (.slice Ao10 t197.length co10)) (fun _ hk => hk.2) (.slice Ao12 t200.length co12)) (fun _ hk => trivial)⟩, ⟨by (with_reducible repeat (first | apply Kd.S_alloc | apply Kd.S_drewN | apply Kd.S_drew)); exact Kd.S_mono (Kd.S_far (p := ⟨gb204, 1, none⟩) (Kd.S_far (p := ⟨gb204, 0, none⟩) (Kd.S_types HO202.out BK204.out (by decide)) (fun _ hk => hk.2) (.slice Ao10 t197.length co10)) (fun _ hk => hk.2) (.slice Ao12 t200.length co12)) (fun _ hk => trivial)⟩, ⟨by (with_reducible repeat (first | refine blk_drewN ?_ _ | refine blk_drew ?_ | refine blk_alloc ?_ _)); refine blk_put (cs := #[.slice Ao10 t197.length co10, .slice none 0 0]) ?_ 1 _ rfl; (with_reducible repeat (first | refine blk_drewN ?_ _ | refine blk_drew ?_ | refine blk_alloc ?_ _)); refine blk_put (cs := #[.slice none 0 0, .slice none 0 0]) ?_ 0 _ rfl; (with_reducible repeat (first | refine blk_drewN ?_ _ | refine blk_drew ?_ | refine blk_alloc ?_ _)); exact BK204.out⟩, ⟨by repeat (first | (with_reducible first | exact HB.out | apply below_alloc | apply pw_below_drewN | apply below_drew1 | refine below_set ?_ GE204.out) | exact HB.out)⟩⟩
          · rw [if_neg c16] at H
            have c16b0 : decide (a3 < 0) = false := decide_eq_false c16
            clear c16
            by_cases c17 : a3 > a4
            · rw [if_pos c17] at H
              have c17b0 : decide (a4 < a3) = true := decide_eq_true c17
              clear c17
              have H' := Aside0.mk H
              clear H
              go_wp2
              go_meet
              case rel => exact ⟨_, (true), (by first | rfl | (simp; done) | (simp [*]; done)), H', ⟨by first | omega | exact Nat.le_refl _⟩, ⟨by (with_reducible repeat (first | apply Kd.S_alloc | apply Kd.S_drewN | apply Kd.S_drew)); exact Kd.S_mono (Kd.S_far (p := ⟨gb204, 1, none⟩) (Kd.S_far (p := ⟨gb204, 0, none⟩) (Kd.S_types HO199.out BK204.out (by decide)) (fun _ hk => hk.2) (.slice Ao10 t197.length co10)) (fun _ hk => hk.2) (.slice Ao12 t200.length co12)) (fun _ hk => trivial)⟩, ⟨by (with_reducible repeat (first | apply Kd.S_alloc | apply Kd.S_drewN | apply Kd.S_drew)); exact Kd.S_mono (Kd.S_far (p := ⟨gb204, 1, none⟩) (Kd.S_far (p := ⟨gb204, 0, none⟩) (Kd.S_types HO202.out BK204.out (by decide)) (fun _ hk => hk.2) (.slice Ao10 t197.length co10)) (fun _ hk => hk.2) (.slice Ao12 t200.length co12)) (fun _ hk => trivial)⟩, ⟨by (with_reducible repeat (first | refine blk_drewN ?_ _ | refine blk_drew ?_ | refine blk_alloc ?_ _)); refine blk_put (cs := #[.slice Ao10 t197.length co10, .slice none 0 0]) ?_ 1 _ rfl; (with_reducible repeat (first | refine blk_drewN ?_ _ | refine blk_drew ?_ | refine blk_alloc ?_ _)); refine blk_put (cs := #[.slice none 0 0, .slice none 0 0]) ?_ 0 _ rfl; (with_reducible repeat (first | refine blk_drewN ?_ _ | refine blk_drew ?_ | refine blk_alloc ?_ _)); exact BK204.out⟩, ⟨by repeat (first | (with_reducible first | exact HB.out | apply below_alloc | apply pw_below_drewN | apply below_drew1 | refine below_set ?_ GE204.out) | exact HB.out)⟩⟩
            · rw [if_neg c17] at H
              have c17b0 : decide (a4 < a3) = false := decide_eq_false c17
              clear c17
              have H' := Aside0.mk H
              clear H
              go_wp2
              go_meet
              case rel => exact ⟨_, (decide (a4 > (l1.length : Int))), (by first | rfl | (simp; done) | (simp [*]; done)), H', ⟨by first | omega | exact Nat.le_refl _⟩, ⟨by (with_reducible repeat (first | apply Kd.S_alloc | apply Kd.S_drewN | apply Kd.S_drew)); exact Kd.S_mono (Kd.S_far (p := ⟨gb204, 1, none⟩) (Kd.S_far (p := ⟨gb204, 0, none⟩) (Kd.S_types HO199.out BK204.out (by decide)) (fun _ hk => hk.2) (.slice Ao10 t197.length co10)) (fun _ hk => hk.2) (.slice Ao12 t200.length co12)) (fun _ hk => trivial)⟩, ⟨by (with_reducible repeat (first | apply Kd.S_alloc | apply Kd.S_drewN | apply Kd.S_drew)); exact Kd.S_mono (Kd.S_far (p := ⟨gb204, 1, none⟩) (Kd.S_far (p := ⟨gb204, 0, none⟩) (Kd.S_types HO202.out BK204.out (by decide)) (fun _ hk => hk.2) (.slice Ao10 t197.length co10)) (fun _ hk => hk.2) (.slice Ao12 t200.length co12)) (fun _ hk => trivial)⟩, ⟨by (with_reducible repeat (first | refine blk_drewN ?_ _ | refine blk_drew ?_ | refine blk_alloc ?_ _)); refine blk_put (cs := #[.slice Ao10 t197.length co10, .slice none 0 0]) ?_ 1 _ rfl; (with_reducible repeat (first | refine blk_drewN ?_ _ | refine blk_drew ?_ | refine blk_alloc ?_ _)); refine blk_put (cs := #[.slice none 0 0, .slice none 0 0]) ?_ 0 _ rfl; (with_reducible repeat (first | refine blk_drewN ?_ _ | refine blk_drew ?_ | refine blk_alloc ?_ _)); exact BK204.out⟩, ⟨by repeat (first | (with_reducible first | exact HB.out | apply below_alloc | apply pw_below_drewN | apply below_drew1 | refine below_set ?_ GE204.out) | exact HB.out)⟩⟩
    · replace c13 := Bool.eq_false_iff.mpr c13
      subst c13
      have H1 : (clock_Ticks.j0 k a2 a3 a4 true t197 t200) = some (r1, r2) := by rw [if_neg (show ¬ (false = true) by decide)] at H; exact H
      clear H
      have H := H1
      clear H1
      have H' := Aside0.mk H
      clear H
      go_wp2
      go_meet
      case rel => exact ⟨_, (true), (by first | rfl | (simp; done) | (simp [*]; done)), H', ⟨by first | omega | exact Nat.le_refl _⟩, ⟨by (with_reducible repeat (first | apply Kd.S_alloc | apply Kd.S_drewN | apply Kd.S_drew)); exact Kd.S_mono (Kd.S_far (p := ⟨gb204, 1, none⟩) (Kd.S_far (p := ⟨gb204, 0, none⟩) (Kd.S_types HO199.out BK204.out (by decide)) (fun _ hk => hk.2) (.slice Ao10 t197.length co10)) (fun _ hk => hk.2) (.slice Ao12 t200.length co12)) (fun _ hk => trivial)⟩, ⟨by (with_reducible repeat (first | apply Kd.S_alloc | apply Kd.S_drewN | apply Kd.S_drew)); exact Kd.S_mono (Kd.S_far (p := ⟨gb204, 1, none⟩) (Kd.S_far (p := ⟨gb204, 0, none⟩) (Kd.S_types HO202.out BK204.out (by decide)) (fun _ hk => hk.2) (.slice Ao10 t197.length co10)) (fun _ hk => hk.2) (.slice Ao12 t200.length co12)) (fun _ hk => trivial)⟩, ⟨by (with_reducible repeat (first | refine blk_drewN ?_ _ | refine blk_drew ?_ | refine blk_alloc ?_ _)); refine blk_put (cs := #[.slice Ao10 t197.length co10, .slice none 0 0]) ?_ 1 _ rfl; (with_reducible repeat (first | refine blk_drewN ?_ _ | refine blk_drew ?_ | refine blk_alloc ?_ _)); refine blk_put (cs := #[.slice none 0 0, .slice none 0 0]) ?_ 0 _ rfl; (with_reducible repeat (first | refine blk_drewN ?_ _ | refine blk_drew ?_ | refine blk_alloc ?_ _)); exact BK204.out⟩, ⟨by repeat (first | (with_reducible first | exact HB.out | apply below_alloc | apply pw_below_drewN | apply below_drew1 | refine below_set ?_ GE204.out) | exact HB.out)⟩⟩
  case rest =>
    clear HC7
    try clear c1
    try clear c2
    try clear p2
    try clear c4
    try clear c13
    try clear c14
    try clear c14b0
    try clear c15
    try clear c15b0
    try clear c16
    try clear c16b0
    try clear c17
    try clear c17b0
    try clear hcz11_0
    try clear hcz11_1
    try clear hfz11_0
    try clear hfz11_1
    obtain ⟨kq, x20_6, rfl, HA, HJ6, HO_205000, HO_205001, BK204, HB⟩ := hcut
    cases kq with
    | zero => exact absurd HA.out (by simp [clock_Ticks.j0])
    | succ kj6 =>
      have H := HA.out
      clear HA
      simp only [clock_Ticks.j0] at H
      by_cases c18 : x20_6 = true
      · subst c18
        have H1 : (some (0, 1)) = some (r1, r2) := by rw [if_pos rfl] at H; exact H
        clear H
        have H := H1
        clear H1
        simp only [Option.some.injEq, Prod.mk.injEq] at H
        obtain ⟨rfl, rfl⟩ := H
        go_wp2
        go_ret2
        exact ⟨by first | rfl | (simp [errW_none, errW_some] <;> rfl) | (simp [*, errW_none, errW_some] <;> rfl), by repeat (first | (with_reducible first | exact HB.out | apply below_alloc | apply pw_below_drewN | apply below_drew1 | refine below_set ?_ GE204.out) | exact HB.out)⟩
      · replace c18 := Bool.eq_false_iff.mpr c18
        subst c18
        have H1 : ((clock_history_up.f t197 t200 a2 a3 a4).bind fun t205 => (if t205 = true then ((clock_history_had.f t197 t200 a2 a3 a4).bind fun t206 => (some (t206, 0))) else (some (0, 7)))) = some (r1, r2) := by rw [if_neg (show ¬ (false = true) by decide)] at H; exact H
        clear H
        have H := H1
        clear H1
        replace H := Option.bind_eq_some_iff.mp H
        obtain ⟨t205, A190, H⟩ := H
        replace H : (if t205 = true then ((clock_history_had.f t197 t200 a2 a3 a4).bind fun t206 => (some (t206, 0))) else (some (0, 7))) = some (r1, r2) := H
        have A19 := Aside0.mk A190
        clear A190
        by_cases c20 : t205 = true
        · subst c20
          have H1 : ((clock_history_had.f t197 t200 a2 a3 a4).bind fun t206 => (some (t206, 0))) = some (r1, r2) := by rw [if_pos rfl] at H; exact H
          clear H
          have H := H1
          clear H1
          replace H := Option.bind_eq_some_iff.mp H
          obtain ⟨t206, A210, H⟩ := H
          replace H : (some (t206, 0)) = some (r1, r2) := H
          have A21 := Aside0.mk A210
          clear A210
          simp only [Option.some.injEq, Prod.mk.injEq] at H
          obtain ⟨rfl, rfl⟩ := H
          have hcz22_0 : wc.cell? ⟨gb204, 0, none⟩ = some (.slice Ao10 t197.length co10) := (blk_cell BK204.out 0).trans rfl
          have hcz22_1 : wc.cell? ⟨gb204, 1, none⟩ = some (.slice Ao12 t200.length co12) := (blk_cell BK204.out 1).trans rfl
          have hfz22_0 := blk_frozen BK204.out 0
          have hfz22_1 := blk_frozen BK204.out 1
          go_wp2_with (first | ((with_reducible refine gate_callee (f := 46) rfl ?_); refine goesL_ (some 52) rfl rfl Try.func46 (by kernel_rfl) rfl #[.agg #[.slice Ao10 t197.length co10, .slice Ao12 t200.length co12], .int .i64 a2, .int .i64 a3, .int .i64 a4] rfl (by (try simp only [List.map_toArray, List.map_cons, List.map_nil]); first | done | rfl | (simp only [List.length_drop, List.length_take]; rfl)) ?_; (with_reducible refine (clock_history_up.calls _ _ t197 _ _ t200 a2 a3 a4 true _ ?side1 ?side2 ?side3 ?side4 A19.out).mono ?_); (case side1 => repeat (first | exact (Kd.S_reads' HO_205000.out).2.2 | (with_reducible refine Kd.C_alloc ?_ _) | (with_reducible refine Kd.C_drewN ?_ _) | (with_reducible refine Kd.C_drew ?_))); (case side2 => exact (Kd.S_reads' HO_205000.out).2.1); (case side3 => repeat (first | exact (Kd.S_reads' HO_205001.out).2.2 | (with_reducible refine Kd.C_alloc ?_ _) | (with_reducible refine Kd.C_drewN ?_ _) | (with_reducible refine Kd.C_drew ?_))); (case side4 => exact (Kd.S_reads' HO_205001.out).2.1); rintro e w23 ⟨rfl, hb⟩; refine ⟨_, rfl, ?_⟩; have n0_ := Aside0.mk (Kd.S_below (by (with_reducible repeat (first | apply Kd.S_alloc | apply Kd.S_drewN | apply Kd.S_drew)); exact HO_205000.out) hb); have n1_ := Aside0.mk (Kd.S_below (by (with_reducible repeat (first | apply Kd.S_alloc | apply Kd.S_drewN | apply Kd.S_drew)); exact HO_205001.out) hb); have n2_ := Aside0.mk (blk_below (g := gb204) (o := .cells #[.slice Ao10 t197.length co10, .slice Ao12 t200.length co12] 81 (0, 0)) (by (with_reducible repeat (first | refine blk_drewN ?_ _ | refine blk_drew ?_ | refine blk_alloc ?_ _)); exact BK204.out) hb); have n3_ := Aside0.mk (below_step (by repeat (first | (with_reducible first | exact HB.out | apply below_alloc | apply pw_below_drewN | apply below_drew1 | refine below_set ?_ GE204.out) | exact HB.out)) hb); clear HO_205000; clear HO_205001; clear BK204; clear HB; have HO_205000 := n0_; have HO_205001 := n1_; have BK204 := n2_; have HB := n3_; clear n0_ n1_ n2_ n3_; (try clear hb); (try clear hb2); (try clear hk); (try clear hi); have hcz24_0 : w23.cell? ⟨gb204, 0, none⟩ = some (.slice Ao10 t197.length co10) := (blk_cell BK204.out 0).trans rfl; have hcz24_1 : w23.cell? ⟨gb204, 1, none⟩ = some (.slice Ao12 t200.length co12) := (blk_cell BK204.out 1).trans rfl; have hfz24_0 := blk_frozen BK204.out 0; have hfz24_1 := blk_frozen BK204.out 1) | ((with_reducible refine gate_callee (f := 47) rfl ?_); refine goesL_ (some 58) rfl rfl Try.func47 (by kernel_rfl) rfl #[.agg #[.slice Ao10 t197.length co10, .slice Ao12 t200.length co12], .int .i64 a2, .int .i64 a3, .int .i64 a4] rfl (by (try simp only [List.map_toArray, List.map_cons, List.map_nil]); first | done | rfl | (simp only [List.length_drop, List.length_take]; rfl)) ?_; (with_reducible refine (clock_history_had.calls _ _ t197 _ _ t200 a2 a3 a4 t206 _ ?side1 ?side2 ?side3 ?side4 A21.out).mono ?_); (case side1 => repeat (first | exact (Kd.S_reads' HO_205000.out).2.2 | (with_reducible refine Kd.C_alloc ?_ _) | (with_reducible refine Kd.C_drewN ?_ _) | (with_reducible refine Kd.C_drew ?_))); (case side2 => exact (Kd.S_reads' HO_205000.out).2.1); (case side3 => repeat (first | exact (Kd.S_reads' HO_205001.out).2.2 | (with_reducible refine Kd.C_alloc ?_ _) | (with_reducible refine Kd.C_drewN ?_ _) | (with_reducible refine Kd.C_drew ?_))); (case side4 => exact (Kd.S_reads' HO_205001.out).2.1); rintro e w25 ⟨rfl, hb⟩; refine ⟨_, rfl, ?_⟩; have n0_ := Aside0.mk (Kd.S_below (by (with_reducible repeat (first | apply Kd.S_alloc | apply Kd.S_drewN | apply Kd.S_drew)); exact HO_205000.out) hb); have n1_ := Aside0.mk (Kd.S_below (by (with_reducible repeat (first | apply Kd.S_alloc | apply Kd.S_drewN | apply Kd.S_drew)); exact HO_205001.out) hb); have n2_ := Aside0.mk (blk_below (g := gb204) (o := .cells #[.slice Ao10 t197.length co10, .slice Ao12 t200.length co12] 81 (0, 0)) (by (with_reducible repeat (first | refine blk_drewN ?_ _ | refine blk_drew ?_ | refine blk_alloc ?_ _)); exact BK204.out) hb); have n3_ := Aside0.mk (below_step (by repeat (first | (with_reducible first | exact HB.out | apply below_alloc | apply pw_below_drewN | apply below_drew1 | refine below_set ?_ GE204.out) | exact HB.out)) hb); clear HO_205000; clear HO_205001; clear BK204; clear HB; have HO_205000 := n0_; have HO_205001 := n1_; have BK204 := n2_; have HB := n3_; clear n0_ n1_ n2_ n3_; (try clear hb); (try clear hb2); (try clear hk); (try clear hi)))
          go_ret2
          exact ⟨by first | rfl | (simp [errW_none, errW_some] <;> rfl) | (simp [*, errW_none, errW_some] <;> rfl), by repeat (first | (with_reducible first | exact HB.out | apply below_alloc | apply pw_below_drewN | apply below_drew1 | refine below_set ?_ GE204.out) | exact HB.out)⟩
        · replace c20 := Bool.eq_false_iff.mpr c20
          subst c20
          have H1 : (some (0, 7)) = some (r1, r2) := by rw [if_neg (show ¬ (false = true) by decide)] at H; exact H
          clear H
          have H := H1
          clear H1
          simp only [Option.some.injEq, Prod.mk.injEq] at H
          obtain ⟨rfl, rfl⟩ := H
          have hcz26_0 : wc.cell? ⟨gb204, 0, none⟩ = some (.slice Ao10 t197.length co10) := (blk_cell BK204.out 0).trans rfl
          have hcz26_1 : wc.cell? ⟨gb204, 1, none⟩ = some (.slice Ao12 t200.length co12) := (blk_cell BK204.out 1).trans rfl
          have hfz26_0 := blk_frozen BK204.out 0
          have hfz26_1 := blk_frozen BK204.out 1
          go_wp2_with (first | ((with_reducible refine gate_callee (f := 46) rfl ?_); refine goesL_ (some 52) rfl rfl Try.func46 (by kernel_rfl) rfl #[.agg #[.slice Ao10 t197.length co10, .slice Ao12 t200.length co12], .int .i64 a2, .int .i64 a3, .int .i64 a4] rfl (by (try simp only [List.map_toArray, List.map_cons, List.map_nil]); first | done | rfl | (simp only [List.length_drop, List.length_take]; rfl)) ?_; (with_reducible refine (clock_history_up.calls _ _ t197 _ _ t200 a2 a3 a4 false _ ?side1 ?side2 ?side3 ?side4 A19.out).mono ?_); (case side1 => repeat (first | exact (Kd.S_reads' HO_205000.out).2.2 | (with_reducible refine Kd.C_alloc ?_ _) | (with_reducible refine Kd.C_drewN ?_ _) | (with_reducible refine Kd.C_drew ?_))); (case side2 => exact (Kd.S_reads' HO_205000.out).2.1); (case side3 => repeat (first | exact (Kd.S_reads' HO_205001.out).2.2 | (with_reducible refine Kd.C_alloc ?_ _) | (with_reducible refine Kd.C_drewN ?_ _) | (with_reducible refine Kd.C_drew ?_))); (case side4 => exact (Kd.S_reads' HO_205001.out).2.1); rintro e w27 ⟨rfl, hb⟩; refine ⟨_, rfl, ?_⟩; have n0_ := Aside0.mk (Kd.S_below (by (with_reducible repeat (first | apply Kd.S_alloc | apply Kd.S_drewN | apply Kd.S_drew)); exact HO_205000.out) hb); have n1_ := Aside0.mk (Kd.S_below (by (with_reducible repeat (first | apply Kd.S_alloc | apply Kd.S_drewN | apply Kd.S_drew)); exact HO_205001.out) hb); have n2_ := Aside0.mk (blk_below (g := gb204) (o := .cells #[.slice Ao10 t197.length co10, .slice Ao12 t200.length co12] 81 (0, 0)) (by (with_reducible repeat (first | refine blk_drewN ?_ _ | refine blk_drew ?_ | refine blk_alloc ?_ _)); exact BK204.out) hb); have n3_ := Aside0.mk (below_step (by repeat (first | (with_reducible first | exact HB.out | apply below_alloc | apply pw_below_drewN | apply below_drew1 | refine below_set ?_ GE204.out) | exact HB.out)) hb); clear HO_205000; clear HO_205001; clear BK204; clear HB; have HO_205000 := n0_; have HO_205001 := n1_; have BK204 := n2_; have HB := n3_; clear n0_ n1_ n2_ n3_; (try clear hb); (try clear hb2); (try clear hk); (try clear hi)))
          go_ret2
          exact ⟨by first | rfl | (simp [errW_none, errW_some] <;> rfl) | (simp [*, errW_none, errW_some] <;> rfl), by repeat (first | (with_reducible first | exact HB.out | apply below_alloc | apply pw_below_drewN | apply below_drew1 | refine below_set ?_ GE204.out) | exact HB.out)⟩

end Go.Proofs.Ytahppppkepcbkaa.Fn
