-- Written by program (a turned copy of the kit's print) for this seat: functions, contracts. Lean checks it.
import Derived.Test.YtahppppkepcbkaaFnx0
import Derived.Test.YtahppppkepcbkaaFnx5
import Derived.Test.YtahppppkepcbkaaFnx7
import Derived.Test.YtahppppkepcbkaaFnx10
import Derived.Test.YtahppppkepcbkaaFnx13
import Derived.Test.YtahppppkepcbkaaAw16
namespace Go.Proofs.Ytahppppkepcbkaa.Fn
open Go.RowKit Go.Proofs.YtahppppkepcbkaaW.PrintWords Go.Proofs.YtahppppkepcbkaaW.PrintLast Go.Proofs.YtahppppkepcbkaaW.PrintMore
attribute [local go_sem] max2_int min2_int max_two min_two max_three min_three max_four min_four   -- for this text's walks alone
set_option linter.unusedVariables false
set_option linter.unusedSimpArgs false

/-! ### tattlelaw04_ClockSplits: function 7 -/
mutual
def tattlelaw04_ClockSplits.j0 : Nat → Int → List (S87) → Bool → Int → List (S87) → Int → Int → Int → Int → Int → Option (Bool)
  | 0, _, _, _, _, _, _, _, _, _, _ => none
  | k + 1, x1, x5, x25, x233000, x233001, x233002, x233003, x233004, x233005, x233006 => if x25 = true then ((tattlelaw04_awakeT.f).bind fun t236 => (some t236)) else ((clock_Ticks.f k x233000 x5 x233004 x233005 x233006).bind fun bt237 => (if bt237.2 = 0 then (if (wrap64 ((wrap64 (x233006 - x233005)) + 1)) = 0 then (none) else ((clock_Ticks.f k x233000 x5 x233004 x233005 (wrap64 (x233005 + (Int.tmod (wrap64 (x1)) (wrap64 ((wrap64 (x233006 - x233005)) + 1)))))).bind fun bt239 => ((clock_Ticks.f k x233000 x5 x233004 (wrap64 (x233005 + (Int.tmod (wrap64 (x1)) (wrap64 ((wrap64 (x233006 - x233005)) + 1))))) x233006).bind fun bt241 => (if bt239.2 = 0 then (if bt241.2 = 0 then (tattlelaw04_ClockSplits.j1 k x1 x5 (bt237.1 != (wrap64 (bt239.1 + bt241.1))) x233000 x233001 x233002 x233003 x233004 x233005 x233006) else (tattlelaw04_ClockSplits.j1 k x1 x5 true x233000 x233001 x233002 x233003 x233004 x233005 x233006)) else (tattlelaw04_ClockSplits.j1 k x1 x5 true x233000 x233001 x233002 x233003 x233004 x233005 x233006))))) else ((clock_Near.f k x233000 x5 (x5.length : Int) (wrap64 (1 + (wrap64 (x1))))).bind fun bt247 => ((tattleref04_May.f k x233000 x5).bind fun t249 => (if (bt247.1 == t249) = true then (if ((bt247.2 == 0) == bt247.1) = true then ((tattlelaw04_awakeT.f).bind fun t250 => (some t250)) else (some false)) else (some false))))))
def tattlelaw04_ClockSplits.j1 : Nat → Int → List (S87) → Bool → Int → List (S87) → Int → Int → Int → Int → Int → Option (Bool)
  | 0, _, _, _, _, _, _, _, _, _, _ => none
  | k + 1, x1, x5, x90, x233000, x233001, x233002, x233003, x233004, x233005, x233006 => if x90 = true then (some false) else ((clock_Near.f k x233000 x5 (x5.length : Int) (wrap64 (1 + (wrap64 (x1))))).bind fun bt243 => ((tattleref04_May.f k x233000 x5).bind fun t245 => (if (bt243.1 == t245) = true then (if ((bt243.2 == 0) == bt243.1) = true then ((tattlelaw04_awakeT.f).bind fun t246 => (some t246)) else (some false)) else (some false))))
end
def tattlelaw04_ClockSplits.f (k : Nat) (a0_0 : Int) (l0_1 : List (S87)) (a0_2 : Int) (a0_3 : Int) (a0_4 : Int) (a0_5 : Int) (a0_6 : Int) (a1 : Int) : Option (Bool) := (tattlelaw04_Few.f k l0_1).bind fun t233 => (if a0_0 > 4 then (tattlelaw04_ClockSplits.j0 k a1 t233 true a0_0 l0_1 a0_2 a0_3 a0_4 a0_5 a0_6) else (tattlelaw04_ClockSplits.j0 k a1 t233 (decide ((t233.length : Int) > 24)) a0_0 l0_1 a0_2 a0_3 a0_4 a0_5 a0_6))
theorem tattlelaw04_ClockSplits.mono_l : ∀ k, (∀ y0 y1 y2 y3 y4 y5 y6 y7 y8 y9, LeO (tattlelaw04_ClockSplits.j0 k y0 y1 y2 y3 y4 y5 y6 y7 y8 y9) (tattlelaw04_ClockSplits.j0 (k + 1) y0 y1 y2 y3 y4 y5 y6 y7 y8 y9)) ∧ (∀ y0 y1 y2 y3 y4 y5 y6 y7 y8 y9, LeO (tattlelaw04_ClockSplits.j1 k y0 y1 y2 y3 y4 y5 y6 y7 y8 y9) (tattlelaw04_ClockSplits.j1 (k + 1) y0 y1 y2 y3 y4 y5 y6 y7 y8 y9))
  | 0 => ⟨fun _ _ _ _ _ _ _ _ _ _ r h => by simp [tattlelaw04_ClockSplits.j0] at h, fun _ _ _ _ _ _ _ _ _ _ r h => by simp [tattlelaw04_ClockSplits.j1] at h⟩
  | k + 1 => by
    obtain ⟨ih0, ih1⟩ := tattlelaw04_ClockSplits.mono_l k
    refine ⟨?_, ?_⟩
    · intro y0 y1 y2 y3 y4 y5 y6 y7 y8 y9
      unfold tattlelaw04_ClockSplits.j0
      repeat' first
      | (with_reducible exact ih0 _ _ _ _ _ _ _ _ _ _)
      | (with_reducible exact ih1 _ _ _ _ _ _ _ _ _ _)
      | (with_reducible exact clock_Near.mono _ _ _ _ _)
      | (with_reducible exact clock_Ticks.mono _ _ _ _ _ _)
      | (with_reducible exact tattlelaw04_Few.mono _ _)
      | (with_reducible exact tattleref04_May.mono _ _ _)
      | (with_reducible exact LeO.refl _)
      | (with_reducible exact LeO.none _)
      | (with_reducible refine LeO.ite ?_ ?_)
      | (with_reducible refine LeO.bind ?_ (fun _ => ?_))
      | exact ih0 _ _ _ _ _ _ _ _ _ _
      | exact ih1 _ _ _ _ _ _ _ _ _ _
      | exact clock_Near.mono _ _ _ _ _
      | exact clock_Ticks.mono _ _ _ _ _ _
      | exact tattlelaw04_Few.mono _ _
      | exact tattleref04_May.mono _ _ _
      | exact LeO.none _
      | refine LeO.ite ?_ ?_
      | refine LeO.bind ?_ (fun _ => ?_)
    · intro y0 y1 y2 y3 y4 y5 y6 y7 y8 y9
      unfold tattlelaw04_ClockSplits.j1
      repeat' first
      | (with_reducible exact ih0 _ _ _ _ _ _ _ _ _ _)
      | (with_reducible exact ih1 _ _ _ _ _ _ _ _ _ _)
      | (with_reducible exact clock_Near.mono _ _ _ _ _)
      | (with_reducible exact clock_Ticks.mono _ _ _ _ _ _)
      | (with_reducible exact tattlelaw04_Few.mono _ _)
      | (with_reducible exact tattleref04_May.mono _ _ _)
      | (with_reducible exact LeO.refl _)
      | (with_reducible exact LeO.none _)
      | (with_reducible refine LeO.ite ?_ ?_)
      | (with_reducible refine LeO.bind ?_ (fun _ => ?_))
      | exact ih0 _ _ _ _ _ _ _ _ _ _
      | exact ih1 _ _ _ _ _ _ _ _ _ _
      | exact clock_Near.mono _ _ _ _ _
      | exact clock_Ticks.mono _ _ _ _ _ _
      | exact tattlelaw04_Few.mono _ _
      | exact tattleref04_May.mono _ _ _
      | exact LeO.none _
      | refine LeO.ite ?_ ?_
      | refine LeO.bind ?_ (fun _ => ?_)
theorem tattlelaw04_ClockSplits.mono : ∀ a0 a1 a2 a3 a4 a5 a6 a7 k, LeO (tattlelaw04_ClockSplits.f k a0 a1 a2 a3 a4 a5 a6 a7) (tattlelaw04_ClockSplits.f (k + 1) a0 a1 a2 a3 a4 a5 a6 a7) := by
  intro a0 a1 a2 a3 a4 a5 a6 a7 k
  obtain ⟨ih0, ih1⟩ := tattlelaw04_ClockSplits.mono_l k
  unfold tattlelaw04_ClockSplits.f
  repeat' first
      | (with_reducible exact ih0 _ _ _ _ _ _ _ _ _ _)
      | (with_reducible exact ih1 _ _ _ _ _ _ _ _ _ _)
      | (with_reducible exact clock_Near.mono _ _ _ _ _)
      | (with_reducible exact clock_Ticks.mono _ _ _ _ _ _)
      | (with_reducible exact tattlelaw04_Few.mono _ _)
      | (with_reducible exact tattleref04_May.mono _ _ _)
      | (with_reducible exact LeO.refl _)
      | (with_reducible exact LeO.none _)
      | (with_reducible refine LeO.ite ?_ ?_)
      | (with_reducible refine LeO.bind ?_ (fun _ => ?_))
      | exact ih0 _ _ _ _ _ _ _ _ _ _
      | exact ih1 _ _ _ _ _ _ _ _ _ _
      | exact clock_Near.mono _ _ _ _ _
      | exact clock_Ticks.mono _ _ _ _ _ _
      | exact tattlelaw04_Few.mono _ _
      | exact tattleref04_May.mono _ _ _
      | exact LeO.none _
      | refine LeO.ite ?_ ?_
      | refine LeO.bind ?_ (fun _ => ?_)
set_option maxHeartbeats 8000000 in
set_option maxRecDepth 100000 in
theorem tattlelaw04_ClockSplits.calls (k : Nat) (a0_0 : Int) (A0_1 : Option Addr) (c0_1 : Nat) (l0_1 : List (S87)) (a0_2 : Int) (a0_3 : Int) (a0_4 : Int) (a0_5 : Int) (a0_6 : Int) (a1 : Int) (r : Bool) (w : World) (hr0_1 : Kd.C k87 w A0_1 l0_1.length l0_1) (hc0_1 : l0_1.length ≤ c0_1) (hrt : Aside0 (r = true)) (h : tattlelaw04_ClockSplits.f k a0_0 l0_1 a0_2 a0_3 a0_4 a0_5 a0_6 a1 = some r) :
    Calls Try.prog 7 #[.agg #[.int .i64 a0_0, .slice A0_1 l0_1.length c0_1, .int .i64 a0_2, .int .i64 a0_3, .int .i64 a0_4, .int .i64 a0_5, .int .i64 a0_6], .int .u8 a1] w fun e w' => e = .returned (.bool r) ∧ Below w.heap.size w w' := by
  have hu31 := Try.underlying31
  have HR0_1 := Aside0.mk hr0_1
  have HC0_1 := Aside0.mk hc0_1
  clear hr0_1 hc0_1
  have HB := Aside0.mk (Below.refl w.heap.size w)
  have H : ((tattlelaw04_Few.f k l0_1).bind fun t233 => (if a0_0 > 4 then (tattlelaw04_ClockSplits.j0 k a1 t233 true a0_0 l0_1 a0_2 a0_3 a0_4 a0_5 a0_6) else (tattlelaw04_ClockSplits.j0 k a1 t233 (decide ((t233.length : Int) > 24)) a0_0 l0_1 a0_2 a0_3 a0_4 a0_5 a0_6))) = some r := h
  clear h
  replace H := Option.bind_eq_some_iff.mp H
  obtain ⟨t233, A30, H⟩ := H
  replace H : (if a0_0 > 4 then (tattlelaw04_ClockSplits.j0 k a1 t233 true a0_0 l0_1 a0_2 a0_3 a0_4 a0_5 a0_6) else (tattlelaw04_ClockSplits.j0 k a1 t233 (decide ((t233.length : Int) > 24)) a0_0 l0_1 a0_2 a0_3 a0_4 a0_5 a0_6)) = some r := H
  have A3 := Aside0.mk A30
  clear A30
  have HC4 := Aside0.mk H
  clear H
  go_enter Try.func7, Try.ntmps7
  go_upto_region 2 with (first | ((with_reducible refine gate_dst (N := 2) rfl ?_); (try (refine gate_guard (by rfl) ?_; dsimp only)); refine box_event ?hg (N := 2) ?hd (cs := #[.int .i64 a0_0, .slice A0_1 l0_1.length c0_1, .int .i64 a0_2, .int .i64 a0_3, .int .i64 a0_4, .int .i64 a0_5, .int .i64 a0_6]) (t := 31) ?hr ?_; (case hd => rfl); (case hg => rfl); (case hr => first | (go_simp; done) | (go_simp; rfl)); intro gb232 hg w5 hbox hb; have n0_ := Aside0.mk (below_step (by repeat (first | (with_reducible first | exact HB.out | apply below_alloc | apply pw_below_drewN | apply below_drew1) | exact HB.out)) hb); have n1_ := Aside0.mk (hbox); have n2_ := Aside0.mk ((by rw [hg]; exact (below_size (by repeat (first | (with_reducible first | exact HB.out | apply below_alloc | apply pw_below_drewN | apply below_drew1) | exact HB.out))) : w.heap.size ≤ gb232)); have n3_ := Aside0.mk ((by rw [hg]; exact (below_size (by repeat (first | (with_reducible first | exact HB.out | apply below_alloc | apply pw_below_drewN | apply below_drew1) | exact HB.out))) : w.heap.size ≤ gb232)); clear HB; have HB := n0_; have BK232 := n1_; have GW232 := n2_; have GE232 := n3_; clear n0_ n1_ n2_ n3_; clear hb hbox hg; have hcz6_0 : w5.cell? ⟨gb232, 0, none⟩ = some (.int .i64 a0_0) := (blk_cell BK232.out 0).trans rfl; have hcz6_1 : w5.cell? ⟨gb232, 1, none⟩ = some (.slice A0_1 l0_1.length c0_1) := (blk_cell BK232.out 1).trans rfl; have hcz6_2 : w5.cell? ⟨gb232, 2, none⟩ = some (.int .i64 a0_2) := (blk_cell BK232.out 2).trans rfl; have hcz6_3 : w5.cell? ⟨gb232, 3, none⟩ = some (.int .i64 a0_3) := (blk_cell BK232.out 3).trans rfl; have hcz6_4 : w5.cell? ⟨gb232, 4, none⟩ = some (.int .i64 a0_4) := (blk_cell BK232.out 4).trans rfl; have hcz6_5 : w5.cell? ⟨gb232, 5, none⟩ = some (.int .i64 a0_5) := (blk_cell BK232.out 5).trans rfl; have hcz6_6 : w5.cell? ⟨gb232, 6, none⟩ = some (.int .i64 a0_6) := (blk_cell BK232.out 6).trans rfl; have hfz6_0 := blk_frozen BK232.out 0; have hfz6_1 := blk_frozen BK232.out 1; have hfz6_2 := blk_frozen BK232.out 2; have hfz6_3 := blk_frozen BK232.out 3; have hfz6_4 := blk_frozen BK232.out 4; have hfz6_5 := blk_frozen BK232.out 5; have hfz6_6 := blk_frozen BK232.out 6) | (go_at_call 18; (with_reducible refine (tattlelaw04_Few.calls k (fun k_ => k_ < w.heap.size) _ _ l0_1 t233 _ ?side1 A3.out).mono ?_); (case side1 => exact Kd.V_mk HC0_1.out (Kd.F_below (Kd.C_F k87_heap HR0_1.out) (by repeat (first | (with_reducible first | exact HB.out | apply below_alloc | apply pw_below_drewN | apply below_drew1 | refine below_set ?_ GE232.out) | exact HB.out)))); rintro e w7 ⟨v234, rfl, ho0, hb⟩; have n0_ := Aside0.mk (Kd.V_lower (Kd.V_mono (ok' := fun k_ => k_ ≠ gb232) ho0 (fun k_ hk_ => Or.elim hk_ (fun hs_ => fun e_ => Nat.not_le.2 hs_ (by rw [e_]; exact GW232.out)) (fun hn_ => (Kd.freshB (g := gb232) (o := .cells #[.int .i64 a0_0, .slice A0_1 l0_1.length c0_1, .int .i64 a0_2, .int .i64 a0_3, .int .i64 a0_4, .int .i64 a0_5, .int .i64 a0_6] 31 (0, 0)) (by (with_reducible repeat (first | refine blk_drewN ?_ _ | refine blk_drew ?_ | refine blk_alloc ?_ _)); exact BK232.out) k_ hn_)))) (below_size (by repeat (first | (with_reducible first | exact HB.out | apply below_alloc | apply pw_below_drewN | apply below_drew1 | refine below_set ?_ GE232.out) | exact HB.out)))); have n1_ := Aside0.mk (blk_below (g := gb232) (o := .cells #[.int .i64 a0_0, .slice A0_1 l0_1.length c0_1, .int .i64 a0_2, .int .i64 a0_3, .int .i64 a0_4, .int .i64 a0_5, .int .i64 a0_6] 31 (0, 0)) (by (with_reducible repeat (first | refine blk_drewN ?_ _ | refine blk_drew ?_ | refine blk_alloc ?_ _)); exact BK232.out) hb); have n2_ := Aside0.mk (below_step (by repeat (first | (with_reducible first | exact HB.out | apply below_alloc | apply pw_below_drewN | apply below_drew1 | refine below_set ?_ GE232.out) | exact HB.out)) hb); clear BK232; clear HB; have HO235 := n0_; have BK232 := n1_; have HB := n2_; clear n0_ n1_ n2_; (try clear hb); (try clear hb2); (try clear hk); (try clear hi); (try clear ho0)))
  repeat (go_quiet (first | ((with_reducible refine gate_dst (N := 2) rfl ?_); (try (refine gate_guard (by rfl) ?_; dsimp only)); refine box_event ?hg (N := 2) ?hd (cs := #[.int .i64 a0_0, .slice A0_1 l0_1.length c0_1, .int .i64 a0_2, .int .i64 a0_3, .int .i64 a0_4, .int .i64 a0_5, .int .i64 a0_6]) (t := 31) ?hr ?_; (case hd => rfl); (case hg => rfl); (case hr => first | (go_simp; done) | (go_simp; rfl)); intro gb232 hg w5 hbox hb; have n0_ := Aside0.mk (below_step (by repeat (first | (with_reducible first | exact HB.out | apply below_alloc | apply pw_below_drewN | apply below_drew1) | exact HB.out)) hb); have n1_ := Aside0.mk (hbox); have n2_ := Aside0.mk ((by rw [hg]; exact (below_size (by repeat (first | (with_reducible first | exact HB.out | apply below_alloc | apply pw_below_drewN | apply below_drew1) | exact HB.out))) : w.heap.size ≤ gb232)); have n3_ := Aside0.mk ((by rw [hg]; exact (below_size (by repeat (first | (with_reducible first | exact HB.out | apply below_alloc | apply pw_below_drewN | apply below_drew1) | exact HB.out))) : w.heap.size ≤ gb232)); clear HB; have HB := n0_; have BK232 := n1_; have GW232 := n2_; have GE232 := n3_; clear n0_ n1_ n2_ n3_; clear hb hbox hg; have hcz6_0 : w5.cell? ⟨gb232, 0, none⟩ = some (.int .i64 a0_0) := (blk_cell BK232.out 0).trans rfl; have hcz6_1 : w5.cell? ⟨gb232, 1, none⟩ = some (.slice A0_1 l0_1.length c0_1) := (blk_cell BK232.out 1).trans rfl; have hcz6_2 : w5.cell? ⟨gb232, 2, none⟩ = some (.int .i64 a0_2) := (blk_cell BK232.out 2).trans rfl; have hcz6_3 : w5.cell? ⟨gb232, 3, none⟩ = some (.int .i64 a0_3) := (blk_cell BK232.out 3).trans rfl; have hcz6_4 : w5.cell? ⟨gb232, 4, none⟩ = some (.int .i64 a0_4) := (blk_cell BK232.out 4).trans rfl; have hcz6_5 : w5.cell? ⟨gb232, 5, none⟩ = some (.int .i64 a0_5) := (blk_cell BK232.out 5).trans rfl; have hcz6_6 : w5.cell? ⟨gb232, 6, none⟩ = some (.int .i64 a0_6) := (blk_cell BK232.out 6).trans rfl; have hfz6_0 := blk_frozen BK232.out 0; have hfz6_1 := blk_frozen BK232.out 1; have hfz6_2 := blk_frozen BK232.out 2; have hfz6_3 := blk_frozen BK232.out 3; have hfz6_4 := blk_frozen BK232.out 4; have hfz6_5 := blk_frozen BK232.out 5; have hfz6_6 := blk_frozen BK232.out 6) | (go_at_call 18; (with_reducible refine (tattlelaw04_Few.calls k (fun k_ => k_ < w.heap.size) _ _ l0_1 t233 _ ?side1 A3.out).mono ?_); (case side1 => exact Kd.V_mk HC0_1.out (Kd.F_below (Kd.C_F k87_heap HR0_1.out) (by repeat (first | (with_reducible first | exact HB.out | apply below_alloc | apply pw_below_drewN | apply below_drew1 | refine below_set ?_ GE232.out) | exact HB.out)))); rintro e w7 ⟨v234, rfl, ho0, hb⟩; have n0_ := Aside0.mk (Kd.V_lower (Kd.V_mono (ok' := fun k_ => k_ ≠ gb232) ho0 (fun k_ hk_ => Or.elim hk_ (fun hs_ => fun e_ => Nat.not_le.2 hs_ (by rw [e_]; exact GW232.out)) (fun hn_ => (Kd.freshB (g := gb232) (o := .cells #[.int .i64 a0_0, .slice A0_1 l0_1.length c0_1, .int .i64 a0_2, .int .i64 a0_3, .int .i64 a0_4, .int .i64 a0_5, .int .i64 a0_6] 31 (0, 0)) (by (with_reducible repeat (first | refine blk_drewN ?_ _ | refine blk_drew ?_ | refine blk_alloc ?_ _)); exact BK232.out) k_ hn_)))) (below_size (by repeat (first | (with_reducible first | exact HB.out | apply below_alloc | apply pw_below_drewN | apply below_drew1 | refine below_set ?_ GE232.out) | exact HB.out)))); have n1_ := Aside0.mk (blk_below (g := gb232) (o := .cells #[.int .i64 a0_0, .slice A0_1 l0_1.length c0_1, .int .i64 a0_2, .int .i64 a0_3, .int .i64 a0_4, .int .i64 a0_5, .int .i64 a0_6] 31 (0, 0)) (by (with_reducible repeat (first | refine blk_drewN ?_ _ | refine blk_drew ?_ | refine blk_alloc ?_ _)); exact BK232.out) hb); have n2_ := Aside0.mk (below_step (by repeat (first | (with_reducible first | exact HB.out | apply below_alloc | apply pw_below_drewN | apply below_drew1 | refine below_set ?_ GE232.out) | exact HB.out)) hb); clear BK232; clear HB; have HO235 := n0_; have BK232 := n1_; have HB := n2_; clear n0_ n1_ n2_; (try clear hb); (try clear hb2); (try clear hk); (try clear hi); (try clear ho0))); go_upto_region 2 with (first | ((with_reducible refine gate_dst (N := 2) rfl ?_); (try (refine gate_guard (by rfl) ?_; dsimp only)); refine box_event ?hg (N := 2) ?hd (cs := #[.int .i64 a0_0, .slice A0_1 l0_1.length c0_1, .int .i64 a0_2, .int .i64 a0_3, .int .i64 a0_4, .int .i64 a0_5, .int .i64 a0_6]) (t := 31) ?hr ?_; (case hd => rfl); (case hg => rfl); (case hr => first | (go_simp; done) | (go_simp; rfl)); intro gb232 hg w5 hbox hb; have n0_ := Aside0.mk (below_step (by repeat (first | (with_reducible first | exact HB.out | apply below_alloc | apply pw_below_drewN | apply below_drew1) | exact HB.out)) hb); have n1_ := Aside0.mk (hbox); have n2_ := Aside0.mk ((by rw [hg]; exact (below_size (by repeat (first | (with_reducible first | exact HB.out | apply below_alloc | apply pw_below_drewN | apply below_drew1) | exact HB.out))) : w.heap.size ≤ gb232)); have n3_ := Aside0.mk ((by rw [hg]; exact (below_size (by repeat (first | (with_reducible first | exact HB.out | apply below_alloc | apply pw_below_drewN | apply below_drew1) | exact HB.out))) : w.heap.size ≤ gb232)); clear HB; have HB := n0_; have BK232 := n1_; have GW232 := n2_; have GE232 := n3_; clear n0_ n1_ n2_ n3_; clear hb hbox hg; have hcz6_0 : w5.cell? ⟨gb232, 0, none⟩ = some (.int .i64 a0_0) := (blk_cell BK232.out 0).trans rfl; have hcz6_1 : w5.cell? ⟨gb232, 1, none⟩ = some (.slice A0_1 l0_1.length c0_1) := (blk_cell BK232.out 1).trans rfl; have hcz6_2 : w5.cell? ⟨gb232, 2, none⟩ = some (.int .i64 a0_2) := (blk_cell BK232.out 2).trans rfl; have hcz6_3 : w5.cell? ⟨gb232, 3, none⟩ = some (.int .i64 a0_3) := (blk_cell BK232.out 3).trans rfl; have hcz6_4 : w5.cell? ⟨gb232, 4, none⟩ = some (.int .i64 a0_4) := (blk_cell BK232.out 4).trans rfl; have hcz6_5 : w5.cell? ⟨gb232, 5, none⟩ = some (.int .i64 a0_5) := (blk_cell BK232.out 5).trans rfl; have hcz6_6 : w5.cell? ⟨gb232, 6, none⟩ = some (.int .i64 a0_6) := (blk_cell BK232.out 6).trans rfl; have hfz6_0 := blk_frozen BK232.out 0; have hfz6_1 := blk_frozen BK232.out 1; have hfz6_2 := blk_frozen BK232.out 2; have hfz6_3 := blk_frozen BK232.out 3; have hfz6_4 := blk_frozen BK232.out 4; have hfz6_5 := blk_frozen BK232.out 5; have hfz6_6 := blk_frozen BK232.out 6) | (go_at_call 18; (with_reducible refine (tattlelaw04_Few.calls k (fun k_ => k_ < w.heap.size) _ _ l0_1 t233 _ ?side1 A3.out).mono ?_); (case side1 => exact Kd.V_mk HC0_1.out (Kd.F_below (Kd.C_F k87_heap HR0_1.out) (by repeat (first | (with_reducible first | exact HB.out | apply below_alloc | apply pw_below_drewN | apply below_drew1 | refine below_set ?_ GE232.out) | exact HB.out)))); rintro e w7 ⟨v234, rfl, ho0, hb⟩; have n0_ := Aside0.mk (Kd.V_lower (Kd.V_mono (ok' := fun k_ => k_ ≠ gb232) ho0 (fun k_ hk_ => Or.elim hk_ (fun hs_ => fun e_ => Nat.not_le.2 hs_ (by rw [e_]; exact GW232.out)) (fun hn_ => (Kd.freshB (g := gb232) (o := .cells #[.int .i64 a0_0, .slice A0_1 l0_1.length c0_1, .int .i64 a0_2, .int .i64 a0_3, .int .i64 a0_4, .int .i64 a0_5, .int .i64 a0_6] 31 (0, 0)) (by (with_reducible repeat (first | refine blk_drewN ?_ _ | refine blk_drew ?_ | refine blk_alloc ?_ _)); exact BK232.out) k_ hn_)))) (below_size (by repeat (first | (with_reducible first | exact HB.out | apply below_alloc | apply pw_below_drewN | apply below_drew1 | refine below_set ?_ GE232.out) | exact HB.out)))); have n1_ := Aside0.mk (blk_below (g := gb232) (o := .cells #[.int .i64 a0_0, .slice A0_1 l0_1.length c0_1, .int .i64 a0_2, .int .i64 a0_3, .int .i64 a0_4, .int .i64 a0_5, .int .i64 a0_6] 31 (0, 0)) (by (with_reducible repeat (first | refine blk_drewN ?_ _ | refine blk_drew ?_ | refine blk_alloc ?_ _)); exact BK232.out) hb); have n2_ := Aside0.mk (below_step (by repeat (first | (with_reducible first | exact HB.out | apply below_alloc | apply pw_below_drewN | apply below_drew1 | refine below_set ?_ GE232.out) | exact HB.out)) hb); clear BK232; clear HB; have HO235 := n0_; have BK232 := n1_; have HB := n2_; clear n0_ n1_ n2_; (try clear hb); (try clear hb2); (try clear hk); (try clear hi); (try clear ho0))))
  (try simp only [Act.put, List.setIfInBounds_toArray, List.set_cons_zero, List.set_cons_succ])
  go_cut [25] (fun v25 wc => ∃ (kq : Nat) (x25_3 : Bool), v25 = .bool x25_3 ∧ Aside0 (tattlelaw04_ClockSplits.j0 kq a1 t233 x25_3 a0_0 l0_1 a0_2 a0_3 a0_4 a0_5 a0_6 = some r) ∧ Aside0 (kq ≤ k) ∧ Aside0 (Kd.V k87 87 wc w.heap.size (fun k_ => k_ ≠ gb232) v234 t233) ∧ Aside0 (wc.heap[gb232]? = some (.cells #[.int .i64 a0_0, (.slice A0_1 l0_1.length c0_1), .int .i64 a0_2, .int .i64 a0_3, .int .i64 a0_4, .int .i64 a0_5, .int .i64 a0_6] 31 (0, 0))) ∧ Aside0 (Below w.heap.size w wc))
  case first =>
    have H := HC4.out
    clear HC4
    by_cases c8 : a0_0 > 4
    · rw [if_pos c8] at H
      have c8b0 : decide (4 < a0_0) = true := decide_eq_true c8
      clear c8
      (first | rw [c8b0] | (simp only [i64_w, i32_w]; rw [c8b0]) | skip)
      have H' := Aside0.mk H
      clear H
      have hcz9_0 : w7.cell? ⟨gb232, 0, none⟩ = some (.int .i64 a0_0) := (blk_cell BK232.out 0).trans rfl
      have hcz9_1 : w7.cell? ⟨gb232, 1, none⟩ = some (.slice A0_1 l0_1.length c0_1) := (blk_cell BK232.out 1).trans rfl
      have hcz9_2 : w7.cell? ⟨gb232, 2, none⟩ = some (.int .i64 a0_2) := (blk_cell BK232.out 2).trans rfl
      have hcz9_3 : w7.cell? ⟨gb232, 3, none⟩ = some (.int .i64 a0_3) := (blk_cell BK232.out 3).trans rfl
      have hcz9_4 : w7.cell? ⟨gb232, 4, none⟩ = some (.int .i64 a0_4) := (blk_cell BK232.out 4).trans rfl
      have hcz9_5 : w7.cell? ⟨gb232, 5, none⟩ = some (.int .i64 a0_5) := (blk_cell BK232.out 5).trans rfl
      have hcz9_6 : w7.cell? ⟨gb232, 6, none⟩ = some (.int .i64 a0_6) := (blk_cell BK232.out 6).trans rfl
      have hfz9_0 := blk_frozen BK232.out 0
      have hfz9_1 := blk_frozen BK232.out 1
      have hfz9_2 := blk_frozen BK232.out 2
      have hfz9_3 := blk_frozen BK232.out 3
      have hfz9_4 := blk_frozen BK232.out 4
      have hfz9_5 := blk_frozen BK232.out 5
      have hfz9_6 := blk_frozen BK232.out 6
      go_wp2
      repeat (go_quiet (fail); try go_wp2)
      go_meet
      case rel => exact ⟨_, (true), (by first | rfl | (simp; done) | (simp [*]; done)), H', ⟨by first | omega | exact Nat.le_refl _⟩, ⟨by (with_reducible repeat (first | apply Kd.V_alloc | apply Kd.V_drewN | apply Kd.V_drew)); exact HO235.out⟩, ⟨by (with_reducible repeat (first | refine blk_drewN ?_ _ | refine blk_drew ?_ | refine blk_alloc ?_ _)); exact BK232.out⟩, ⟨by repeat (first | (with_reducible first | exact HB.out | apply below_alloc | apply pw_below_drewN | apply below_drew1 | refine below_set ?_ GE232.out) | exact HB.out)⟩⟩
    · rw [if_neg c8] at H
      have c8b0 : decide (4 < a0_0) = false := decide_eq_false c8
      clear c8
      (first | rw [c8b0] | (simp only [i64_w, i32_w]; rw [c8b0]) | skip)
      have H' := Aside0.mk H
      clear H
      have hcz10_0 : w7.cell? ⟨gb232, 0, none⟩ = some (.int .i64 a0_0) := (blk_cell BK232.out 0).trans rfl
      have hcz10_1 : w7.cell? ⟨gb232, 1, none⟩ = some (.slice A0_1 l0_1.length c0_1) := (blk_cell BK232.out 1).trans rfl
      have hcz10_2 : w7.cell? ⟨gb232, 2, none⟩ = some (.int .i64 a0_2) := (blk_cell BK232.out 2).trans rfl
      have hcz10_3 : w7.cell? ⟨gb232, 3, none⟩ = some (.int .i64 a0_3) := (blk_cell BK232.out 3).trans rfl
      have hcz10_4 : w7.cell? ⟨gb232, 4, none⟩ = some (.int .i64 a0_4) := (blk_cell BK232.out 4).trans rfl
      have hcz10_5 : w7.cell? ⟨gb232, 5, none⟩ = some (.int .i64 a0_5) := (blk_cell BK232.out 5).trans rfl
      have hcz10_6 : w7.cell? ⟨gb232, 6, none⟩ = some (.int .i64 a0_6) := (blk_cell BK232.out 6).trans rfl
      have hfz10_0 := blk_frozen BK232.out 0
      have hfz10_1 := blk_frozen BK232.out 1
      have hfz10_2 := blk_frozen BK232.out 2
      have hfz10_3 := blk_frozen BK232.out 3
      have hfz10_4 := blk_frozen BK232.out 4
      have hfz10_5 := blk_frozen BK232.out 5
      have hfz10_6 := blk_frozen BK232.out 6
      obtain ⟨Ao11, co11, eo11⟩ := Kd.V_slice HO235.out
      subst eo11
      go_wp2
      repeat (go_quiet (fail); try go_wp2)
      go_meet
      case rel => exact ⟨_, (decide ((t233.length : Int) > 24)), (by first | rfl | (simp; done) | (simp [*]; done)), H', ⟨by first | omega | exact Nat.le_refl _⟩, ⟨by (with_reducible repeat (first | apply Kd.V_alloc | apply Kd.V_drewN | apply Kd.V_drew)); exact HO235.out⟩, ⟨by (with_reducible repeat (first | refine blk_drewN ?_ _ | refine blk_drew ?_ | refine blk_alloc ?_ _)); exact BK232.out⟩, ⟨by repeat (first | (with_reducible first | exact HB.out | apply below_alloc | apply pw_below_drewN | apply below_drew1 | refine below_set ?_ GE232.out) | exact HB.out)⟩⟩
  case rest =>
    clear HC4
    try clear p2
    try clear c7
    try clear c8
    try clear c8b0
    try clear hcz10_0
    try clear hcz10_1
    try clear hcz10_2
    try clear hcz10_3
    try clear hcz10_4
    try clear hcz10_5
    try clear hcz10_6
    try clear hcz6_0
    try clear hcz6_1
    try clear hcz6_2
    try clear hcz6_3
    try clear hcz6_4
    try clear hcz6_5
    try clear hcz6_6
    try clear hcz9_0
    try clear hcz9_1
    try clear hcz9_2
    try clear hcz9_3
    try clear hcz9_4
    try clear hcz9_5
    try clear hcz9_6
    try clear hfz10_0
    try clear hfz10_1
    try clear hfz10_2
    try clear hfz10_3
    try clear hfz10_4
    try clear hfz10_5
    try clear hfz10_6
    try clear hfz6_0
    try clear hfz6_1
    try clear hfz6_2
    try clear hfz6_3
    try clear hfz6_4
    try clear hfz6_5
    try clear hfz6_6
    try clear hfz9_0
    try clear hfz9_1
    try clear hfz9_2
    try clear hfz9_3
    try clear hfz9_4
    try clear hfz9_5
    try clear hfz9_6
    obtain ⟨kq, x25_3, rfl, HA, HJ3, HO_5, BK232, HB⟩ := hcut
    cases kq with
    | zero => exact absurd HA.out (by simp [tattlelaw04_ClockSplits.j0])
    | succ kj3 =>
      have H := HA.out
      clear HA
      simp only [tattlelaw04_ClockSplits.j0] at H
      by_cases c12 : x25_3 = true
      · subst c12
        have H1 : ((tattlelaw04_awakeT.f).bind fun t236 => (some t236)) = some r := by rw [if_pos rfl] at H; exact H
        clear H
        have H := H1
        clear H1
        replace H := Option.bind_eq_some_iff.mp H
        obtain ⟨t236, A130, H⟩ := H
        replace H : (some t236) = some r := H
        have A13 := Aside0.mk A130
        clear A130
        obtain rfl := Option.some.inj H
        go_wp2_with (first | (go_at_call 16; (with_reducible refine (tattlelaw04_awakeT.calls  t236 _ A13.out).mono ?_); rintro e w14 ⟨rfl, hb⟩; have n0_ := Aside0.mk (blk_below (g := gb232) (o := .cells #[.int .i64 a0_0, .slice A0_1 l0_1.length c0_1, .int .i64 a0_2, .int .i64 a0_3, .int .i64 a0_4, .int .i64 a0_5, .int .i64 a0_6] 31 (0, 0)) (by (with_reducible repeat (first | refine blk_drewN ?_ _ | refine blk_drew ?_ | refine blk_alloc ?_ _)); exact BK232.out) hb); have n1_ := Aside0.mk (below_step (by repeat (first | (with_reducible first | exact HB.out | apply below_alloc | apply pw_below_drewN | apply below_drew1 | refine below_set ?_ GE232.out) | exact HB.out)) hb); clear BK232; clear HB; have BK232 := n0_; have HB := n1_; clear n0_ n1_; (try clear hb); (try clear hb2); (try clear hk); (try clear hi)))
        repeat (go_quiet (first | (go_at_call 16; (with_reducible refine (tattlelaw04_awakeT.calls  t236 _ A13.out).mono ?_); rintro e w14 ⟨rfl, hb⟩; have n0_ := Aside0.mk (blk_below (g := gb232) (o := .cells #[.int .i64 a0_0, .slice A0_1 l0_1.length c0_1, .int .i64 a0_2, .int .i64 a0_3, .int .i64 a0_4, .int .i64 a0_5, .int .i64 a0_6] 31 (0, 0)) (by (with_reducible repeat (first | refine blk_drewN ?_ _ | refine blk_drew ?_ | refine blk_alloc ?_ _)); exact BK232.out) hb); have n1_ := Aside0.mk (below_step (by repeat (first | (with_reducible first | exact HB.out | apply below_alloc | apply pw_below_drewN | apply below_drew1 | refine below_set ?_ GE232.out) | exact HB.out)) hb); clear BK232; clear HB; have BK232 := n0_; have HB := n1_; clear n0_ n1_; (try clear hb); (try clear hb2); (try clear hk); (try clear hi))); try go_wp2_with (first | (go_at_call 16; (with_reducible refine (tattlelaw04_awakeT.calls  t236 _ A13.out).mono ?_); rintro e w14 ⟨rfl, hb⟩; have n0_ := Aside0.mk (blk_below (g := gb232) (o := .cells #[.int .i64 a0_0, .slice A0_1 l0_1.length c0_1, .int .i64 a0_2, .int .i64 a0_3, .int .i64 a0_4, .int .i64 a0_5, .int .i64 a0_6] 31 (0, 0)) (by (with_reducible repeat (first | refine blk_drewN ?_ _ | refine blk_drew ?_ | refine blk_alloc ?_ _)); exact BK232.out) hb); have n1_ := Aside0.mk (below_step (by repeat (first | (with_reducible first | exact HB.out | apply below_alloc | apply pw_below_drewN | apply below_drew1 | refine below_set ?_ GE232.out) | exact HB.out)) hb); clear BK232; clear HB; have BK232 := n0_; have HB := n1_; clear n0_ n1_; (try clear hb); (try clear hb2); (try clear hk); (try clear hi))))
        go_ret
        exact ⟨by first | rfl | (simp [errW_none, errW_some] <;> rfl) | (simp [*, errW_none, errW_some] <;> rfl), by repeat (first | (with_reducible first | exact HB.out | apply below_alloc | apply pw_below_drewN | apply below_drew1 | refine below_set ?_ GE232.out) | exact HB.out)⟩
      · replace c12 := Bool.eq_false_iff.mpr c12
        subst c12
        have H1 : ((clock_Ticks.f kj3 a0_0 t233 a0_4 a0_5 a0_6).bind fun bt237 => (if bt237.2 = 0 then (if (wrap64 ((wrap64 (a0_6 - a0_5)) + 1)) = 0 then (none) else ((clock_Ticks.f kj3 a0_0 t233 a0_4 a0_5 (wrap64 (a0_5 + (Int.tmod (wrap64 (a1)) (wrap64 ((wrap64 (a0_6 - a0_5)) + 1)))))).bind fun bt239 => ((clock_Ticks.f kj3 a0_0 t233 a0_4 (wrap64 (a0_5 + (Int.tmod (wrap64 (a1)) (wrap64 ((wrap64 (a0_6 - a0_5)) + 1))))) a0_6).bind fun bt241 => (if bt239.2 = 0 then (if bt241.2 = 0 then (tattlelaw04_ClockSplits.j1 kj3 a1 t233 (bt237.1 != (wrap64 (bt239.1 + bt241.1))) a0_0 l0_1 a0_2 a0_3 a0_4 a0_5 a0_6) else (tattlelaw04_ClockSplits.j1 kj3 a1 t233 true a0_0 l0_1 a0_2 a0_3 a0_4 a0_5 a0_6)) else (tattlelaw04_ClockSplits.j1 kj3 a1 t233 true a0_0 l0_1 a0_2 a0_3 a0_4 a0_5 a0_6))))) else ((clock_Near.f kj3 a0_0 t233 (t233.length : Int) (wrap64 (1 + (wrap64 (a1))))).bind fun bt247 => ((tattleref04_May.f kj3 a0_0 t233).bind fun t249 => (if (bt247.1 == t249) = true then (if ((bt247.2 == 0) == bt247.1) = true then ((tattlelaw04_awakeT.f).bind fun t250 => (some t250)) else (some false)) else (some false)))))) = some r := by rw [if_neg (show ¬ (false = true) by decide)] at H; exact H
        clear H
        have H := H1
        clear H1
        replace H := Option.bind_eq_some_iff.mp H
        obtain ⟨⟨t237, t238⟩, A150, H⟩ := H
        replace H : (if t238 = 0 then (if (wrap64 ((wrap64 (a0_6 - a0_5)) + 1)) = 0 then (none) else ((clock_Ticks.f kj3 a0_0 t233 a0_4 a0_5 (wrap64 (a0_5 + (Int.tmod (wrap64 (a1)) (wrap64 ((wrap64 (a0_6 - a0_5)) + 1)))))).bind fun bt239 => ((clock_Ticks.f kj3 a0_0 t233 a0_4 (wrap64 (a0_5 + (Int.tmod (wrap64 (a1)) (wrap64 ((wrap64 (a0_6 - a0_5)) + 1))))) a0_6).bind fun bt241 => (if bt239.2 = 0 then (if bt241.2 = 0 then (tattlelaw04_ClockSplits.j1 kj3 a1 t233 (t237 != (wrap64 (bt239.1 + bt241.1))) a0_0 l0_1 a0_2 a0_3 a0_4 a0_5 a0_6) else (tattlelaw04_ClockSplits.j1 kj3 a1 t233 true a0_0 l0_1 a0_2 a0_3 a0_4 a0_5 a0_6)) else (tattlelaw04_ClockSplits.j1 kj3 a1 t233 true a0_0 l0_1 a0_2 a0_3 a0_4 a0_5 a0_6))))) else ((clock_Near.f kj3 a0_0 t233 (t233.length : Int) (wrap64 (1 + (wrap64 (a1))))).bind fun bt247 => ((tattleref04_May.f kj3 a0_0 t233).bind fun t249 => (if (bt247.1 == t249) = true then (if ((bt247.2 == 0) == bt247.1) = true then ((tattlelaw04_awakeT.f).bind fun t250 => (some t250)) else (some false)) else (some false))))) = some r := H
        have A15 := Aside0.mk A150
        clear A150
        by_cases c16 : t238 = 0
        · rw [if_pos c16] at H
          have c16b0 : (t238 == 0) = true := beq_iff_eq.mpr c16
          have c16b1 : (t238 != 0) = false := bne_eq_false_iff_eq.mpr c16
          clear c16
          by_cases c17 : (wrap64 ((wrap64 (a0_6 - a0_5)) + 1)) = 0
          · rw [if_pos c17] at H
            exact absurd H (by simp)
          · rw [if_neg c17] at H
            have c17b0 : ((wrap64 ((wrap64 (a0_6 - a0_5)) + 1)) == 0) = false := beq_eq_false_iff_ne.mpr c17
            have c17b1 : ((wrap64 ((wrap64 (a0_6 - a0_5)) + 1)) != 0) = true := bne_iff_ne.mpr c17
            replace H := Option.bind_eq_some_iff.mp H
            obtain ⟨⟨t239, t240⟩, A180, H⟩ := H
            replace H : ((clock_Ticks.f kj3 a0_0 t233 a0_4 (wrap64 (a0_5 + (Int.tmod (wrap64 (a1)) (wrap64 ((wrap64 (a0_6 - a0_5)) + 1))))) a0_6).bind fun bt241 => (if t240 = 0 then (if bt241.2 = 0 then (tattlelaw04_ClockSplits.j1 kj3 a1 t233 (t237 != (wrap64 (t239 + bt241.1))) a0_0 l0_1 a0_2 a0_3 a0_4 a0_5 a0_6) else (tattlelaw04_ClockSplits.j1 kj3 a1 t233 true a0_0 l0_1 a0_2 a0_3 a0_4 a0_5 a0_6)) else (tattlelaw04_ClockSplits.j1 kj3 a1 t233 true a0_0 l0_1 a0_2 a0_3 a0_4 a0_5 a0_6))) = some r := H
            have A18 := Aside0.mk A180
            clear A180
            replace H := Option.bind_eq_some_iff.mp H
            obtain ⟨⟨t241, t242⟩, A190, H⟩ := H
            replace H : (if t240 = 0 then (if t242 = 0 then (tattlelaw04_ClockSplits.j1 kj3 a1 t233 (t237 != (wrap64 (t239 + t241))) a0_0 l0_1 a0_2 a0_3 a0_4 a0_5 a0_6) else (tattlelaw04_ClockSplits.j1 kj3 a1 t233 true a0_0 l0_1 a0_2 a0_3 a0_4 a0_5 a0_6)) else (tattlelaw04_ClockSplits.j1 kj3 a1 t233 true a0_0 l0_1 a0_2 a0_3 a0_4 a0_5 a0_6)) = some r := H
            have A19 := Aside0.mk A190
            clear A190
            have HC20 := Aside0.mk H
            clear H
            have hcz21_0 : wc.cell? ⟨gb232, 0, none⟩ = some (.int .i64 a0_0) := (blk_cell BK232.out 0).trans rfl
            have hcz21_1 : wc.cell? ⟨gb232, 1, none⟩ = some (.slice A0_1 l0_1.length c0_1) := (blk_cell BK232.out 1).trans rfl
            have hcz21_2 : wc.cell? ⟨gb232, 2, none⟩ = some (.int .i64 a0_2) := (blk_cell BK232.out 2).trans rfl
            have hcz21_3 : wc.cell? ⟨gb232, 3, none⟩ = some (.int .i64 a0_3) := (blk_cell BK232.out 3).trans rfl
            have hcz21_4 : wc.cell? ⟨gb232, 4, none⟩ = some (.int .i64 a0_4) := (blk_cell BK232.out 4).trans rfl
            have hcz21_5 : wc.cell? ⟨gb232, 5, none⟩ = some (.int .i64 a0_5) := (blk_cell BK232.out 5).trans rfl
            have hcz21_6 : wc.cell? ⟨gb232, 6, none⟩ = some (.int .i64 a0_6) := (blk_cell BK232.out 6).trans rfl
            have hfz21_0 := blk_frozen BK232.out 0
            have hfz21_1 := blk_frozen BK232.out 1
            have hfz21_2 := blk_frozen BK232.out 2
            have hfz21_3 := blk_frozen BK232.out 3
            have hfz21_4 := blk_frozen BK232.out 4
            have hfz21_5 := blk_frozen BK232.out 5
            have hfz21_6 := blk_frozen BK232.out 6
            obtain ⟨Ao22, co22, eo22⟩ := Kd.V_slice HO_5.out
            subst eo22
            go_upto_region 9 with (first | (go_at_call 20; (with_reducible refine (clock_Ticks.calls kj3 a0_0 _ _ t233 a0_4 a0_5 a0_6 t237 t238 _ ?side1 ?side2 A15.out).mono ?_); (case side1 => repeat (first | exact (Kd.V_reads' HO_5.out).2.2 | (with_reducible refine Kd.C_alloc ?_ _) | (with_reducible refine Kd.C_drewN ?_ _) | (with_reducible refine Kd.C_drew ?_))); (case side2 => exact (Kd.V_reads' HO_5.out).2.1); rintro e w23 ⟨rfl, hb⟩; have n0_ := Aside0.mk (Kd.V_below (by (with_reducible repeat (first | apply Kd.V_alloc | apply Kd.V_drewN | apply Kd.V_drew)); exact HO_5.out) hb); have n1_ := Aside0.mk (blk_below (g := gb232) (o := .cells #[.int .i64 a0_0, .slice A0_1 l0_1.length c0_1, .int .i64 a0_2, .int .i64 a0_3, .int .i64 a0_4, .int .i64 a0_5, .int .i64 a0_6] 31 (0, 0)) (by (with_reducible repeat (first | refine blk_drewN ?_ _ | refine blk_drew ?_ | refine blk_alloc ?_ _)); exact BK232.out) hb); have n2_ := Aside0.mk (below_step (by repeat (first | (with_reducible first | exact HB.out | apply below_alloc | apply pw_below_drewN | apply below_drew1 | refine below_set ?_ GE232.out) | exact HB.out)) hb); clear HO_5; clear BK232; clear HB; have HO_5 := n0_; have BK232 := n1_; have HB := n2_; clear n0_ n1_ n2_; (try clear hb); (try clear hb2); (try clear hk); (try clear hi); have hcz24_0 : w23.cell? ⟨gb232, 0, none⟩ = some (.int .i64 a0_0) := (blk_cell BK232.out 0).trans rfl; have hcz24_1 : w23.cell? ⟨gb232, 1, none⟩ = some (.slice A0_1 l0_1.length c0_1) := (blk_cell BK232.out 1).trans rfl; have hcz24_2 : w23.cell? ⟨gb232, 2, none⟩ = some (.int .i64 a0_2) := (blk_cell BK232.out 2).trans rfl; have hcz24_3 : w23.cell? ⟨gb232, 3, none⟩ = some (.int .i64 a0_3) := (blk_cell BK232.out 3).trans rfl; have hcz24_4 : w23.cell? ⟨gb232, 4, none⟩ = some (.int .i64 a0_4) := (blk_cell BK232.out 4).trans rfl; have hcz24_5 : w23.cell? ⟨gb232, 5, none⟩ = some (.int .i64 a0_5) := (blk_cell BK232.out 5).trans rfl; have hcz24_6 : w23.cell? ⟨gb232, 6, none⟩ = some (.int .i64 a0_6) := (blk_cell BK232.out 6).trans rfl; have hfz24_0 := blk_frozen BK232.out 0; have hfz24_1 := blk_frozen BK232.out 1; have hfz24_2 := blk_frozen BK232.out 2; have hfz24_3 := blk_frozen BK232.out 3; have hfz24_4 := blk_frozen BK232.out 4; have hfz24_5 := blk_frozen BK232.out 5; have hfz24_6 := blk_frozen BK232.out 6) | (go_at_call 20; (with_reducible refine (clock_Ticks.calls kj3 a0_0 _ _ t233 a0_4 a0_5 (wrap64 (a0_5 + (Int.tmod (wrap64 (a1)) (wrap64 ((wrap64 (a0_6 - a0_5)) + 1))))) t239 t240 _ ?side1 ?side2 A18.out).mono ?_); (case side1 => repeat (first | exact (Kd.V_reads' HO_5.out).2.2 | (with_reducible refine Kd.C_alloc ?_ _) | (with_reducible refine Kd.C_drewN ?_ _) | (with_reducible refine Kd.C_drew ?_))); (case side2 => exact (Kd.V_reads' HO_5.out).2.1); rintro e w25 ⟨rfl, hb⟩; have n0_ := Aside0.mk (Kd.V_below (by (with_reducible repeat (first | apply Kd.V_alloc | apply Kd.V_drewN | apply Kd.V_drew)); exact HO_5.out) hb); have n1_ := Aside0.mk (blk_below (g := gb232) (o := .cells #[.int .i64 a0_0, .slice A0_1 l0_1.length c0_1, .int .i64 a0_2, .int .i64 a0_3, .int .i64 a0_4, .int .i64 a0_5, .int .i64 a0_6] 31 (0, 0)) (by (with_reducible repeat (first | refine blk_drewN ?_ _ | refine blk_drew ?_ | refine blk_alloc ?_ _)); exact BK232.out) hb); have n2_ := Aside0.mk (below_step (by repeat (first | (with_reducible first | exact HB.out | apply below_alloc | apply pw_below_drewN | apply below_drew1 | refine below_set ?_ GE232.out) | exact HB.out)) hb); clear HO_5; clear BK232; clear HB; have HO_5 := n0_; have BK232 := n1_; have HB := n2_; clear n0_ n1_ n2_; (try clear hb); (try clear hb2); (try clear hk); (try clear hi); have hcz26_0 : w25.cell? ⟨gb232, 0, none⟩ = some (.int .i64 a0_0) := (blk_cell BK232.out 0).trans rfl; have hcz26_1 : w25.cell? ⟨gb232, 1, none⟩ = some (.slice A0_1 l0_1.length c0_1) := (blk_cell BK232.out 1).trans rfl; have hcz26_2 : w25.cell? ⟨gb232, 2, none⟩ = some (.int .i64 a0_2) := (blk_cell BK232.out 2).trans rfl; have hcz26_3 : w25.cell? ⟨gb232, 3, none⟩ = some (.int .i64 a0_3) := (blk_cell BK232.out 3).trans rfl; have hcz26_4 : w25.cell? ⟨gb232, 4, none⟩ = some (.int .i64 a0_4) := (blk_cell BK232.out 4).trans rfl; have hcz26_5 : w25.cell? ⟨gb232, 5, none⟩ = some (.int .i64 a0_5) := (blk_cell BK232.out 5).trans rfl; have hcz26_6 : w25.cell? ⟨gb232, 6, none⟩ = some (.int .i64 a0_6) := (blk_cell BK232.out 6).trans rfl; have hfz26_0 := blk_frozen BK232.out 0; have hfz26_1 := blk_frozen BK232.out 1; have hfz26_2 := blk_frozen BK232.out 2; have hfz26_3 := blk_frozen BK232.out 3; have hfz26_4 := blk_frozen BK232.out 4; have hfz26_5 := blk_frozen BK232.out 5; have hfz26_6 := blk_frozen BK232.out 6) | (go_at_call 20; (with_reducible refine (clock_Ticks.calls kj3 a0_0 _ _ t233 a0_4 (wrap64 (a0_5 + (Int.tmod (wrap64 (a1)) (wrap64 ((wrap64 (a0_6 - a0_5)) + 1))))) a0_6 t241 t242 _ ?side1 ?side2 A19.out).mono ?_); (case side1 => repeat (first | exact (Kd.V_reads' HO_5.out).2.2 | (with_reducible refine Kd.C_alloc ?_ _) | (with_reducible refine Kd.C_drewN ?_ _) | (with_reducible refine Kd.C_drew ?_))); (case side2 => exact (Kd.V_reads' HO_5.out).2.1); rintro e w27 ⟨rfl, hb⟩; have n0_ := Aside0.mk (Kd.V_below (by (with_reducible repeat (first | apply Kd.V_alloc | apply Kd.V_drewN | apply Kd.V_drew)); exact HO_5.out) hb); have n1_ := Aside0.mk (blk_below (g := gb232) (o := .cells #[.int .i64 a0_0, .slice A0_1 l0_1.length c0_1, .int .i64 a0_2, .int .i64 a0_3, .int .i64 a0_4, .int .i64 a0_5, .int .i64 a0_6] 31 (0, 0)) (by (with_reducible repeat (first | refine blk_drewN ?_ _ | refine blk_drew ?_ | refine blk_alloc ?_ _)); exact BK232.out) hb); have n2_ := Aside0.mk (below_step (by repeat (first | (with_reducible first | exact HB.out | apply below_alloc | apply pw_below_drewN | apply below_drew1 | refine below_set ?_ GE232.out) | exact HB.out)) hb); clear HO_5; clear BK232; clear HB; have HO_5 := n0_; have BK232 := n1_; have HB := n2_; clear n0_ n1_ n2_; (try clear hb); (try clear hb2); (try clear hk); (try clear hi)))
            repeat (go_quiet (first | (go_at_call 20; (with_reducible refine (clock_Ticks.calls kj3 a0_0 _ _ t233 a0_4 a0_5 a0_6 t237 t238 _ ?side1 ?side2 A15.out).mono ?_); (case side1 => repeat (first | exact (Kd.V_reads' HO_5.out).2.2 | (with_reducible refine Kd.C_alloc ?_ _) | (with_reducible refine Kd.C_drewN ?_ _) | (with_reducible refine Kd.C_drew ?_))); (case side2 => exact (Kd.V_reads' HO_5.out).2.1); rintro e w23 ⟨rfl, hb⟩; have n0_ := Aside0.mk (Kd.V_below (by (with_reducible repeat (first | apply Kd.V_alloc | apply Kd.V_drewN | apply Kd.V_drew)); exact HO_5.out) hb); have n1_ := Aside0.mk (blk_below (g := gb232) (o := .cells #[.int .i64 a0_0, .slice A0_1 l0_1.length c0_1, .int .i64 a0_2, .int .i64 a0_3, .int .i64 a0_4, .int .i64 a0_5, .int .i64 a0_6] 31 (0, 0)) (by (with_reducible repeat (first | refine blk_drewN ?_ _ | refine blk_drew ?_ | refine blk_alloc ?_ _)); exact BK232.out) hb); have n2_ := Aside0.mk (below_step (by repeat (first | (with_reducible first | exact HB.out | apply below_alloc | apply pw_below_drewN | apply below_drew1 | refine below_set ?_ GE232.out) | exact HB.out)) hb); clear HO_5; clear BK232; clear HB; have HO_5 := n0_; have BK232 := n1_; have HB := n2_; clear n0_ n1_ n2_; (try clear hb); (try clear hb2); (try clear hk); (try clear hi); have hcz24_0 : w23.cell? ⟨gb232, 0, none⟩ = some (.int .i64 a0_0) := (blk_cell BK232.out 0).trans rfl; have hcz24_1 : w23.cell? ⟨gb232, 1, none⟩ = some (.slice A0_1 l0_1.length c0_1) := (blk_cell BK232.out 1).trans rfl; have hcz24_2 : w23.cell? ⟨gb232, 2, none⟩ = some (.int .i64 a0_2) := (blk_cell BK232.out 2).trans rfl; have hcz24_3 : w23.cell? ⟨gb232, 3, none⟩ = some (.int .i64 a0_3) := (blk_cell BK232.out 3).trans rfl; have hcz24_4 : w23.cell? ⟨gb232, 4, none⟩ = some (.int .i64 a0_4) := (blk_cell BK232.out 4).trans rfl; have hcz24_5 : w23.cell? ⟨gb232, 5, none⟩ = some (.int .i64 a0_5) := (blk_cell BK232.out 5).trans rfl; have hcz24_6 : w23.cell? ⟨gb232, 6, none⟩ = some (.int .i64 a0_6) := (blk_cell BK232.out 6).trans rfl; have hfz24_0 := blk_frozen BK232.out 0; have hfz24_1 := blk_frozen BK232.out 1; have hfz24_2 := blk_frozen BK232.out 2; have hfz24_3 := blk_frozen BK232.out 3; have hfz24_4 := blk_frozen BK232.out 4; have hfz24_5 := blk_frozen BK232.out 5; have hfz24_6 := blk_frozen BK232.out 6) | (go_at_call 20; (with_reducible refine (clock_Ticks.calls kj3 a0_0 _ _ t233 a0_4 a0_5 (wrap64 (a0_5 + (Int.tmod (wrap64 (a1)) (wrap64 ((wrap64 (a0_6 - a0_5)) + 1))))) t239 t240 _ ?side1 ?side2 A18.out).mono ?_); (case side1 => repeat (first | exact (Kd.V_reads' HO_5.out).2.2 | (with_reducible refine Kd.C_alloc ?_ _) | (with_reducible refine Kd.C_drewN ?_ _) | (with_reducible refine Kd.C_drew ?_))); (case side2 => exact (Kd.V_reads' HO_5.out).2.1); rintro e w25 ⟨rfl, hb⟩; have n0_ := Aside0.mk (Kd.V_below (by (with_reducible repeat (first | apply Kd.V_alloc | apply Kd.V_drewN | apply Kd.V_drew)); exact HO_5.out) hb); have n1_ := Aside0.mk (blk_below (g := gb232) (o := .cells #[.int .i64 a0_0, .slice A0_1 l0_1.length c0_1, .int .i64 a0_2, .int .i64 a0_3, .int .i64 a0_4, .int .i64 a0_5, .int .i64 a0_6] 31 (0, 0)) (by (with_reducible repeat (first | refine blk_drewN ?_ _ | refine blk_drew ?_ | refine blk_alloc ?_ _)); exact BK232.out) hb); have n2_ := Aside0.mk (below_step (by repeat (first | (with_reducible first | exact HB.out | apply below_alloc | apply pw_below_drewN | apply below_drew1 | refine below_set ?_ GE232.out) | exact HB.out)) hb); clear HO_5; clear BK232; clear HB; have HO_5 := n0_; have BK232 := n1_; have HB := n2_; clear n0_ n1_ n2_; (try clear hb); (try clear hb2); (try clear hk); (try clear hi); have hcz26_0 : w25.cell? ⟨gb232, 0, none⟩ = some (.int .i64 a0_0) := (blk_cell BK232.out 0).trans rfl; have hcz26_1 : w25.cell? ⟨gb232, 1, none⟩ = some (.slice A0_1 l0_1.length c0_1) := (blk_cell BK232.out 1).trans rfl; have hcz26_2 : w25.cell? ⟨gb232, 2, none⟩ = some (.int .i64 a0_2) := (blk_cell BK232.out 2).trans rfl; have hcz26_3 : w25.cell? ⟨gb232, 3, none⟩ = some (.int .i64 a0_3) := (blk_cell BK232.out 3).trans rfl; have hcz26_4 : w25.cell? ⟨gb232, 4, none⟩ = some (.int .i64 a0_4) := (blk_cell BK232.out 4).trans rfl; have hcz26_5 : w25.cell? ⟨gb232, 5, none⟩ = some (.int .i64 a0_5) := (blk_cell BK232.out 5).trans rfl; have hcz26_6 : w25.cell? ⟨gb232, 6, none⟩ = some (.int .i64 a0_6) := (blk_cell BK232.out 6).trans rfl; have hfz26_0 := blk_frozen BK232.out 0; have hfz26_1 := blk_frozen BK232.out 1; have hfz26_2 := blk_frozen BK232.out 2; have hfz26_3 := blk_frozen BK232.out 3; have hfz26_4 := blk_frozen BK232.out 4; have hfz26_5 := blk_frozen BK232.out 5; have hfz26_6 := blk_frozen BK232.out 6) | (go_at_call 20; (with_reducible refine (clock_Ticks.calls kj3 a0_0 _ _ t233 a0_4 (wrap64 (a0_5 + (Int.tmod (wrap64 (a1)) (wrap64 ((wrap64 (a0_6 - a0_5)) + 1))))) a0_6 t241 t242 _ ?side1 ?side2 A19.out).mono ?_); (case side1 => repeat (first | exact (Kd.V_reads' HO_5.out).2.2 | (with_reducible refine Kd.C_alloc ?_ _) | (with_reducible refine Kd.C_drewN ?_ _) | (with_reducible refine Kd.C_drew ?_))); (case side2 => exact (Kd.V_reads' HO_5.out).2.1); rintro e w27 ⟨rfl, hb⟩; have n0_ := Aside0.mk (Kd.V_below (by (with_reducible repeat (first | apply Kd.V_alloc | apply Kd.V_drewN | apply Kd.V_drew)); exact HO_5.out) hb); have n1_ := Aside0.mk (blk_below (g := gb232) (o := .cells #[.int .i64 a0_0, .slice A0_1 l0_1.length c0_1, .int .i64 a0_2, .int .i64 a0_3, .int .i64 a0_4, .int .i64 a0_5, .int .i64 a0_6] 31 (0, 0)) (by (with_reducible repeat (first | refine blk_drewN ?_ _ | refine blk_drew ?_ | refine blk_alloc ?_ _)); exact BK232.out) hb); have n2_ := Aside0.mk (below_step (by repeat (first | (with_reducible first | exact HB.out | apply below_alloc | apply pw_below_drewN | apply below_drew1 | refine below_set ?_ GE232.out) | exact HB.out)) hb); clear HO_5; clear BK232; clear HB; have HO_5 := n0_; have BK232 := n1_; have HB := n2_; clear n0_ n1_ n2_; (try clear hb); (try clear hb2); (try clear hk); (try clear hi))); go_upto_region 9 with (first | (go_at_call 20; (with_reducible refine (clock_Ticks.calls kj3 a0_0 _ _ t233 a0_4 a0_5 a0_6 t237 t238 _ ?side1 ?side2 A15.out).mono ?_); (case side1 => repeat (first | exact (Kd.V_reads' HO_5.out).2.2 | (with_reducible refine Kd.C_alloc ?_ _) | (with_reducible refine Kd.C_drewN ?_ _) | (with_reducible refine Kd.C_drew ?_))); (case side2 => exact (Kd.V_reads' HO_5.out).2.1); rintro e w23 ⟨rfl, hb⟩; have n0_ := Aside0.mk (Kd.V_below (by (with_reducible repeat (first | apply Kd.V_alloc | apply Kd.V_drewN | apply Kd.V_drew)); exact HO_5.out) hb); have n1_ := Aside0.mk (blk_below (g := gb232) (o := .cells #[.int .i64 a0_0, .slice A0_1 l0_1.length c0_1, .int .i64 a0_2, .int .i64 a0_3, .int .i64 a0_4, .int .i64 a0_5, .int .i64 a0_6] 31 (0, 0)) (by (with_reducible repeat (first | refine blk_drewN ?_ _ | refine blk_drew ?_ | refine blk_alloc ?_ _)); exact BK232.out) hb); have n2_ := Aside0.mk (below_step (by repeat (first | (with_reducible first | exact HB.out | apply below_alloc | apply pw_below_drewN | apply below_drew1 | refine below_set ?_ GE232.out) | exact HB.out)) hb); clear HO_5; clear BK232; clear HB; have HO_5 := n0_; have BK232 := n1_; have HB := n2_; clear n0_ n1_ n2_; (try clear hb); (try clear hb2); (try clear hk); (try clear hi); have hcz24_0 : w23.cell? ⟨gb232, 0, none⟩ = some (.int .i64 a0_0) := (blk_cell BK232.out 0).trans rfl; have hcz24_1 : w23.cell? ⟨gb232, 1, none⟩ = some (.slice A0_1 l0_1.length c0_1) := (blk_cell BK232.out 1).trans rfl; have hcz24_2 : w23.cell? ⟨gb232, 2, none⟩ = some (.int .i64 a0_2) := (blk_cell BK232.out 2).trans rfl; have hcz24_3 : w23.cell? ⟨gb232, 3, none⟩ = some (.int .i64 a0_3) := (blk_cell BK232.out 3).trans rfl; have hcz24_4 : w23.cell? ⟨gb232, 4, none⟩ = some (.int .i64 a0_4) := (blk_cell BK232.out 4).trans rfl; have hcz24_5 : w23.cell? ⟨gb232, 5, none⟩ = some (.int .i64 a0_5) := (blk_cell BK232.out 5).trans rfl; have hcz24_6 : w23.cell? ⟨gb232, 6, none⟩ = some (.int .i64 a0_6) := (blk_cell BK232.out 6).trans rfl; have hfz24_0 := blk_frozen BK232.out 0; have hfz24_1 := blk_frozen BK232.out 1; have hfz24_2 := blk_frozen BK232.out 2; have hfz24_3 := blk_frozen BK232.out 3; have hfz24_4 := blk_frozen BK232.out 4; have hfz24_5 := blk_frozen BK232.out 5; have hfz24_6 := blk_frozen BK232.out 6) | (go_at_call 20; (with_reducible refine (clock_Ticks.calls kj3 a0_0 _ _ t233 a0_4 a0_5 (wrap64 (a0_5 + (Int.tmod (wrap64 (a1)) (wrap64 ((wrap64 (a0_6 - a0_5)) + 1))))) t239 t240 _ ?side1 ?side2 A18.out).mono ?_); (case side1 => repeat (first | exact (Kd.V_reads' HO_5.out).2.2 | (with_reducible refine Kd.C_alloc ?_ _) | (with_reducible refine Kd.C_drewN ?_ _) | (with_reducible refine Kd.C_drew ?_))); (case side2 => exact (Kd.V_reads' HO_5.out).2.1); rintro e w25 ⟨rfl, hb⟩; have n0_ := Aside0.mk (Kd.V_below (by (with_reducible repeat (first | apply Kd.V_alloc | apply Kd.V_drewN | apply Kd.V_drew)); exact HO_5.out) hb); have n1_ := Aside0.mk (blk_below (g := gb232) (o := .cells #[.int .i64 a0_0, .slice A0_1 l0_1.length c0_1, .int .i64 a0_2, .int .i64 a0_3, .int .i64 a0_4, .int .i64 a0_5, .int .i64 a0_6] 31 (0, 0)) (by (with_reducible repeat (first | refine blk_drewN ?_ _ | refine blk_drew ?_ | refine blk_alloc ?_ _)); exact BK232.out) hb); have n2_ := Aside0.mk (below_step (by repeat (first | (with_reducible first | exact HB.out | apply below_alloc | apply pw_below_drewN | apply below_drew1 | refine below_set ?_ GE232.out) | exact HB.out)) hb); clear HO_5; clear BK232; clear HB; have HO_5 := n0_; have BK232 := n1_; have HB := n2_; clear n0_ n1_ n2_; (try clear hb); (try clear hb2); (try clear hk); (try clear hi); have hcz26_0 : w25.cell? ⟨gb232, 0, none⟩ = some (.int .i64 a0_0) := (blk_cell BK232.out 0).trans rfl; have hcz26_1 : w25.cell? ⟨gb232, 1, none⟩ = some (.slice A0_1 l0_1.length c0_1) := (blk_cell BK232.out 1).trans rfl; have hcz26_2 : w25.cell? ⟨gb232, 2, none⟩ = some (.int .i64 a0_2) := (blk_cell BK232.out 2).trans rfl; have hcz26_3 : w25.cell? ⟨gb232, 3, none⟩ = some (.int .i64 a0_3) := (blk_cell BK232.out 3).trans rfl; have hcz26_4 : w25.cell? ⟨gb232, 4, none⟩ = some (.int .i64 a0_4) := (blk_cell BK232.out 4).trans rfl; have hcz26_5 : w25.cell? ⟨gb232, 5, none⟩ = some (.int .i64 a0_5) := (blk_cell BK232.out 5).trans rfl; have hcz26_6 : w25.cell? ⟨gb232, 6, none⟩ = some (.int .i64 a0_6) := (blk_cell BK232.out 6).trans rfl; have hfz26_0 := blk_frozen BK232.out 0; have hfz26_1 := blk_frozen BK232.out 1; have hfz26_2 := blk_frozen BK232.out 2; have hfz26_3 := blk_frozen BK232.out 3; have hfz26_4 := blk_frozen BK232.out 4; have hfz26_5 := blk_frozen BK232.out 5; have hfz26_6 := blk_frozen BK232.out 6) | (go_at_call 20; (with_reducible refine (clock_Ticks.calls kj3 a0_0 _ _ t233 a0_4 (wrap64 (a0_5 + (Int.tmod (wrap64 (a1)) (wrap64 ((wrap64 (a0_6 - a0_5)) + 1))))) a0_6 t241 t242 _ ?side1 ?side2 A19.out).mono ?_); (case side1 => repeat (first | exact (Kd.V_reads' HO_5.out).2.2 | (with_reducible refine Kd.C_alloc ?_ _) | (with_reducible refine Kd.C_drewN ?_ _) | (with_reducible refine Kd.C_drew ?_))); (case side2 => exact (Kd.V_reads' HO_5.out).2.1); rintro e w27 ⟨rfl, hb⟩; have n0_ := Aside0.mk (Kd.V_below (by (with_reducible repeat (first | apply Kd.V_alloc | apply Kd.V_drewN | apply Kd.V_drew)); exact HO_5.out) hb); have n1_ := Aside0.mk (blk_below (g := gb232) (o := .cells #[.int .i64 a0_0, .slice A0_1 l0_1.length c0_1, .int .i64 a0_2, .int .i64 a0_3, .int .i64 a0_4, .int .i64 a0_5, .int .i64 a0_6] 31 (0, 0)) (by (with_reducible repeat (first | refine blk_drewN ?_ _ | refine blk_drew ?_ | refine blk_alloc ?_ _)); exact BK232.out) hb); have n2_ := Aside0.mk (below_step (by repeat (first | (with_reducible first | exact HB.out | apply below_alloc | apply pw_below_drewN | apply below_drew1 | refine below_set ?_ GE232.out) | exact HB.out)) hb); clear HO_5; clear BK232; clear HB; have HO_5 := n0_; have BK232 := n1_; have HB := n2_; clear n0_ n1_ n2_; (try clear hb); (try clear hb2); (try clear hk); (try clear hi))))
            (try simp only [Act.put, List.setIfInBounds_toArray, List.set_cons_zero, List.set_cons_succ])
            go_cut [90] (fun v90 wc => ∃ (kq : Nat) (x90_19 : Bool), v90 = .bool x90_19 ∧ Aside0 (tattlelaw04_ClockSplits.j1 kq a1 t233 x90_19 a0_0 l0_1 a0_2 a0_3 a0_4 a0_5 a0_6 = some r) ∧ Aside0 (kq ≤ kj3) ∧ Aside0 (Kd.V k87 87 wc w.heap.size (fun k_ => k_ ≠ gb232) (.slice Ao22 t233.length co22) t233) ∧ Aside0 (wc.heap[gb232]? = some (.cells #[.int .i64 a0_0, (.slice A0_1 l0_1.length c0_1), .int .i64 a0_2, .int .i64 a0_3, .int .i64 a0_4, .int .i64 a0_5, .int .i64 a0_6] 31 (0, 0))) ∧ Aside0 (Below w.heap.size w wc))
            case first =>
              have H := HC20.out
              clear HC20
              by_cases c28 : t240 = 0
              · rw [if_pos c28] at H
                have c28b0 : (t240 == 0) = true := beq_iff_eq.mpr c28
                have c28b1 : (t240 != 0) = false := bne_eq_false_iff_eq.mpr c28
                clear c28
                (first | rw [c28b0] | (simp only [i64_w, i32_w]; rw [c28b0]) | skip)
                by_cases c29 : t242 = 0
                · rw [if_pos c29] at H
                  have c29b0 : (t242 == 0) = true := beq_iff_eq.mpr c29
                  have c29b1 : (t242 != 0) = false := bne_eq_false_iff_eq.mpr c29
                  clear c29
                  have H' := Aside0.mk H
                  clear H
                  go_wp2
                  repeat (go_quiet (fail); try go_wp2)
                  go_meet
                  case rel => exact ⟨_, ((t237 != (wrap64 (t239 + t241)))), (by first | rfl | (simp; done) | (simp [*]; done)), H', ⟨by have := HJ3.out; first | omega | exact Nat.le_refl _⟩, ⟨by (with_reducible repeat (first | apply Kd.V_alloc | apply Kd.V_drewN | apply Kd.V_drew)); exact HO_5.out⟩, ⟨by (with_reducible repeat (first | refine blk_drewN ?_ _ | refine blk_drew ?_ | refine blk_alloc ?_ _)); exact BK232.out⟩, ⟨by repeat (first | (with_reducible first | exact HB.out | apply below_alloc | apply pw_below_drewN | apply below_drew1 | refine below_set ?_ GE232.out) | exact HB.out)⟩⟩
                · rw [if_neg c29] at H
                  have c29b0 : (t242 == 0) = false := beq_eq_false_iff_ne.mpr c29
                  have c29b1 : (t242 != 0) = true := bne_iff_ne.mpr c29
                  have H' := Aside0.mk H
                  clear H
                  go_wp2
                  repeat (go_quiet (fail); try go_wp2)
                  go_meet
                  case rel => exact ⟨_, (true), (by first | rfl | (simp; done) | (simp [*]; done)), H', ⟨by have := HJ3.out; first | omega | exact Nat.le_refl _⟩, ⟨by (with_reducible repeat (first | apply Kd.V_alloc | apply Kd.V_drewN | apply Kd.V_drew)); exact HO_5.out⟩, ⟨by (with_reducible repeat (first | refine blk_drewN ?_ _ | refine blk_drew ?_ | refine blk_alloc ?_ _)); exact BK232.out⟩, ⟨by repeat (first | (with_reducible first | exact HB.out | apply below_alloc | apply pw_below_drewN | apply below_drew1 | refine below_set ?_ GE232.out) | exact HB.out)⟩⟩
              · rw [if_neg c28] at H
                have c28b0 : (t240 == 0) = false := beq_eq_false_iff_ne.mpr c28
                have c28b1 : (t240 != 0) = true := bne_iff_ne.mpr c28
                (first | rw [c28b0] | (simp only [i64_w, i32_w]; rw [c28b0]) | skip)
                have H' := Aside0.mk H
                clear H
                go_wp2
                repeat (go_quiet (fail); try go_wp2)
                go_meet
                case rel => exact ⟨_, (true), (by first | rfl | (simp; done) | (simp [*]; done)), H', ⟨by have := HJ3.out; first | omega | exact Nat.le_refl _⟩, ⟨by (with_reducible repeat (first | apply Kd.V_alloc | apply Kd.V_drewN | apply Kd.V_drew)); exact HO_5.out⟩, ⟨by (with_reducible repeat (first | refine blk_drewN ?_ _ | refine blk_drew ?_ | refine blk_alloc ?_ _)); exact BK232.out⟩, ⟨by repeat (first | (with_reducible first | exact HB.out | apply below_alloc | apply pw_below_drewN | apply below_drew1 | refine below_set ?_ GE232.out) | exact HB.out)⟩⟩
            case rest =>
              clear HC20
              try clear c1
              try clear c2
              try clear p2
              try clear p6
              try clear c7
              try clear c8
              try clear c8b0
              try clear c12
              try clear c16
              try clear c16b0
              try clear c16b1
              try clear c17
              try clear c17b0
              try clear c17b1
              try clear c28
              try clear c28b0
              try clear c28b1
              try clear c29
              try clear c29b0
              try clear c29b1
              try clear hcz10_0
              try clear hcz10_1
              try clear hcz10_2
              try clear hcz10_3
              try clear hcz10_4
              try clear hcz10_5
              try clear hcz10_6
              try clear hcz21_0
              try clear hcz21_1
              try clear hcz21_2
              try clear hcz21_3
              try clear hcz21_4
              try clear hcz21_5
              try clear hcz21_6
              try clear hcz24_0
              try clear hcz24_1
              try clear hcz24_2
              try clear hcz24_3
              try clear hcz24_4
              try clear hcz24_5
              try clear hcz24_6
              try clear hcz26_0
              try clear hcz26_1
              try clear hcz26_2
              try clear hcz26_3
              try clear hcz26_4
              try clear hcz26_5
              try clear hcz26_6
              try clear hcz6_0
              try clear hcz6_1
              try clear hcz6_2
              try clear hcz6_3
              try clear hcz6_4
              try clear hcz6_5
              try clear hcz6_6
              try clear hcz9_0
              try clear hcz9_1
              try clear hcz9_2
              try clear hcz9_3
              try clear hcz9_4
              try clear hcz9_5
              try clear hcz9_6
              try clear hfz10_0
              try clear hfz10_1
              try clear hfz10_2
              try clear hfz10_3
              try clear hfz10_4
              try clear hfz10_5
              try clear hfz10_6
              try clear hfz21_0
              try clear hfz21_1
              try clear hfz21_2
              try clear hfz21_3
              try clear hfz21_4
              try clear hfz21_5
              try clear hfz21_6
              try clear hfz24_0
              try clear hfz24_1
              try clear hfz24_2
              try clear hfz24_3
              try clear hfz24_4
              try clear hfz24_5
              try clear hfz24_6
              try clear hfz26_0
              try clear hfz26_1
              try clear hfz26_2
              try clear hfz26_3
              try clear hfz26_4
              try clear hfz26_5
              try clear hfz26_6
              try clear hfz6_0
              try clear hfz6_1
              try clear hfz6_2
              try clear hfz6_3
              try clear hfz6_4
              try clear hfz6_5
              try clear hfz6_6
              try clear hfz9_0
              try clear hfz9_1
              try clear hfz9_2
              try clear hfz9_3
              try clear hfz9_4
              try clear hfz9_5
              try clear hfz9_6
              try clear p2
              obtain ⟨kq, x90_19, rfl, HA, HJ19, HO_5, BK232, HB⟩ := hcut
              cases kq with
              | zero => exact absurd HA.out (by simp [tattlelaw04_ClockSplits.j1])
              | succ kj19 =>
                have H := HA.out
                clear HA
                simp only [tattlelaw04_ClockSplits.j1] at H
                by_cases c30 : x90_19 = true
                · subst c30
                  have H1 : (some false) = some r := by rw [if_pos rfl] at H; exact H
                  clear H
                  have H := H1
                  clear H1
                  exact absurd ((Option.some.inj H).trans hrt.out) (by decide)
                · replace c30 := Bool.eq_false_iff.mpr c30
                  subst c30
                  have H1 : ((clock_Near.f kj19 a0_0 t233 (t233.length : Int) (wrap64 (1 + (wrap64 (a1))))).bind fun bt243 => ((tattleref04_May.f kj19 a0_0 t233).bind fun t245 => (if (bt243.1 == t245) = true then (if ((bt243.2 == 0) == bt243.1) = true then ((tattlelaw04_awakeT.f).bind fun t246 => (some t246)) else (some false)) else (some false)))) = some r := by rw [if_neg (show ¬ (false = true) by decide)] at H; exact H
                  clear H
                  have H := H1
                  clear H1
                  replace H := Option.bind_eq_some_iff.mp H
                  obtain ⟨⟨t243, t244⟩, A310, H⟩ := H
                  replace H : ((tattleref04_May.f kj19 a0_0 t233).bind fun t245 => (if (t243 == t245) = true then (if ((t244 == 0) == t243) = true then ((tattlelaw04_awakeT.f).bind fun t246 => (some t246)) else (some false)) else (some false))) = some r := H
                  have A31 := Aside0.mk A310
                  clear A310
                  replace H := Option.bind_eq_some_iff.mp H
                  obtain ⟨t245, A320, H⟩ := H
                  replace H : (if (t243 == t245) = true then (if ((t244 == 0) == t243) = true then ((tattlelaw04_awakeT.f).bind fun t246 => (some t246)) else (some false)) else (some false)) = some r := H
                  have A32 := Aside0.mk A320
                  clear A320
                  by_cases c33 : (t243 == t245) = true
                  · rw [if_pos c33] at H
                    have c33b0 : (t243 == t245) = true := c33
                    (try (have c33b1 : decide (t243 = t245) = true := by simpa using c33))
                    (try (have c33b2 : (t243 == t245) = true := by simpa using c33))
                    clear c33
                    by_cases c34 : ((t244 == 0) == t243) = true
                    · rw [if_pos c34] at H
                      have c34b0 : ((t244 == 0) == t243) = true := c34
                      (try (have c34b1 : decide ((t244 == 0) = t243) = true := by simpa using c34))
                      (try (have c34b2 : ((t244 == 0) == t243) = true := by simpa using c34))
                      clear c34
                      replace H := Option.bind_eq_some_iff.mp H
                      obtain ⟨t246, A350, H⟩ := H
                      replace H : (some t246) = some r := H
                      have A35 := Aside0.mk A350
                      clear A350
                      obtain rfl := Option.some.inj H
                      have hcz36_0 : wc.cell? ⟨gb232, 0, none⟩ = some (.int .i64 a0_0) := (blk_cell BK232.out 0).trans rfl
                      have hcz36_1 : wc.cell? ⟨gb232, 1, none⟩ = some (.slice A0_1 l0_1.length c0_1) := (blk_cell BK232.out 1).trans rfl
                      have hcz36_2 : wc.cell? ⟨gb232, 2, none⟩ = some (.int .i64 a0_2) := (blk_cell BK232.out 2).trans rfl
                      have hcz36_3 : wc.cell? ⟨gb232, 3, none⟩ = some (.int .i64 a0_3) := (blk_cell BK232.out 3).trans rfl
                      have hcz36_4 : wc.cell? ⟨gb232, 4, none⟩ = some (.int .i64 a0_4) := (blk_cell BK232.out 4).trans rfl
                      have hcz36_5 : wc.cell? ⟨gb232, 5, none⟩ = some (.int .i64 a0_5) := (blk_cell BK232.out 5).trans rfl
                      have hcz36_6 : wc.cell? ⟨gb232, 6, none⟩ = some (.int .i64 a0_6) := (blk_cell BK232.out 6).trans rfl
                      have hfz36_0 := blk_frozen BK232.out 0
                      have hfz36_1 := blk_frozen BK232.out 1
                      have hfz36_2 := blk_frozen BK232.out 2
                      have hfz36_3 := blk_frozen BK232.out 3
                      have hfz36_4 := blk_frozen BK232.out 4
                      have hfz36_5 := blk_frozen BK232.out 5
                      have hfz36_6 := blk_frozen BK232.out 6
                      go_wp2_with (first | (go_at_call 19; (with_reducible refine (clock_Near.calls kj19 a0_0 _ _ t233 (t233.length : Int) (wrap64 (1 + (wrap64 (a1)))) t243 t244 _ ?side1 ?side2 A31.out).mono ?_); (case side1 => repeat (first | exact (Kd.V_reads' HO_5.out).2.2 | (with_reducible refine Kd.C_alloc ?_ _) | (with_reducible refine Kd.C_drewN ?_ _) | (with_reducible refine Kd.C_drew ?_))); (case side2 => exact (Kd.V_reads' HO_5.out).2.1); rintro e w37 ⟨rfl, hb⟩; have n0_ := Aside0.mk (Kd.V_below (by (with_reducible repeat (first | apply Kd.V_alloc | apply Kd.V_drewN | apply Kd.V_drew)); exact HO_5.out) hb); have n1_ := Aside0.mk (blk_below (g := gb232) (o := .cells #[.int .i64 a0_0, .slice A0_1 l0_1.length c0_1, .int .i64 a0_2, .int .i64 a0_3, .int .i64 a0_4, .int .i64 a0_5, .int .i64 a0_6] 31 (0, 0)) (by (with_reducible repeat (first | refine blk_drewN ?_ _ | refine blk_drew ?_ | refine blk_alloc ?_ _)); exact BK232.out) hb); have n2_ := Aside0.mk (below_step (by repeat (first | (with_reducible first | exact HB.out | apply below_alloc | apply pw_below_drewN | apply below_drew1 | refine below_set ?_ GE232.out) | exact HB.out)) hb); clear HO_5; clear BK232; clear HB; have HO_5 := n0_; have BK232 := n1_; have HB := n2_; clear n0_ n1_ n2_; (try clear hb); (try clear hb2); (try clear hk); (try clear hi); have hcz38_0 : w37.cell? ⟨gb232, 0, none⟩ = some (.int .i64 a0_0) := (blk_cell BK232.out 0).trans rfl; have hcz38_1 : w37.cell? ⟨gb232, 1, none⟩ = some (.slice A0_1 l0_1.length c0_1) := (blk_cell BK232.out 1).trans rfl; have hcz38_2 : w37.cell? ⟨gb232, 2, none⟩ = some (.int .i64 a0_2) := (blk_cell BK232.out 2).trans rfl; have hcz38_3 : w37.cell? ⟨gb232, 3, none⟩ = some (.int .i64 a0_3) := (blk_cell BK232.out 3).trans rfl; have hcz38_4 : w37.cell? ⟨gb232, 4, none⟩ = some (.int .i64 a0_4) := (blk_cell BK232.out 4).trans rfl; have hcz38_5 : w37.cell? ⟨gb232, 5, none⟩ = some (.int .i64 a0_5) := (blk_cell BK232.out 5).trans rfl; have hcz38_6 : w37.cell? ⟨gb232, 6, none⟩ = some (.int .i64 a0_6) := (blk_cell BK232.out 6).trans rfl; have hfz38_0 := blk_frozen BK232.out 0; have hfz38_1 := blk_frozen BK232.out 1; have hfz38_2 := blk_frozen BK232.out 2; have hfz38_3 := blk_frozen BK232.out 3; have hfz38_4 := blk_frozen BK232.out 4; have hfz38_5 := blk_frozen BK232.out 5; have hfz38_6 := blk_frozen BK232.out 6) | (go_at_call 21; (with_reducible refine (tattleref04_May.calls kj19 a0_0 _ _ t233 t245 _ ?side1 ?side2 A32.out).mono ?_); (case side1 => repeat (first | exact (Kd.V_reads' HO_5.out).2.2 | (with_reducible refine Kd.C_alloc ?_ _) | (with_reducible refine Kd.C_drewN ?_ _) | (with_reducible refine Kd.C_drew ?_))); (case side2 => exact (Kd.V_reads' HO_5.out).2.1); rintro e w39 ⟨rfl, hb⟩; have n0_ := Aside0.mk (Kd.V_below (by (with_reducible repeat (first | apply Kd.V_alloc | apply Kd.V_drewN | apply Kd.V_drew)); exact HO_5.out) hb); have n1_ := Aside0.mk (blk_below (g := gb232) (o := .cells #[.int .i64 a0_0, .slice A0_1 l0_1.length c0_1, .int .i64 a0_2, .int .i64 a0_3, .int .i64 a0_4, .int .i64 a0_5, .int .i64 a0_6] 31 (0, 0)) (by (with_reducible repeat (first | refine blk_drewN ?_ _ | refine blk_drew ?_ | refine blk_alloc ?_ _)); exact BK232.out) hb); have n2_ := Aside0.mk (below_step (by repeat (first | (with_reducible first | exact HB.out | apply below_alloc | apply pw_below_drewN | apply below_drew1 | refine below_set ?_ GE232.out) | exact HB.out)) hb); clear HO_5; clear BK232; clear HB; have HO_5 := n0_; have BK232 := n1_; have HB := n2_; clear n0_ n1_ n2_; (try clear hb); (try clear hb2); (try clear hk); (try clear hi)) | (go_at_call 16; (with_reducible refine (tattlelaw04_awakeT.calls  t246 _ A35.out).mono ?_); rintro e w40 ⟨rfl, hb⟩; have n0_ := Aside0.mk (blk_below (g := gb232) (o := .cells #[.int .i64 a0_0, .slice A0_1 l0_1.length c0_1, .int .i64 a0_2, .int .i64 a0_3, .int .i64 a0_4, .int .i64 a0_5, .int .i64 a0_6] 31 (0, 0)) (by (with_reducible repeat (first | refine blk_drewN ?_ _ | refine blk_drew ?_ | refine blk_alloc ?_ _)); exact BK232.out) hb); have n1_ := Aside0.mk (below_step (by repeat (first | (with_reducible first | exact HB.out | apply below_alloc | apply pw_below_drewN | apply below_drew1 | refine below_set ?_ GE232.out) | exact HB.out)) hb); clear BK232; clear HB; have BK232 := n0_; have HB := n1_; clear n0_ n1_; (try clear hb); (try clear hb2); (try clear hk); (try clear hi)))
                      repeat (go_quiet (first | (go_at_call 19; (with_reducible refine (clock_Near.calls kj19 a0_0 _ _ t233 (t233.length : Int) (wrap64 (1 + (wrap64 (a1)))) t243 t244 _ ?side1 ?side2 A31.out).mono ?_); (case side1 => repeat (first | exact (Kd.V_reads' HO_5.out).2.2 | (with_reducible refine Kd.C_alloc ?_ _) | (with_reducible refine Kd.C_drewN ?_ _) | (with_reducible refine Kd.C_drew ?_))); (case side2 => exact (Kd.V_reads' HO_5.out).2.1); rintro e w37 ⟨rfl, hb⟩; have n0_ := Aside0.mk (Kd.V_below (by (with_reducible repeat (first | apply Kd.V_alloc | apply Kd.V_drewN | apply Kd.V_drew)); exact HO_5.out) hb); have n1_ := Aside0.mk (blk_below (g := gb232) (o := .cells #[.int .i64 a0_0, .slice A0_1 l0_1.length c0_1, .int .i64 a0_2, .int .i64 a0_3, .int .i64 a0_4, .int .i64 a0_5, .int .i64 a0_6] 31 (0, 0)) (by (with_reducible repeat (first | refine blk_drewN ?_ _ | refine blk_drew ?_ | refine blk_alloc ?_ _)); exact BK232.out) hb); have n2_ := Aside0.mk (below_step (by repeat (first | (with_reducible first | exact HB.out | apply below_alloc | apply pw_below_drewN | apply below_drew1 | refine below_set ?_ GE232.out) | exact HB.out)) hb); clear HO_5; clear BK232; clear HB; have HO_5 := n0_; have BK232 := n1_; have HB := n2_; clear n0_ n1_ n2_; (try clear hb); (try clear hb2); (try clear hk); (try clear hi); have hcz38_0 : w37.cell? ⟨gb232, 0, none⟩ = some (.int .i64 a0_0) := (blk_cell BK232.out 0).trans rfl; have hcz38_1 : w37.cell? ⟨gb232, 1, none⟩ = some (.slice A0_1 l0_1.length c0_1) := (blk_cell BK232.out 1).trans rfl; have hcz38_2 : w37.cell? ⟨gb232, 2, none⟩ = some (.int .i64 a0_2) := (blk_cell BK232.out 2).trans rfl; have hcz38_3 : w37.cell? ⟨gb232, 3, none⟩ = some (.int .i64 a0_3) := (blk_cell BK232.out 3).trans rfl; have hcz38_4 : w37.cell? ⟨gb232, 4, none⟩ = some (.int .i64 a0_4) := (blk_cell BK232.out 4).trans rfl; have hcz38_5 : w37.cell? ⟨gb232, 5, none⟩ = some (.int .i64 a0_5) := (blk_cell BK232.out 5).trans rfl; have hcz38_6 : w37.cell? ⟨gb232, 6, none⟩ = some (.int .i64 a0_6) := (blk_cell BK232.out 6).trans rfl; have hfz38_0 := blk_frozen BK232.out 0; have hfz38_1 := blk_frozen BK232.out 1; have hfz38_2 := blk_frozen BK232.out 2; have hfz38_3 := blk_frozen BK232.out 3; have hfz38_4 := blk_frozen BK232.out 4; have hfz38_5 := blk_frozen BK232.out 5; have hfz38_6 := blk_frozen BK232.out 6) | (go_at_call 21; (with_reducible refine (tattleref04_May.calls kj19 a0_0 _ _ t233 t245 _ ?side1 ?side2 A32.out).mono ?_); (case side1 => repeat (first | exact (Kd.V_reads' HO_5.out).2.2 | (with_reducible refine Kd.C_alloc ?_ _) | (with_reducible refine Kd.C_drewN ?_ _) | (with_reducible refine Kd.C_drew ?_))); (case side2 => exact (Kd.V_reads' HO_5.out).2.1); rintro e w39 ⟨rfl, hb⟩; have n0_ := Aside0.mk (Kd.V_below (by (with_reducible repeat (first | apply Kd.V_alloc | apply Kd.V_drewN | apply Kd.V_drew)); exact HO_5.out) hb); have n1_ := Aside0.mk (blk_below (g := gb232) (o := .cells #[.int .i64 a0_0, .slice A0_1 l0_1.length c0_1, .int .i64 a0_2, .int .i64 a0_3, .int .i64 a0_4, .int .i64 a0_5, .int .i64 a0_6] 31 (0, 0)) (by (with_reducible repeat (first | refine blk_drewN ?_ _ | refine blk_drew ?_ | refine blk_alloc ?_ _)); exact BK232.out) hb); have n2_ := Aside0.mk (below_step (by repeat (first | (with_reducible first | exact HB.out | apply below_alloc | apply pw_below_drewN | apply below_drew1 | refine below_set ?_ GE232.out) | exact HB.out)) hb); clear HO_5; clear BK232; clear HB; have HO_5 := n0_; have BK232 := n1_; have HB := n2_; clear n0_ n1_ n2_; (try clear hb); (try clear hb2); (try clear hk); (try clear hi)) | (go_at_call 16; (with_reducible refine (tattlelaw04_awakeT.calls  t246 _ A35.out).mono ?_); rintro e w40 ⟨rfl, hb⟩; have n0_ := Aside0.mk (blk_below (g := gb232) (o := .cells #[.int .i64 a0_0, .slice A0_1 l0_1.length c0_1, .int .i64 a0_2, .int .i64 a0_3, .int .i64 a0_4, .int .i64 a0_5, .int .i64 a0_6] 31 (0, 0)) (by (with_reducible repeat (first | refine blk_drewN ?_ _ | refine blk_drew ?_ | refine blk_alloc ?_ _)); exact BK232.out) hb); have n1_ := Aside0.mk (below_step (by repeat (first | (with_reducible first | exact HB.out | apply below_alloc | apply pw_below_drewN | apply below_drew1 | refine below_set ?_ GE232.out) | exact HB.out)) hb); clear BK232; clear HB; have BK232 := n0_; have HB := n1_; clear n0_ n1_; (try clear hb); (try clear hb2); (try clear hk); (try clear hi))); try go_wp2_with (first | (go_at_call 19; (with_reducible refine (clock_Near.calls kj19 a0_0 _ _ t233 (t233.length : Int) (wrap64 (1 + (wrap64 (a1)))) t243 t244 _ ?side1 ?side2 A31.out).mono ?_); (case side1 => repeat (first | exact (Kd.V_reads' HO_5.out).2.2 | (with_reducible refine Kd.C_alloc ?_ _) | (with_reducible refine Kd.C_drewN ?_ _) | (with_reducible refine Kd.C_drew ?_))); (case side2 => exact (Kd.V_reads' HO_5.out).2.1); rintro e w37 ⟨rfl, hb⟩; have n0_ := Aside0.mk (Kd.V_below (by (with_reducible repeat (first | apply Kd.V_alloc | apply Kd.V_drewN | apply Kd.V_drew)); exact HO_5.out) hb); have n1_ := Aside0.mk (blk_below (g := gb232) (o := .cells #[.int .i64 a0_0, .slice A0_1 l0_1.length c0_1, .int .i64 a0_2, .int .i64 a0_3, .int .i64 a0_4, .int .i64 a0_5, .int .i64 a0_6] 31 (0, 0)) (by (with_reducible repeat (first | refine blk_drewN ?_ _ | refine blk_drew ?_ | refine blk_alloc ?_ _)); exact BK232.out) hb); have n2_ := Aside0.mk (below_step (by repeat (first | (with_reducible first | exact HB.out | apply below_alloc | apply pw_below_drewN | apply below_drew1 | refine below_set ?_ GE232.out) | exact HB.out)) hb); clear HO_5; clear BK232; clear HB; have HO_5 := n0_; have BK232 := n1_; have HB := n2_; clear n0_ n1_ n2_; (try clear hb); (try clear hb2); (try clear hk); (try clear hi); have hcz38_0 : w37.cell? ⟨gb232, 0, none⟩ = some (.int .i64 a0_0) := (blk_cell BK232.out 0).trans rfl; have hcz38_1 : w37.cell? ⟨gb232, 1, none⟩ = some (.slice A0_1 l0_1.length c0_1) := (blk_cell BK232.out 1).trans rfl; have hcz38_2 : w37.cell? ⟨gb232, 2, none⟩ = some (.int .i64 a0_2) := (blk_cell BK232.out 2).trans rfl; have hcz38_3 : w37.cell? ⟨gb232, 3, none⟩ = some (.int .i64 a0_3) := (blk_cell BK232.out 3).trans rfl; have hcz38_4 : w37.cell? ⟨gb232, 4, none⟩ = some (.int .i64 a0_4) := (blk_cell BK232.out 4).trans rfl; have hcz38_5 : w37.cell? ⟨gb232, 5, none⟩ = some (.int .i64 a0_5) := (blk_cell BK232.out 5).trans rfl; have hcz38_6 : w37.cell? ⟨gb232, 6, none⟩ = some (.int .i64 a0_6) := (blk_cell BK232.out 6).trans rfl; have hfz38_0 := blk_frozen BK232.out 0; have hfz38_1 := blk_frozen BK232.out 1; have hfz38_2 := blk_frozen BK232.out 2; have hfz38_3 := blk_frozen BK232.out 3; have hfz38_4 := blk_frozen BK232.out 4; have hfz38_5 := blk_frozen BK232.out 5; have hfz38_6 := blk_frozen BK232.out 6) | (go_at_call 21; (with_reducible refine (tattleref04_May.calls kj19 a0_0 _ _ t233 t245 _ ?side1 ?side2 A32.out).mono ?_); (case side1 => repeat (first | exact (Kd.V_reads' HO_5.out).2.2 | (with_reducible refine Kd.C_alloc ?_ _) | (with_reducible refine Kd.C_drewN ?_ _) | (with_reducible refine Kd.C_drew ?_))); (case side2 => exact (Kd.V_reads' HO_5.out).2.1); rintro e w39 ⟨rfl, hb⟩; have n0_ := Aside0.mk (Kd.V_below (by (with_reducible repeat (first | apply Kd.V_alloc | apply Kd.V_drewN | apply Kd.V_drew)); exact HO_5.out) hb); have n1_ := Aside0.mk (blk_below (g := gb232) (o := .cells #[.int .i64 a0_0, .slice A0_1 l0_1.length c0_1, .int .i64 a0_2, .int .i64 a0_3, .int .i64 a0_4, .int .i64 a0_5, .int .i64 a0_6] 31 (0, 0)) (by (with_reducible repeat (first | refine blk_drewN ?_ _ | refine blk_drew ?_ | refine blk_alloc ?_ _)); exact BK232.out) hb); have n2_ := Aside0.mk (below_step (by repeat (first | (with_reducible first | exact HB.out | apply below_alloc | apply pw_below_drewN | apply below_drew1 | refine below_set ?_ GE232.out) | exact HB.out)) hb); clear HO_5; clear BK232; clear HB; have HO_5 := n0_; have BK232 := n1_; have HB := n2_; clear n0_ n1_ n2_; (try clear hb); (try clear hb2); (try clear hk); (try clear hi)) | (go_at_call 16; (with_reducible refine (tattlelaw04_awakeT.calls  t246 _ A35.out).mono ?_); rintro e w40 ⟨rfl, hb⟩; have n0_ := Aside0.mk (blk_below (g := gb232) (o := .cells #[.int .i64 a0_0, .slice A0_1 l0_1.length c0_1, .int .i64 a0_2, .int .i64 a0_3, .int .i64 a0_4, .int .i64 a0_5, .int .i64 a0_6] 31 (0, 0)) (by (with_reducible repeat (first | refine blk_drewN ?_ _ | refine blk_drew ?_ | refine blk_alloc ?_ _)); exact BK232.out) hb); have n1_ := Aside0.mk (below_step (by repeat (first | (with_reducible first | exact HB.out | apply below_alloc | apply pw_below_drewN | apply below_drew1 | refine below_set ?_ GE232.out) | exact HB.out)) hb); clear BK232; clear HB; have BK232 := n0_; have HB := n1_; clear n0_ n1_; (try clear hb); (try clear hb2); (try clear hk); (try clear hi))))
                      go_ret
                      exact ⟨by first | rfl | (simp [errW_none, errW_some] <;> rfl) | (simp [*, errW_none, errW_some] <;> rfl), by repeat (first | (with_reducible first | exact HB.out | apply below_alloc | apply pw_below_drewN | apply below_drew1 | refine below_set ?_ GE232.out) | exact HB.out)⟩
                    · rw [if_neg c34] at H
                      have c34b0 : ((t244 == 0) == t243) = false := by simpa using c34
                      (try (have c34b1 : decide ((t244 == 0) = t243) = false := by simpa using c34))
                      (try (have c34b2 : ((t244 == 0) == t243) = false := by simpa using c34))
                      (try (have c34b3 : ¬ ((t244 == 0) = t243) := by simpa using c34))
                      clear c34
                      exact absurd ((Option.some.inj H).trans hrt.out) (by decide)
                  · rw [if_neg c33] at H
                    have c33b0 : (t243 == t245) = false := by simpa using c33
                    (try (have c33b1 : decide (t243 = t245) = false := by simpa using c33))
                    (try (have c33b2 : (t243 == t245) = false := by simpa using c33))
                    (try (have c33b3 : ¬ (t243 = t245) := by simpa using c33))
                    clear c33
                    exact absurd ((Option.some.inj H).trans hrt.out) (by decide)
        · rw [if_neg c16] at H
          have c16b0 : (t238 == 0) = false := beq_eq_false_iff_ne.mpr c16
          have c16b1 : (t238 != 0) = true := bne_iff_ne.mpr c16
          replace H := Option.bind_eq_some_iff.mp H
          obtain ⟨⟨t247, t248⟩, A410, H⟩ := H
          replace H : ((tattleref04_May.f kj3 a0_0 t233).bind fun t249 => (if (t247 == t249) = true then (if ((t248 == 0) == t247) = true then ((tattlelaw04_awakeT.f).bind fun t250 => (some t250)) else (some false)) else (some false))) = some r := H
          have A41 := Aside0.mk A410
          clear A410
          replace H := Option.bind_eq_some_iff.mp H
          obtain ⟨t249, A420, H⟩ := H
          replace H : (if (t247 == t249) = true then (if ((t248 == 0) == t247) = true then ((tattlelaw04_awakeT.f).bind fun t250 => (some t250)) else (some false)) else (some false)) = some r := H
          have A42 := Aside0.mk A420
          clear A420
          by_cases c43 : (t247 == t249) = true
          · rw [if_pos c43] at H
            have c43b0 : (t247 == t249) = true := c43
            (try (have c43b1 : decide (t247 = t249) = true := by simpa using c43))
            (try (have c43b2 : (t247 == t249) = true := by simpa using c43))
            clear c43
            by_cases c44 : ((t248 == 0) == t247) = true
            · rw [if_pos c44] at H
              have c44b0 : ((t248 == 0) == t247) = true := c44
              (try (have c44b1 : decide ((t248 == 0) = t247) = true := by simpa using c44))
              (try (have c44b2 : ((t248 == 0) == t247) = true := by simpa using c44))
              clear c44
              replace H := Option.bind_eq_some_iff.mp H
              obtain ⟨t250, A450, H⟩ := H
              replace H : (some t250) = some r := H
              have A45 := Aside0.mk A450
              clear A450
              obtain rfl := Option.some.inj H
              have hcz46_0 : wc.cell? ⟨gb232, 0, none⟩ = some (.int .i64 a0_0) := (blk_cell BK232.out 0).trans rfl
              have hcz46_1 : wc.cell? ⟨gb232, 1, none⟩ = some (.slice A0_1 l0_1.length c0_1) := (blk_cell BK232.out 1).trans rfl
              have hcz46_2 : wc.cell? ⟨gb232, 2, none⟩ = some (.int .i64 a0_2) := (blk_cell BK232.out 2).trans rfl
              have hcz46_3 : wc.cell? ⟨gb232, 3, none⟩ = some (.int .i64 a0_3) := (blk_cell BK232.out 3).trans rfl
              have hcz46_4 : wc.cell? ⟨gb232, 4, none⟩ = some (.int .i64 a0_4) := (blk_cell BK232.out 4).trans rfl
              have hcz46_5 : wc.cell? ⟨gb232, 5, none⟩ = some (.int .i64 a0_5) := (blk_cell BK232.out 5).trans rfl
              have hcz46_6 : wc.cell? ⟨gb232, 6, none⟩ = some (.int .i64 a0_6) := (blk_cell BK232.out 6).trans rfl
              have hfz46_0 := blk_frozen BK232.out 0
              have hfz46_1 := blk_frozen BK232.out 1
              have hfz46_2 := blk_frozen BK232.out 2
              have hfz46_3 := blk_frozen BK232.out 3
              have hfz46_4 := blk_frozen BK232.out 4
              have hfz46_5 := blk_frozen BK232.out 5
              have hfz46_6 := blk_frozen BK232.out 6
              obtain ⟨Ao47, co47, eo47⟩ := Kd.V_slice HO_5.out
              subst eo47
              go_wp2_with (first | (go_at_call 20; (with_reducible refine (clock_Ticks.calls kj3 a0_0 _ _ t233 a0_4 a0_5 a0_6 t237 t238 _ ?side1 ?side2 A15.out).mono ?_); (case side1 => repeat (first | exact (Kd.V_reads' HO_5.out).2.2 | (with_reducible refine Kd.C_alloc ?_ _) | (with_reducible refine Kd.C_drewN ?_ _) | (with_reducible refine Kd.C_drew ?_))); (case side2 => exact (Kd.V_reads' HO_5.out).2.1); rintro e w48 ⟨rfl, hb⟩; have n0_ := Aside0.mk (Kd.V_below (by (with_reducible repeat (first | apply Kd.V_alloc | apply Kd.V_drewN | apply Kd.V_drew)); exact HO_5.out) hb); have n1_ := Aside0.mk (blk_below (g := gb232) (o := .cells #[.int .i64 a0_0, .slice A0_1 l0_1.length c0_1, .int .i64 a0_2, .int .i64 a0_3, .int .i64 a0_4, .int .i64 a0_5, .int .i64 a0_6] 31 (0, 0)) (by (with_reducible repeat (first | refine blk_drewN ?_ _ | refine blk_drew ?_ | refine blk_alloc ?_ _)); exact BK232.out) hb); have n2_ := Aside0.mk (below_step (by repeat (first | (with_reducible first | exact HB.out | apply below_alloc | apply pw_below_drewN | apply below_drew1 | refine below_set ?_ GE232.out) | exact HB.out)) hb); clear HO_5; clear BK232; clear HB; have HO_5 := n0_; have BK232 := n1_; have HB := n2_; clear n0_ n1_ n2_; (try clear hb); (try clear hb2); (try clear hk); (try clear hi); have hcz49_0 : w48.cell? ⟨gb232, 0, none⟩ = some (.int .i64 a0_0) := (blk_cell BK232.out 0).trans rfl; have hcz49_1 : w48.cell? ⟨gb232, 1, none⟩ = some (.slice A0_1 l0_1.length c0_1) := (blk_cell BK232.out 1).trans rfl; have hcz49_2 : w48.cell? ⟨gb232, 2, none⟩ = some (.int .i64 a0_2) := (blk_cell BK232.out 2).trans rfl; have hcz49_3 : w48.cell? ⟨gb232, 3, none⟩ = some (.int .i64 a0_3) := (blk_cell BK232.out 3).trans rfl; have hcz49_4 : w48.cell? ⟨gb232, 4, none⟩ = some (.int .i64 a0_4) := (blk_cell BK232.out 4).trans rfl; have hcz49_5 : w48.cell? ⟨gb232, 5, none⟩ = some (.int .i64 a0_5) := (blk_cell BK232.out 5).trans rfl; have hcz49_6 : w48.cell? ⟨gb232, 6, none⟩ = some (.int .i64 a0_6) := (blk_cell BK232.out 6).trans rfl; have hfz49_0 := blk_frozen BK232.out 0; have hfz49_1 := blk_frozen BK232.out 1; have hfz49_2 := blk_frozen BK232.out 2; have hfz49_3 := blk_frozen BK232.out 3; have hfz49_4 := blk_frozen BK232.out 4; have hfz49_5 := blk_frozen BK232.out 5; have hfz49_6 := blk_frozen BK232.out 6) | (go_at_call 19; (with_reducible refine (clock_Near.calls kj3 a0_0 _ _ t233 (t233.length : Int) (wrap64 (1 + (wrap64 (a1)))) t247 t248 _ ?side1 ?side2 A41.out).mono ?_); (case side1 => repeat (first | exact (Kd.V_reads' HO_5.out).2.2 | (with_reducible refine Kd.C_alloc ?_ _) | (with_reducible refine Kd.C_drewN ?_ _) | (with_reducible refine Kd.C_drew ?_))); (case side2 => exact (Kd.V_reads' HO_5.out).2.1); rintro e w50 ⟨rfl, hb⟩; have n0_ := Aside0.mk (Kd.V_below (by (with_reducible repeat (first | apply Kd.V_alloc | apply Kd.V_drewN | apply Kd.V_drew)); exact HO_5.out) hb); have n1_ := Aside0.mk (blk_below (g := gb232) (o := .cells #[.int .i64 a0_0, .slice A0_1 l0_1.length c0_1, .int .i64 a0_2, .int .i64 a0_3, .int .i64 a0_4, .int .i64 a0_5, .int .i64 a0_6] 31 (0, 0)) (by (with_reducible repeat (first | refine blk_drewN ?_ _ | refine blk_drew ?_ | refine blk_alloc ?_ _)); exact BK232.out) hb); have n2_ := Aside0.mk (below_step (by repeat (first | (with_reducible first | exact HB.out | apply below_alloc | apply pw_below_drewN | apply below_drew1 | refine below_set ?_ GE232.out) | exact HB.out)) hb); clear HO_5; clear BK232; clear HB; have HO_5 := n0_; have BK232 := n1_; have HB := n2_; clear n0_ n1_ n2_; (try clear hb); (try clear hb2); (try clear hk); (try clear hi); have hcz51_0 : w50.cell? ⟨gb232, 0, none⟩ = some (.int .i64 a0_0) := (blk_cell BK232.out 0).trans rfl; have hcz51_1 : w50.cell? ⟨gb232, 1, none⟩ = some (.slice A0_1 l0_1.length c0_1) := (blk_cell BK232.out 1).trans rfl; have hcz51_2 : w50.cell? ⟨gb232, 2, none⟩ = some (.int .i64 a0_2) := (blk_cell BK232.out 2).trans rfl; have hcz51_3 : w50.cell? ⟨gb232, 3, none⟩ = some (.int .i64 a0_3) := (blk_cell BK232.out 3).trans rfl; have hcz51_4 : w50.cell? ⟨gb232, 4, none⟩ = some (.int .i64 a0_4) := (blk_cell BK232.out 4).trans rfl; have hcz51_5 : w50.cell? ⟨gb232, 5, none⟩ = some (.int .i64 a0_5) := (blk_cell BK232.out 5).trans rfl; have hcz51_6 : w50.cell? ⟨gb232, 6, none⟩ = some (.int .i64 a0_6) := (blk_cell BK232.out 6).trans rfl; have hfz51_0 := blk_frozen BK232.out 0; have hfz51_1 := blk_frozen BK232.out 1; have hfz51_2 := blk_frozen BK232.out 2; have hfz51_3 := blk_frozen BK232.out 3; have hfz51_4 := blk_frozen BK232.out 4; have hfz51_5 := blk_frozen BK232.out 5; have hfz51_6 := blk_frozen BK232.out 6) | (go_at_call 21; (with_reducible refine (tattleref04_May.calls kj3 a0_0 _ _ t233 t249 _ ?side1 ?side2 A42.out).mono ?_); (case side1 => repeat (first | exact (Kd.V_reads' HO_5.out).2.2 | (with_reducible refine Kd.C_alloc ?_ _) | (with_reducible refine Kd.C_drewN ?_ _) | (with_reducible refine Kd.C_drew ?_))); (case side2 => exact (Kd.V_reads' HO_5.out).2.1); rintro e w52 ⟨rfl, hb⟩; have n0_ := Aside0.mk (Kd.V_below (by (with_reducible repeat (first | apply Kd.V_alloc | apply Kd.V_drewN | apply Kd.V_drew)); exact HO_5.out) hb); have n1_ := Aside0.mk (blk_below (g := gb232) (o := .cells #[.int .i64 a0_0, .slice A0_1 l0_1.length c0_1, .int .i64 a0_2, .int .i64 a0_3, .int .i64 a0_4, .int .i64 a0_5, .int .i64 a0_6] 31 (0, 0)) (by (with_reducible repeat (first | refine blk_drewN ?_ _ | refine blk_drew ?_ | refine blk_alloc ?_ _)); exact BK232.out) hb); have n2_ := Aside0.mk (below_step (by repeat (first | (with_reducible first | exact HB.out | apply below_alloc | apply pw_below_drewN | apply below_drew1 | refine below_set ?_ GE232.out) | exact HB.out)) hb); clear HO_5; clear BK232; clear HB; have HO_5 := n0_; have BK232 := n1_; have HB := n2_; clear n0_ n1_ n2_; (try clear hb); (try clear hb2); (try clear hk); (try clear hi)) | (go_at_call 16; (with_reducible refine (tattlelaw04_awakeT.calls  t250 _ A45.out).mono ?_); rintro e w53 ⟨rfl, hb⟩; have n0_ := Aside0.mk (blk_below (g := gb232) (o := .cells #[.int .i64 a0_0, .slice A0_1 l0_1.length c0_1, .int .i64 a0_2, .int .i64 a0_3, .int .i64 a0_4, .int .i64 a0_5, .int .i64 a0_6] 31 (0, 0)) (by (with_reducible repeat (first | refine blk_drewN ?_ _ | refine blk_drew ?_ | refine blk_alloc ?_ _)); exact BK232.out) hb); have n1_ := Aside0.mk (below_step (by repeat (first | (with_reducible first | exact HB.out | apply below_alloc | apply pw_below_drewN | apply below_drew1 | refine below_set ?_ GE232.out) | exact HB.out)) hb); clear BK232; clear HB; have BK232 := n0_; have HB := n1_; clear n0_ n1_; (try clear hb); (try clear hb2); (try clear hk); (try clear hi)))
              repeat (go_quiet (first | (go_at_call 20; (with_reducible refine (clock_Ticks.calls kj3 a0_0 _ _ t233 a0_4 a0_5 a0_6 t237 t238 _ ?side1 ?side2 A15.out).mono ?_); (case side1 => repeat (first | exact (Kd.V_reads' HO_5.out).2.2 | (with_reducible refine Kd.C_alloc ?_ _) | (with_reducible refine Kd.C_drewN ?_ _) | (with_reducible refine Kd.C_drew ?_))); (case side2 => exact (Kd.V_reads' HO_5.out).2.1); rintro e w48 ⟨rfl, hb⟩; have n0_ := Aside0.mk (Kd.V_below (by (with_reducible repeat (first | apply Kd.V_alloc | apply Kd.V_drewN | apply Kd.V_drew)); exact HO_5.out) hb); have n1_ := Aside0.mk (blk_below (g := gb232) (o := .cells #[.int .i64 a0_0, .slice A0_1 l0_1.length c0_1, .int .i64 a0_2, .int .i64 a0_3, .int .i64 a0_4, .int .i64 a0_5, .int .i64 a0_6] 31 (0, 0)) (by (with_reducible repeat (first | refine blk_drewN ?_ _ | refine blk_drew ?_ | refine blk_alloc ?_ _)); exact BK232.out) hb); have n2_ := Aside0.mk (below_step (by repeat (first | (with_reducible first | exact HB.out | apply below_alloc | apply pw_below_drewN | apply below_drew1 | refine below_set ?_ GE232.out) | exact HB.out)) hb); clear HO_5; clear BK232; clear HB; have HO_5 := n0_; have BK232 := n1_; have HB := n2_; clear n0_ n1_ n2_; (try clear hb); (try clear hb2); (try clear hk); (try clear hi); have hcz49_0 : w48.cell? ⟨gb232, 0, none⟩ = some (.int .i64 a0_0) := (blk_cell BK232.out 0).trans rfl; have hcz49_1 : w48.cell? ⟨gb232, 1, none⟩ = some (.slice A0_1 l0_1.length c0_1) := (blk_cell BK232.out 1).trans rfl; have hcz49_2 : w48.cell? ⟨gb232, 2, none⟩ = some (.int .i64 a0_2) := (blk_cell BK232.out 2).trans rfl; have hcz49_3 : w48.cell? ⟨gb232, 3, none⟩ = some (.int .i64 a0_3) := (blk_cell BK232.out 3).trans rfl; have hcz49_4 : w48.cell? ⟨gb232, 4, none⟩ = some (.int .i64 a0_4) := (blk_cell BK232.out 4).trans rfl; have hcz49_5 : w48.cell? ⟨gb232, 5, none⟩ = some (.int .i64 a0_5) := (blk_cell BK232.out 5).trans rfl; have hcz49_6 : w48.cell? ⟨gb232, 6, none⟩ = some (.int .i64 a0_6) := (blk_cell BK232.out 6).trans rfl; have hfz49_0 := blk_frozen BK232.out 0; have hfz49_1 := blk_frozen BK232.out 1; have hfz49_2 := blk_frozen BK232.out 2; have hfz49_3 := blk_frozen BK232.out 3; have hfz49_4 := blk_frozen BK232.out 4; have hfz49_5 := blk_frozen BK232.out 5; have hfz49_6 := blk_frozen BK232.out 6) | (go_at_call 19; (with_reducible refine (clock_Near.calls kj3 a0_0 _ _ t233 (t233.length : Int) (wrap64 (1 + (wrap64 (a1)))) t247 t248 _ ?side1 ?side2 A41.out).mono ?_); (case side1 => repeat (first | exact (Kd.V_reads' HO_5.out).2.2 | (with_reducible refine Kd.C_alloc ?_ _) | (with_reducible refine Kd.C_drewN ?_ _) | (with_reducible refine Kd.C_drew ?_))); (case side2 => exact (Kd.V_reads' HO_5.out).2.1); rintro e w50 ⟨rfl, hb⟩; have n0_ := Aside0.mk (Kd.V_below (by (with_reducible repeat (first | apply Kd.V_alloc | apply Kd.V_drewN | apply Kd.V_drew)); exact HO_5.out) hb); have n1_ := Aside0.mk (blk_below (g := gb232) (o := .cells #[.int .i64 a0_0, .slice A0_1 l0_1.length c0_1, .int .i64 a0_2, .int .i64 a0_3, .int .i64 a0_4, .int .i64 a0_5, .int .i64 a0_6] 31 (0, 0)) (by (with_reducible repeat (first | refine blk_drewN ?_ _ | refine blk_drew ?_ | refine blk_alloc ?_ _)); exact BK232.out) hb); have n2_ := Aside0.mk (below_step (by repeat (first | (with_reducible first | exact HB.out | apply below_alloc | apply pw_below_drewN | apply below_drew1 | refine below_set ?_ GE232.out) | exact HB.out)) hb); clear HO_5; clear BK232; clear HB; have HO_5 := n0_; have BK232 := n1_; have HB := n2_; clear n0_ n1_ n2_; (try clear hb); (try clear hb2); (try clear hk); (try clear hi); have hcz51_0 : w50.cell? ⟨gb232, 0, none⟩ = some (.int .i64 a0_0) := (blk_cell BK232.out 0).trans rfl; have hcz51_1 : w50.cell? ⟨gb232, 1, none⟩ = some (.slice A0_1 l0_1.length c0_1) := (blk_cell BK232.out 1).trans rfl; have hcz51_2 : w50.cell? ⟨gb232, 2, none⟩ = some (.int .i64 a0_2) := (blk_cell BK232.out 2).trans rfl; have hcz51_3 : w50.cell? ⟨gb232, 3, none⟩ = some (.int .i64 a0_3) := (blk_cell BK232.out 3).trans rfl; have hcz51_4 : w50.cell? ⟨gb232, 4, none⟩ = some (.int .i64 a0_4) := (blk_cell BK232.out 4).trans rfl; have hcz51_5 : w50.cell? ⟨gb232, 5, none⟩ = some (.int .i64 a0_5) := (blk_cell BK232.out 5).trans rfl; have hcz51_6 : w50.cell? ⟨gb232, 6, none⟩ = some (.int .i64 a0_6) := (blk_cell BK232.out 6).trans rfl; have hfz51_0 := blk_frozen BK232.out 0; have hfz51_1 := blk_frozen BK232.out 1; have hfz51_2 := blk_frozen BK232.out 2; have hfz51_3 := blk_frozen BK232.out 3; have hfz51_4 := blk_frozen BK232.out 4; have hfz51_5 := blk_frozen BK232.out 5; have hfz51_6 := blk_frozen BK232.out 6) | (go_at_call 21; (with_reducible refine (tattleref04_May.calls kj3 a0_0 _ _ t233 t249 _ ?side1 ?side2 A42.out).mono ?_); (case side1 => repeat (first | exact (Kd.V_reads' HO_5.out).2.2 | (with_reducible refine Kd.C_alloc ?_ _) | (with_reducible refine Kd.C_drewN ?_ _) | (with_reducible refine Kd.C_drew ?_))); (case side2 => exact (Kd.V_reads' HO_5.out).2.1); rintro e w52 ⟨rfl, hb⟩; have n0_ := Aside0.mk (Kd.V_below (by (with_reducible repeat (first | apply Kd.V_alloc | apply Kd.V_drewN | apply Kd.V_drew)); exact HO_5.out) hb); have n1_ := Aside0.mk (blk_below (g := gb232) (o := .cells #[.int .i64 a0_0, .slice A0_1 l0_1.length c0_1, .int .i64 a0_2, .int .i64 a0_3, .int .i64 a0_4, .int .i64 a0_5, .int .i64 a0_6] 31 (0, 0)) (by (with_reducible repeat (first | refine blk_drewN ?_ _ | refine blk_drew ?_ | refine blk_alloc ?_ _)); exact BK232.out) hb); have n2_ := Aside0.mk (below_step (by repeat (first | (with_reducible first | exact HB.out | apply below_alloc | apply pw_below_drewN | apply below_drew1 | refine below_set ?_ GE232.out) | exact HB.out)) hb); clear HO_5; clear BK232; clear HB; have HO_5 := n0_; have BK232 := n1_; have HB := n2_; clear n0_ n1_ n2_; (try clear hb); (try clear hb2); (try clear hk); (try clear hi)) | (go_at_call 16; (with_reducible refine (tattlelaw04_awakeT.calls  t250 _ A45.out).mono ?_); rintro e w53 ⟨rfl, hb⟩; have n0_ := Aside0.mk (blk_below (g := gb232) (o := .cells #[.int .i64 a0_0, .slice A0_1 l0_1.length c0_1, .int .i64 a0_2, .int .i64 a0_3, .int .i64 a0_4, .int .i64 a0_5, .int .i64 a0_6] 31 (0, 0)) (by (with_reducible repeat (first | refine blk_drewN ?_ _ | refine blk_drew ?_ | refine blk_alloc ?_ _)); exact BK232.out) hb); have n1_ := Aside0.mk (below_step (by repeat (first | (with_reducible first | exact HB.out | apply below_alloc | apply pw_below_drewN | apply below_drew1 | refine below_set ?_ GE232.out) | exact HB.out)) hb); clear BK232; clear HB; have BK232 := n0_; have HB := n1_; clear n0_ n1_; (try clear hb); (try clear hb2); (try clear hk); (try clear hi))); try go_wp2_with (first | (go_at_call 20; (with_reducible refine (clock_Ticks.calls kj3 a0_0 _ _ t233 a0_4 a0_5 a0_6 t237 t238 _ ?side1 ?side2 A15.out).mono ?_); (case side1 => repeat (first | exact (Kd.V_reads' HO_5.out).2.2 | (with_reducible refine Kd.C_alloc ?_ _) | (with_reducible refine Kd.C_drewN ?_ _) | (with_reducible refine Kd.C_drew ?_))); (case side2 => exact (Kd.V_reads' HO_5.out).2.1); rintro e w48 ⟨rfl, hb⟩; have n0_ := Aside0.mk (Kd.V_below (by (with_reducible repeat (first | apply Kd.V_alloc | apply Kd.V_drewN | apply Kd.V_drew)); exact HO_5.out) hb); have n1_ := Aside0.mk (blk_below (g := gb232) (o := .cells #[.int .i64 a0_0, .slice A0_1 l0_1.length c0_1, .int .i64 a0_2, .int .i64 a0_3, .int .i64 a0_4, .int .i64 a0_5, .int .i64 a0_6] 31 (0, 0)) (by (with_reducible repeat (first | refine blk_drewN ?_ _ | refine blk_drew ?_ | refine blk_alloc ?_ _)); exact BK232.out) hb); have n2_ := Aside0.mk (below_step (by repeat (first | (with_reducible first | exact HB.out | apply below_alloc | apply pw_below_drewN | apply below_drew1 | refine below_set ?_ GE232.out) | exact HB.out)) hb); clear HO_5; clear BK232; clear HB; have HO_5 := n0_; have BK232 := n1_; have HB := n2_; clear n0_ n1_ n2_; (try clear hb); (try clear hb2); (try clear hk); (try clear hi); have hcz49_0 : w48.cell? ⟨gb232, 0, none⟩ = some (.int .i64 a0_0) := (blk_cell BK232.out 0).trans rfl; have hcz49_1 : w48.cell? ⟨gb232, 1, none⟩ = some (.slice A0_1 l0_1.length c0_1) := (blk_cell BK232.out 1).trans rfl; have hcz49_2 : w48.cell? ⟨gb232, 2, none⟩ = some (.int .i64 a0_2) := (blk_cell BK232.out 2).trans rfl; have hcz49_3 : w48.cell? ⟨gb232, 3, none⟩ = some (.int .i64 a0_3) := (blk_cell BK232.out 3).trans rfl; have hcz49_4 : w48.cell? ⟨gb232, 4, none⟩ = some (.int .i64 a0_4) := (blk_cell BK232.out 4).trans rfl; have hcz49_5 : w48.cell? ⟨gb232, 5, none⟩ = some (.int .i64 a0_5) := (blk_cell BK232.out 5).trans rfl; have hcz49_6 : w48.cell? ⟨gb232, 6, none⟩ = some (.int .i64 a0_6) := (blk_cell BK232.out 6).trans rfl; have hfz49_0 := blk_frozen BK232.out 0; have hfz49_1 := blk_frozen BK232.out 1; have hfz49_2 := blk_frozen BK232.out 2; have hfz49_3 := blk_frozen BK232.out 3; have hfz49_4 := blk_frozen BK232.out 4; have hfz49_5 := blk_frozen BK232.out 5; have hfz49_6 := blk_frozen BK232.out 6) | (go_at_call 19; (with_reducible refine (clock_Near.calls kj3 a0_0 _ _ t233 (t233.length : Int) (wrap64 (1 + (wrap64 (a1)))) t247 t248 _ ?side1 ?side2 A41.out).mono ?_); (case side1 => repeat (first | exact (Kd.V_reads' HO_5.out).2.2 | (with_reducible refine Kd.C_alloc ?_ _) | (with_reducible refine Kd.C_drewN ?_ _) | (with_reducible refine Kd.C_drew ?_))); (case side2 => exact (Kd.V_reads' HO_5.out).2.1); rintro e w50 ⟨rfl, hb⟩; have n0_ := Aside0.mk (Kd.V_below (by (with_reducible repeat (first | apply Kd.V_alloc | apply Kd.V_drewN | apply Kd.V_drew)); exact HO_5.out) hb); have n1_ := Aside0.mk (blk_below (g := gb232) (o := .cells #[.int .i64 a0_0, .slice A0_1 l0_1.length c0_1, .int .i64 a0_2, .int .i64 a0_3, .int .i64 a0_4, .int .i64 a0_5, .int .i64 a0_6] 31 (0, 0)) (by (with_reducible repeat (first | refine blk_drewN ?_ _ | refine blk_drew ?_ | refine blk_alloc ?_ _)); exact BK232.out) hb); have n2_ := Aside0.mk (below_step (by repeat (first | (with_reducible first | exact HB.out | apply below_alloc | apply pw_below_drewN | apply below_drew1 | refine below_set ?_ GE232.out) | exact HB.out)) hb); clear HO_5; clear BK232; clear HB; have HO_5 := n0_; have BK232 := n1_; have HB := n2_; clear n0_ n1_ n2_; (try clear hb); (try clear hb2); (try clear hk); (try clear hi); have hcz51_0 : w50.cell? ⟨gb232, 0, none⟩ = some (.int .i64 a0_0) := (blk_cell BK232.out 0).trans rfl; have hcz51_1 : w50.cell? ⟨gb232, 1, none⟩ = some (.slice A0_1 l0_1.length c0_1) := (blk_cell BK232.out 1).trans rfl; have hcz51_2 : w50.cell? ⟨gb232, 2, none⟩ = some (.int .i64 a0_2) := (blk_cell BK232.out 2).trans rfl; have hcz51_3 : w50.cell? ⟨gb232, 3, none⟩ = some (.int .i64 a0_3) := (blk_cell BK232.out 3).trans rfl; have hcz51_4 : w50.cell? ⟨gb232, 4, none⟩ = some (.int .i64 a0_4) := (blk_cell BK232.out 4).trans rfl; have hcz51_5 : w50.cell? ⟨gb232, 5, none⟩ = some (.int .i64 a0_5) := (blk_cell BK232.out 5).trans rfl; have hcz51_6 : w50.cell? ⟨gb232, 6, none⟩ = some (.int .i64 a0_6) := (blk_cell BK232.out 6).trans rfl; have hfz51_0 := blk_frozen BK232.out 0; have hfz51_1 := blk_frozen BK232.out 1; have hfz51_2 := blk_frozen BK232.out 2; have hfz51_3 := blk_frozen BK232.out 3; have hfz51_4 := blk_frozen BK232.out 4; have hfz51_5 := blk_frozen BK232.out 5; have hfz51_6 := blk_frozen BK232.out 6) | (go_at_call 21; (with_reducible refine (tattleref04_May.calls kj3 a0_0 _ _ t233 t249 _ ?side1 ?side2 A42.out).mono ?_); (case side1 => repeat (first | exact (Kd.V_reads' HO_5.out).2.2 | (with_reducible refine Kd.C_alloc ?_ _) | (with_reducible refine Kd.C_drewN ?_ _) | (with_reducible refine Kd.C_drew ?_))); (case side2 => exact (Kd.V_reads' HO_5.out).2.1); rintro e w52 ⟨rfl, hb⟩; have n0_ := Aside0.mk (Kd.V_below (by (with_reducible repeat (first | apply Kd.V_alloc | apply Kd.V_drewN | apply Kd.V_drew)); exact HO_5.out) hb); have n1_ := Aside0.mk (blk_below (g := gb232) (o := .cells #[.int .i64 a0_0, .slice A0_1 l0_1.length c0_1, .int .i64 a0_2, .int .i64 a0_3, .int .i64 a0_4, .int .i64 a0_5, .int .i64 a0_6] 31 (0, 0)) (by (with_reducible repeat (first | refine blk_drewN ?_ _ | refine blk_drew ?_ | refine blk_alloc ?_ _)); exact BK232.out) hb); have n2_ := Aside0.mk (below_step (by repeat (first | (with_reducible first | exact HB.out | apply below_alloc | apply pw_below_drewN | apply below_drew1 | refine below_set ?_ GE232.out) | exact HB.out)) hb); clear HO_5; clear BK232; clear HB; have HO_5 := n0_; have BK232 := n1_; have HB := n2_; clear n0_ n1_ n2_; (try clear hb); (try clear hb2); (try clear hk); (try clear hi)) | (go_at_call 16; (with_reducible refine (tattlelaw04_awakeT.calls  t250 _ A45.out).mono ?_); rintro e w53 ⟨rfl, hb⟩; have n0_ := Aside0.mk (blk_below (g := gb232) (o := .cells #[.int .i64 a0_0, .slice A0_1 l0_1.length c0_1, .int .i64 a0_2, .int .i64 a0_3, .int .i64 a0_4, .int .i64 a0_5, .int .i64 a0_6] 31 (0, 0)) (by (with_reducible repeat (first | refine blk_drewN ?_ _ | refine blk_drew ?_ | refine blk_alloc ?_ _)); exact BK232.out) hb); have n1_ := Aside0.mk (below_step (by repeat (first | (with_reducible first | exact HB.out | apply below_alloc | apply pw_below_drewN | apply below_drew1 | refine below_set ?_ GE232.out) | exact HB.out)) hb); clear BK232; clear HB; have BK232 := n0_; have HB := n1_; clear n0_ n1_; (try clear hb); (try clear hb2); (try clear hk); (try clear hi))))
              go_ret
              exact ⟨by first | rfl | (simp [errW_none, errW_some] <;> rfl) | (simp [*, errW_none, errW_some] <;> rfl), by repeat (first | (with_reducible first | exact HB.out | apply below_alloc | apply pw_below_drewN | apply below_drew1 | refine below_set ?_ GE232.out) | exact HB.out)⟩
            · rw [if_neg c44] at H
              have c44b0 : ((t248 == 0) == t247) = false := by simpa using c44
              (try (have c44b1 : decide ((t248 == 0) = t247) = false := by simpa using c44))
              (try (have c44b2 : ((t248 == 0) == t247) = false := by simpa using c44))
              (try (have c44b3 : ¬ ((t248 == 0) = t247) := by simpa using c44))
              clear c44
              exact absurd ((Option.some.inj H).trans hrt.out) (by decide)
          · rw [if_neg c43] at H
            have c43b0 : (t247 == t249) = false := by simpa using c43
            (try (have c43b1 : decide (t247 = t249) = false := by simpa using c43))
            (try (have c43b2 : (t247 == t249) = false := by simpa using c43))
            (try (have c43b3 : ¬ (t247 = t249) := by simpa using c43))
            clear c43
            exact absurd ((Option.some.inj H).trans hrt.out) (by decide)

end Go.Proofs.Ytahppppkepcbkaa.Fn
