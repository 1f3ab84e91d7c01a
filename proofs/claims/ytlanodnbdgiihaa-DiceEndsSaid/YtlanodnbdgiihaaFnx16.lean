-- Written by program (a turned copy of the kit's print) for this seat: functions, contracts. Lean checks it.
import Derived.Test.YtlanodnbdgiihaaFnx0
import Derived.Test.YtlanodnbdgiihaaFnx1
import Derived.Test.YtlanodnbdgiihaaFnx2
import Derived.Test.YtlanodnbdgiihaaFnx3
import Derived.Test.YtlanodnbdgiihaaAw25
import Derived.Test.YtlanodnbdgiihaaExBelow
namespace Go.Proofs.Ytlanodnbdgiihaa.Fn
open Go.RowKit Go.Proofs.YtlanodnbdgiihaaW.PrintWords Go.Proofs.YtlanodnbdgiihaaW.PrintLast Go.Proofs.YtlanodnbdgiihaaW.PrintMore
attribute [local go_sem] max2_int min2_int max_two min_two max_three min_three max_four min_four   -- for this text's walks alone
set_option linter.unusedVariables false
set_option linter.unusedSimpArgs false

attribute [local go_sem high] eqA23
/-! ### tattlelaw02_DiceEnds: function 6 -/
def tattlelaw02_DiceEnds.l0 : Nat → Int → Int → ByteArray → Int → Option (Bool)
  | 0, _, _, _, _ => none
  | k + 1, x5, x6, x306000, x306001 => if x6 < (x306000.size : Int) then ((dice_Below.f x306000 x306001 x5).bind fun bt310 => (if bt310.2.2.2 = 0 then (if bt310.2.2.1 = (wrap64 (x306001 + 1)) then (if 0 ≤ x6 then (if x5 = 0 then (none) else (if bt310.1 = (Int.tmod (wrap64 (bt x306000 x6)) x5) then (tattlelaw02_DiceEnds.l0 k x5 (wrap64 (x6 + 1)) bt310.2.1 bt310.2.2.1) else (some false))) else (none)) else (some false)) else (some false))) else ((dice_Below.f x306000 x306001 x5).bind fun bt315 => (if bt315.1 = 0 then (if (bt315.2.1.toList == x306000.toList && (bt315.2.2.1 == x306001)) = true then (if bt315.2.2.2 = 0 then ((tattlelaw02_awakeT.f).bind fun t320 => (some t320)) else (some false)) else (some false)) else (some false)))
def tattlelaw02_DiceEnds.f (k : Nat) (a0_0 : ByteArray) (a0_1 : Int) (a1 : Int) : Option (Bool) := (tattlelaw02_Few.f a0_0 a0_1).bind fun bt306 => ((tattleref02_May.f bt306.1 bt306.2).bind fun t308 => (if t308 = true then (tattlelaw02_DiceEnds.l0 k (wrap64 (1 + (wrap64 (a1)))) bt306.2 bt306.1 bt306.2) else ((tattlelaw02_awakeT.f).bind fun t309 => (some t309))))
theorem tattlelaw02_DiceEnds.mono_l : ∀ k, (∀ y0 y1 y2 y3, LeO (tattlelaw02_DiceEnds.l0 k y0 y1 y2 y3) (tattlelaw02_DiceEnds.l0 (k + 1) y0 y1 y2 y3))
  | 0 => fun _ _ _ _ r h => by simp [tattlelaw02_DiceEnds.l0] at h
  | k + 1 => by
    have ih0 := tattlelaw02_DiceEnds.mono_l k
    · intro y0 y1 y2 y3
      unfold tattlelaw02_DiceEnds.l0
      repeat' first
      | (with_reducible exact ih0 _ _ _ _)
      | (with_reducible exact LeO.refl _)
      | (with_reducible exact LeO.none _)
      | (with_reducible refine LeO.ite ?_ ?_)
      | (with_reducible refine LeO.bind ?_ (fun _ => ?_))
      | exact ih0 _ _ _ _
      | exact LeO.none _
      | refine LeO.ite ?_ ?_
      | refine LeO.bind ?_ (fun _ => ?_)
theorem tattlelaw02_DiceEnds.mono : ∀ a0 a1 a2 k, LeO (tattlelaw02_DiceEnds.f k a0 a1 a2) (tattlelaw02_DiceEnds.f (k + 1) a0 a1 a2) := by
  intro a0 a1 a2 k
  have ih0 := tattlelaw02_DiceEnds.mono_l k
  unfold tattlelaw02_DiceEnds.f
  repeat' first
      | (with_reducible exact ih0 _ _ _ _)
      | (with_reducible exact LeO.refl _)
      | (with_reducible exact LeO.none _)
      | (with_reducible refine LeO.ite ?_ ?_)
      | (with_reducible refine LeO.bind ?_ (fun _ => ?_))
      | exact ih0 _ _ _ _
      | exact LeO.none _
      | refine LeO.ite ?_ ?_
      | refine LeO.bind ?_ (fun _ => ?_)
set_option maxHeartbeats 8000000 in
set_option maxRecDepth 100000 in
theorem tattlelaw02_DiceEnds.calls (k : Nat) (a0_0 : ByteArray) (a0_1 : Int) (a1 : Int) (r : Bool) (w : World) (hrt : Aside0 (r = true)) (h : tattlelaw02_DiceEnds.f k a0_0 a0_1 a1 = some r) :
    Calls Try.prog 6 #[.agg #[.string a0_0, .int .i64 a0_1], .int .u8 a1] w fun e w' => e = .returned (.bool r) ∧ Below w.heap.size w w' := by
  have hu23 := Try.underlying23
  have HB := Aside0.mk (Below.refl w.heap.size w)
  have H : ((tattlelaw02_Few.f a0_0 a0_1).bind fun bt306 => ((tattleref02_May.f bt306.1 bt306.2).bind fun t308 => (if t308 = true then (tattlelaw02_DiceEnds.l0 k (wrap64 (1 + (wrap64 (a1)))) bt306.2 bt306.1 bt306.2) else ((tattlelaw02_awakeT.f).bind fun t309 => (some t309))))) = some r := h
  clear h
  replace H := Option.bind_eq_some_iff.mp H
  obtain ⟨⟨t306, t307⟩, A30, H⟩ := H
  replace H : ((tattleref02_May.f t306 t307).bind fun t308 => (if t308 = true then (tattlelaw02_DiceEnds.l0 k (wrap64 (1 + (wrap64 (a1)))) t307 t306 t307) else ((tattlelaw02_awakeT.f).bind fun t309 => (some t309)))) = some r := H
  have A3 := Aside0.mk A30
  clear A30
  replace H := Option.bind_eq_some_iff.mp H
  obtain ⟨t308, A40, H⟩ := H
  replace H : (if t308 = true then (tattlelaw02_DiceEnds.l0 k (wrap64 (1 + (wrap64 (a1)))) t307 t306 t307) else ((tattlelaw02_awakeT.f).bind fun t309 => (some t309))) = some r := H
  have A4 := Aside0.mk A40
  clear A40
  by_cases c5 : t308 = true
  · subst c5
    have H1 : (tattlelaw02_DiceEnds.l0 k (wrap64 (1 + (wrap64 (a1)))) t307 t306 t307) = some r := by rw [if_pos rfl] at H; exact H
    clear H
    have H := H1
    clear H1
    have H' := Aside0.mk H
    clear H
    go_enter Try.func6, Try.ntmps6
    go_wp2_with (first | ((with_reducible refine gate_dst (N := 2) rfl ?_); refine box_event ?hg (N := 2) ?hd (cs := #[.string a0_0, .int .i64 a0_1]) (t := 23) ?hr ?_; (case hd => rfl); (case hg => rfl); (case hr => first | (go_simp; done) | (go_simp; rfl)); intro gb305 hg w6 hbox hb; have n0_ := Aside0.mk (below_step (by repeat (first | (with_reducible first | exact HB.out | apply below_alloc | apply pw_below_drewN | apply below_drew1) | exact HB.out)) hb); have n1_ := Aside0.mk (hbox); have n2_ := Aside0.mk ((by rw [hg]; exact (below_size (by repeat (first | (with_reducible first | exact HB.out | apply below_alloc | apply pw_below_drewN | apply below_drew1) | exact HB.out))) : w.heap.size ≤ gb305)); have n3_ := Aside0.mk ((by rw [hg]; exact (below_size (by repeat (first | (with_reducible first | exact HB.out | apply below_alloc | apply pw_below_drewN | apply below_drew1) | exact HB.out))) : w.heap.size ≤ gb305)); clear HB; have HB := n0_; have BK305 := n1_; have GW305 := n2_; have GE305 := n3_; clear n0_ n1_ n2_ n3_; clear hb hbox hg; have hcz7_0 : w6.cell? ⟨gb305, 0, none⟩ = some (.string a0_0) := (blk_cell BK305.out 0).trans rfl; have hcz7_1 : w6.cell? ⟨gb305, 1, none⟩ = some (.int .i64 a0_1) := (blk_cell BK305.out 1).trans rfl; have hfz7_0 := blk_frozen BK305.out 0; have hfz7_1 := blk_frozen BK305.out 1) | ((with_reducible refine gate_callee (f := 14) rfl ?_); refine goesL_ (some 14) rfl rfl Try.func14 (by kernel_rfl) rfl #[.agg #[.string a0_0, .int .i64 a0_1]] rfl (by (try simp only [List.map_toArray, List.map_cons, List.map_nil]); first | done | rfl | (simp only [List.length_drop, List.length_take]; rfl)) ?_; (with_reducible refine (tattlelaw02_Few.calls a0_0 a0_1 t306 t307 _ A3.out).mono ?_); rintro e w8 ⟨rfl, hb⟩; refine ⟨_, rfl, ?_⟩; have n0_ := Aside0.mk (blk_below (g := gb305) (o := .cells #[.string a0_0, .int .i64 a0_1] 23 (0, 0)) (by (with_reducible repeat (first | refine blk_drewN ?_ _ | refine blk_drew ?_ | refine blk_alloc ?_ _)); exact BK305.out) hb); have n1_ := Aside0.mk (below_step (by repeat (first | (with_reducible first | exact HB.out | apply below_alloc | apply pw_below_drewN | apply below_drew1 | refine below_set ?_ GE305.out) | exact HB.out)) hb); clear BK305; clear HB; have BK305 := n0_; have HB := n1_; clear n0_ n1_; (try clear hb); (try clear hb2); (try clear hk); (try clear hi); have hcz9_0 : w8.cell? ⟨gb305, 0, none⟩ = some (.string a0_0) := (blk_cell BK305.out 0).trans rfl; have hcz9_1 : w8.cell? ⟨gb305, 1, none⟩ = some (.int .i64 a0_1) := (blk_cell BK305.out 1).trans rfl; have hfz9_0 := blk_frozen BK305.out 0; have hfz9_1 := blk_frozen BK305.out 1) | ((with_reducible refine gate_callee (f := 19) rfl ?_); refine goesL_ (some 16) rfl rfl Try.func19 (by kernel_rfl) rfl #[.agg #[.string t306, .int .i64 t307]] rfl (by (try simp only [List.map_toArray, List.map_cons, List.map_nil]); first | done | rfl | (simp only [List.length_drop, List.length_take]; rfl)) ?_; (with_reducible refine (tattleref02_May.calls t306 t307 true _ A4.out).mono ?_); rintro e w10 ⟨rfl, hb⟩; refine ⟨_, rfl, ?_⟩; have n0_ := Aside0.mk (blk_below (g := gb305) (o := .cells #[.string t306, .int .i64 t307] 23 (0, 0)) (by (with_reducible repeat (first | refine blk_drewN ?_ _ | refine blk_drew ?_ | refine blk_alloc ?_ _)); refine blk_put (cs := #[.string t306, .int .i64 a0_1]) ?_ 1 _ rfl; (with_reducible repeat (first | refine blk_drewN ?_ _ | refine blk_drew ?_ | refine blk_alloc ?_ _)); refine blk_put (cs := #[.string a0_0, .int .i64 a0_1]) ?_ 0 _ rfl; (with_reducible repeat (first | refine blk_drewN ?_ _ | refine blk_drew ?_ | refine blk_alloc ?_ _)); exact BK305.out) hb); have n1_ := Aside0.mk (below_step (by repeat (first | (with_reducible first | exact HB.out | apply below_alloc | apply pw_below_drewN | apply below_drew1 | refine below_set ?_ GE305.out) | exact HB.out)) hb); clear BK305; clear HB; have BK305 := n0_; have HB := n1_; clear n0_ n1_; (try clear hb); (try clear hb2); (try clear hk); (try clear hi); have hcz11_0 : w10.cell? ⟨gb305, 0, none⟩ = some (.string t306) := (blk_cell BK305.out 0).trans rfl; have hcz11_1 : w10.cell? ⟨gb305, 1, none⟩ = some (.int .i64 t307) := (blk_cell BK305.out 1).trans rfl; have hfz11_0 := blk_frozen BK305.out 0; have hfz11_1 := blk_frozen BK305.out 1))
    go_loopg [6] k (fun kq v6 w' => ∃ (x6_1 : Int) (x306000_1 : ByteArray) (x306001_1 : Int), v6 = .int .i64 x6_1 ∧ Aside0 (tattlelaw02_DiceEnds.l0 kq (wrap64 (1 + (wrap64 (a1)))) x6_1 x306000_1 x306001_1 = some r) ∧ Aside0 (kq ≤ k) ∧ Aside0 (w'.heap[gb305]? = some (.cells #[.string x306000_1, .int .i64 x306001_1] 23 (0, 0))) ∧ Aside0 (Below w.heap.size w w'))
    case atStart => exact ⟨(t307), (t306), (t307), (by first | rfl | (simp; done) | (simp [*]; done)), H', ⟨Nat.le_refl _⟩, ⟨by (with_reducible repeat (first | refine blk_drewN ?_ _ | refine blk_drew ?_ | refine blk_alloc ?_ _)); exact BK305.out⟩, ⟨by repeat (first | (with_reducible first | exact HB.out | apply below_alloc | apply pw_below_drewN | apply below_drew1 | refine below_set ?_ GE305.out) | exact HB.out)⟩⟩
    case round =>
      clear H'
      try clear c1
      try clear p2
      try clear c5
      try clear c6
      try clear p6
      try clear hcz11_0
      try clear hcz11_1
      try clear hcz7_0
      try clear hcz7_1
      try clear hcz9_0
      try clear hcz9_1
      try clear hfz11_0
      try clear hfz11_1
      try clear hfz7_0
      try clear hfz7_1
      try clear hfz9_0
      try clear hfz9_1
      obtain ⟨x6_1, x306000_1, x306001_1, rfl, HA, HK1, BK305, HB⟩ := hrel
      cases gk with
      | zero => exact absurd HA.out (by simp [tattlelaw02_DiceEnds.l0])
      | succ k1 =>
        have H := HA.out
        clear HA
        simp only [tattlelaw02_DiceEnds.l0] at H
        by_cases c12 : x6_1 < (x306000_1.size : Int)
        · rw [if_pos c12] at H
          have c12b0 : decide (x6_1 < (x306000_1.size : Int)) = true := decide_eq_true c12
          clear c12
          replace H := Option.bind_eq_some_iff.mp H
          obtain ⟨⟨t310, t311, t312, t313⟩, A130, H⟩ := H
          replace H : (if t313 = 0 then (if t312 = (wrap64 (x306001_1 + 1)) then (if 0 ≤ x6_1 then (if (wrap64 (1 + (wrap64 (a1)))) = 0 then (none) else (if t310 = (Int.tmod (wrap64 (bt x306000_1 x6_1)) (wrap64 (1 + (wrap64 (a1))))) then (tattlelaw02_DiceEnds.l0 k1 (wrap64 (1 + (wrap64 (a1)))) (wrap64 (x6_1 + 1)) t311 t312) else (some false))) else (none)) else (some false)) else (some false)) = some r := H
          have A13 := Aside0.mk A130
          clear A130
          by_cases c14 : t313 = 0
          · rw [if_pos c14] at H
            have c14b0 : (t313 == 0) = true := beq_iff_eq.mpr c14
            have c14b1 : (t313 != 0) = false := bne_eq_false_iff_eq.mpr c14
            clear c14
            by_cases c15 : t312 = (wrap64 (x306001_1 + 1))
            · rw [if_pos c15] at H
              have c15b0 : (t312 == (wrap64 (x306001_1 + 1))) = true := beq_iff_eq.mpr c15
              have c15b1 : (t312 != (wrap64 (x306001_1 + 1))) = false := bne_eq_false_iff_eq.mpr c15
              clear c15
              by_cases c16 : 0 ≤ x6_1
              · rw [if_pos c16] at H
                have c16b0 : decide (0 ≤ x6_1) = true := decide_eq_true c16
                clear c16
                by_cases c18 : (wrap64 (1 + (wrap64 (a1)))) = 0
                · rw [if_pos c18] at H
                  exact absurd H (by simp)
                · rw [if_neg c18] at H
                  have c18b0 : ((wrap64 (1 + (wrap64 (a1)))) == 0) = false := beq_eq_false_iff_ne.mpr c18
                  have c18b1 : ((wrap64 (1 + (wrap64 (a1)))) != 0) = true := bne_iff_ne.mpr c18
                  by_cases c19 : t310 = (Int.tmod (wrap64 (bt x306000_1 x6_1)) (wrap64 (1 + (wrap64 (a1)))))
                  · rw [if_pos c19] at H
                    have c19b0 : (t310 == (Int.tmod (wrap64 (bt x306000_1 x6_1)) (wrap64 (1 + (wrap64 (a1)))))) = true := beq_iff_eq.mpr c19
                    have c19b1 : (t310 != (Int.tmod (wrap64 (bt x306000_1 x6_1)) (wrap64 (1 + (wrap64 (a1)))))) = false := bne_eq_false_iff_eq.mpr c19
                    clear c19
                    have H' := Aside0.mk H
                    clear H
                    have hcz20_0 : wr.cell? ⟨gb305, 0, none⟩ = some (.string x306000_1) := (blk_cell BK305.out 0).trans rfl
                    have hcz20_1 : wr.cell? ⟨gb305, 1, none⟩ = some (.int .i64 x306001_1) := (blk_cell BK305.out 1).trans rfl
                    have hfz20_0 := blk_frozen BK305.out 0
                    have hfz20_1 := blk_frozen BK305.out 1
                    go_wp2_with (first | ((with_reducible refine gate_callee (f := 16) rfl ?_); refine goesL_ (some 34) rfl rfl Try.func16 (by kernel_rfl) rfl #[.agg #[.string x306000_1, .int .i64 x306001_1], .int .i64 (wrap64 (1 + (wrap64 (a1))))] rfl (by (try simp only [List.map_toArray, List.map_cons, List.map_nil]); first | done | rfl | (simp only [List.length_drop, List.length_take]; rfl)) ?_; (with_reducible refine (dice_Below.calls x306000_1 x306001_1 (wrap64 (1 + (wrap64 (a1)))) t310 t311 t312 t313 _ A13.out).mono ?_); rintro e w21 ⟨rfl, hb⟩; refine ⟨_, rfl, ?_⟩; have n0_ := Aside0.mk (blk_below (g := gb305) (o := .cells #[.string x306000_1, .int .i64 x306001_1] 23 (0, 0)) (by (with_reducible repeat (first | refine blk_drewN ?_ _ | refine blk_drew ?_ | refine blk_alloc ?_ _)); exact BK305.out) hb); have n1_ := Aside0.mk (below_step (by repeat (first | (with_reducible first | exact HB.out | apply below_alloc | apply pw_below_drewN | apply below_drew1 | refine below_set ?_ GE305.out) | exact HB.out)) hb); clear BK305; clear HB; have BK305 := n0_; have HB := n1_; clear n0_ n1_; (try clear hb); (try clear hb2); (try clear hk); (try clear hi)) | ((with_reducible refine gate_dst (N := 8) rfl ?_); refine box_event ?hg (N := 8) ?hd (cs := #[.string (⟨#[]⟩ : ByteArray), .int .i64 0]) (t := 23) ?hr ?_; (case hd => rfl); (case hg => rfl); (case hr => first | (go_simp; done) | (go_simp; rfl)); intro gb314 hg w22 hbox hb; have n0_ := Aside0.mk (blk_below (g := gb305) (o := .cells #[.string x306000_1, .int .i64 x306001_1] 23 (0, 0)) (by (with_reducible repeat (first | refine blk_drewN ?_ _ | refine blk_drew ?_ | refine blk_alloc ?_ _)); exact BK305.out) hb); have n1_ := Aside0.mk (below_step (by repeat (first | (with_reducible first | exact HB.out | apply below_alloc | apply pw_below_drewN | apply below_drew1 | refine below_set ?_ GE305.out) | exact HB.out)) hb); have n2_ := Aside0.mk (hbox); have n3_ := Aside0.mk ((by rw [hg]; exact (below_size (by repeat (first | (with_reducible first | exact HB.out | apply below_alloc | apply pw_below_drewN | apply below_drew1 | refine below_set ?_ GE305.out) | exact HB.out))) : w.heap.size ≤ gb314)); have n4_ := Aside0.mk ((by rw [hg]; exact (below_size (by repeat (first | (with_reducible first | exact HB.out | apply below_alloc | apply pw_below_drewN | apply below_drew1 | refine below_set ?_ GE305.out) | exact HB.out))) : w.heap.size ≤ gb314)); have n5_ := Aside0.mk ((by rw [hg]; exact Nat.ne_of_lt (blk_lt (g := gb305) (o := .cells #[.string x306000_1, .int .i64 x306001_1] 23 (0, 0)) (by (with_reducible repeat (first | refine blk_drewN ?_ _ | refine blk_drew ?_ | refine blk_alloc ?_ _)); exact BK305.out)) : gb305 ≠ gb314)); have n6_ := Aside0.mk ((by rw [hg]; exact Nat.ne_of_gt (blk_lt (g := gb305) (o := .cells #[.string x306000_1, .int .i64 x306001_1] 23 (0, 0)) (by (with_reducible repeat (first | refine blk_drewN ?_ _ | refine blk_drew ?_ | refine blk_alloc ?_ _)); exact BK305.out)) : gb314 ≠ gb305)); clear BK305; clear HB; have BK305 := n0_; have HB := n1_; have BK314 := n2_; have GW314 := n3_; have GE314 := n4_; have NB305_314 := n5_; have NB314_305 := n6_; clear n0_ n1_ n2_ n3_ n4_ n5_ n6_; clear hb hbox hg; have hnb23 := NB314_305.out; have hnc23 := NB305_314.out; have hcz24_0 : w22.cell? ⟨gb314, 0, none⟩ = some (.string (⟨#[]⟩ : ByteArray)) := (blk_cell BK314.out 0).trans rfl; have hcz24_1 : w22.cell? ⟨gb314, 1, none⟩ = some (.int .i64 0) := (blk_cell BK314.out 1).trans rfl; have hfz24_0 := blk_frozen BK314.out 0; have hfz24_1 := blk_frozen BK314.out 1; have hcz25_0 : w22.cell? ⟨gb305, 0, none⟩ = some (.string x306000_1) := (blk_cell BK305.out 0).trans rfl; have hcz25_1 : w22.cell? ⟨gb305, 1, none⟩ = some (.int .i64 x306001_1) := (blk_cell BK305.out 1).trans rfl; have hfz25_0 := blk_frozen BK305.out 0; have hfz25_1 := blk_frozen BK305.out 1; have p17 : 0 ≤ (x6_1 : Int) := of_decide_eq_true (by first | (with_reducible assumption) | assumption); have q17 : x6_1 < (x306000_1.size : Int) := of_decide_eq_true (by first | (with_reducible assumption) | assumption); have hx17 := bt_at x306000_1 x6_1; replace p17 := eq_true p17; replace q17 := eq_true q17))
                    go_roundg k1
                    case measure => have := HK1.out; omega
                    case rel => exact ⟨(wrap64 (x6_1 + 1)), (t311), (t312), (by first | rfl | (simp; done) | (simp [*]; done)), H', ⟨by have := HK1.out; omega⟩, ⟨by (with_reducible repeat (first | refine blk_drewN ?_ _ | refine blk_drew ?_ | refine blk_alloc ?_ _)); refine blk_put (cs := #[.string t311, .int .i64 x306001_1]) ?_ 1 _ rfl; (with_reducible repeat (first | refine blk_drewN ?_ _ | refine blk_drew ?_ | refine blk_alloc ?_ _)); refine blk_put (cs := #[.string x306000_1, .int .i64 x306001_1]) ?_ 0 _ rfl; (with_reducible repeat (first | refine blk_drewN ?_ _ | refine blk_drew ?_ | refine blk_alloc ?_ _)); refine blk_far ?_ NB305_314.out _; (with_reducible repeat (first | refine blk_drewN ?_ _ | refine blk_drew ?_ | refine blk_alloc ?_ _)); refine blk_far ?_ NB305_314.out _; (with_reducible repeat (first | refine blk_drewN ?_ _ | refine blk_drew ?_ | refine blk_alloc ?_ _)); exact BK305.out⟩, ⟨by repeat (first | (with_reducible first | exact HB.out | apply below_alloc | apply pw_below_drewN | apply below_drew1 | refine below_set ?_ GE305.out | refine below_set ?_ GE314.out) | exact HB.out)⟩⟩
                  · rw [if_neg c19] at H
                    have c19b0 : (t310 == (Int.tmod (wrap64 (bt x306000_1 x6_1)) (wrap64 (1 + (wrap64 (a1)))))) = false := beq_eq_false_iff_ne.mpr c19
                    have c19b1 : (t310 != (Int.tmod (wrap64 (bt x306000_1 x6_1)) (wrap64 (1 + (wrap64 (a1)))))) = true := bne_iff_ne.mpr c19
                    exact absurd ((Option.some.inj H).trans hrt.out) (by decide)
              · rw [if_neg c16] at H
                exact absurd H (by simp)
            · rw [if_neg c15] at H
              have c15b0 : (t312 == (wrap64 (x306001_1 + 1))) = false := beq_eq_false_iff_ne.mpr c15
              have c15b1 : (t312 != (wrap64 (x306001_1 + 1))) = true := bne_iff_ne.mpr c15
              exact absurd ((Option.some.inj H).trans hrt.out) (by decide)
          · rw [if_neg c14] at H
            have c14b0 : (t313 == 0) = false := beq_eq_false_iff_ne.mpr c14
            have c14b1 : (t313 != 0) = true := bne_iff_ne.mpr c14
            exact absurd ((Option.some.inj H).trans hrt.out) (by decide)
        · rw [if_neg c12] at H
          have c12b0 : decide (x6_1 < (x306000_1.size : Int)) = false := decide_eq_false c12
          clear c12
          replace H := Option.bind_eq_some_iff.mp H
          obtain ⟨⟨t315, t316, t317, t318⟩, A260, H⟩ := H
          replace H : (if t315 = 0 then (if (t316.toList == x306000_1.toList && (t317 == x306001_1)) = true then (if t318 = 0 then ((tattlelaw02_awakeT.f).bind fun t320 => (some t320)) else (some false)) else (some false)) else (some false)) = some r := H
          have A26 := Aside0.mk A260
          clear A260
          by_cases c27 : t315 = 0
          · rw [if_pos c27] at H
            have c27b0 : (t315 == 0) = true := beq_iff_eq.mpr c27
            have c27b1 : (t315 != 0) = false := bne_eq_false_iff_eq.mpr c27
            clear c27
            by_cases c28 : (t316.toList == x306000_1.toList && (t317 == x306001_1)) = true
            · rw [if_pos c28] at H
              have c28b0 : (t316.toList == x306000_1.toList && (t317 == x306001_1)) = true := c28
              (try (have c28b1 : decide (t316.toList = x306000_1.toList && (t317 == x306001_1)) = true := by simpa using c28))
              (try (have c28b2 : (t316.toList == x306000_1.toList && (t317 == x306001_1)) = true := by simpa using c28))
              clear c28
              by_cases c29 : t318 = 0
              · rw [if_pos c29] at H
                have c29b0 : (t318 == 0) = true := beq_iff_eq.mpr c29
                have c29b1 : (t318 != 0) = false := bne_eq_false_iff_eq.mpr c29
                clear c29
                replace H := Option.bind_eq_some_iff.mp H
                obtain ⟨t320, A300, H⟩ := H
                replace H : (some t320) = some r := H
                have A30 := Aside0.mk A300
                clear A300
                obtain rfl := Option.some.inj H
                have hcz31_0 : wr.cell? ⟨gb305, 0, none⟩ = some (.string x306000_1) := (blk_cell BK305.out 0).trans rfl
                have hcz31_1 : wr.cell? ⟨gb305, 1, none⟩ = some (.int .i64 x306001_1) := (blk_cell BK305.out 1).trans rfl
                have hfz31_0 := blk_frozen BK305.out 0
                have hfz31_1 := blk_frozen BK305.out 1
                go_wp2_with (first | ((with_reducible refine gate_callee (f := 16) rfl ?_); refine goesL_ (some 63) rfl rfl Try.func16 (by kernel_rfl) rfl #[.agg #[.string x306000_1, .int .i64 x306001_1], .int .i64 (wrap64 (1 + (wrap64 (a1))))] rfl (by (try simp only [List.map_toArray, List.map_cons, List.map_nil]); first | done | rfl | (simp only [List.length_drop, List.length_take]; rfl)) ?_; (with_reducible refine (dice_Below.calls x306000_1 x306001_1 (wrap64 (1 + (wrap64 (a1)))) t315 t316 t317 t318 _ A26.out).mono ?_); rintro e w32 ⟨rfl, hb⟩; refine ⟨_, rfl, ?_⟩; have n0_ := Aside0.mk (blk_below (g := gb305) (o := .cells #[.string x306000_1, .int .i64 x306001_1] 23 (0, 0)) (by (with_reducible repeat (first | refine blk_drewN ?_ _ | refine blk_drew ?_ | refine blk_alloc ?_ _)); exact BK305.out) hb); have n1_ := Aside0.mk (below_step (by repeat (first | (with_reducible first | exact HB.out | apply below_alloc | apply pw_below_drewN | apply below_drew1 | refine below_set ?_ GE305.out) | exact HB.out)) hb); clear BK305; clear HB; have BK305 := n0_; have HB := n1_; clear n0_ n1_; (try clear hb); (try clear hb2); (try clear hk); (try clear hi)) | ((with_reducible refine gate_dst (N := 11) rfl ?_); refine box_event ?hg (N := 11) ?hd (cs := #[.string (⟨#[]⟩ : ByteArray), .int .i64 0]) (t := 23) ?hr ?_; (case hd => rfl); (case hg => rfl); (case hr => first | (go_simp; done) | (go_simp; rfl)); intro gb319 hg w33 hbox hb; have n0_ := Aside0.mk (blk_below (g := gb305) (o := .cells #[.string x306000_1, .int .i64 x306001_1] 23 (0, 0)) (by (with_reducible repeat (first | refine blk_drewN ?_ _ | refine blk_drew ?_ | refine blk_alloc ?_ _)); exact BK305.out) hb); have n1_ := Aside0.mk (below_step (by repeat (first | (with_reducible first | exact HB.out | apply below_alloc | apply pw_below_drewN | apply below_drew1 | refine below_set ?_ GE305.out) | exact HB.out)) hb); have n2_ := Aside0.mk (hbox); have n3_ := Aside0.mk ((by rw [hg]; exact (below_size (by repeat (first | (with_reducible first | exact HB.out | apply below_alloc | apply pw_below_drewN | apply below_drew1 | refine below_set ?_ GE305.out) | exact HB.out))) : w.heap.size ≤ gb319)); have n4_ := Aside0.mk ((by rw [hg]; exact (below_size (by repeat (first | (with_reducible first | exact HB.out | apply below_alloc | apply pw_below_drewN | apply below_drew1 | refine below_set ?_ GE305.out) | exact HB.out))) : w.heap.size ≤ gb319)); have n5_ := Aside0.mk ((by rw [hg]; exact Nat.ne_of_lt (blk_lt (g := gb305) (o := .cells #[.string x306000_1, .int .i64 x306001_1] 23 (0, 0)) (by (with_reducible repeat (first | refine blk_drewN ?_ _ | refine blk_drew ?_ | refine blk_alloc ?_ _)); exact BK305.out)) : gb305 ≠ gb319)); have n6_ := Aside0.mk ((by rw [hg]; exact Nat.ne_of_gt (blk_lt (g := gb305) (o := .cells #[.string x306000_1, .int .i64 x306001_1] 23 (0, 0)) (by (with_reducible repeat (first | refine blk_drewN ?_ _ | refine blk_drew ?_ | refine blk_alloc ?_ _)); exact BK305.out)) : gb319 ≠ gb305)); clear BK305; clear HB; have BK305 := n0_; have HB := n1_; have BK319 := n2_; have GW319 := n3_; have GE319 := n4_; have NB305_319 := n5_; have NB319_305 := n6_; clear n0_ n1_ n2_ n3_ n4_ n5_ n6_; clear hb hbox hg; have hnb34 := NB319_305.out; have hnc34 := NB305_319.out; have hcz35_0 : w33.cell? ⟨gb319, 0, none⟩ = some (.string (⟨#[]⟩ : ByteArray)) := (blk_cell BK319.out 0).trans rfl; have hcz35_1 : w33.cell? ⟨gb319, 1, none⟩ = some (.int .i64 0) := (blk_cell BK319.out 1).trans rfl; have hfz35_0 := blk_frozen BK319.out 0; have hfz35_1 := blk_frozen BK319.out 1; have hcz36_0 : w33.cell? ⟨gb305, 0, none⟩ = some (.string x306000_1) := (blk_cell BK305.out 0).trans rfl; have hcz36_1 : w33.cell? ⟨gb305, 1, none⟩ = some (.int .i64 x306001_1) := (blk_cell BK305.out 1).trans rfl; have hfz36_0 := blk_frozen BK305.out 0; have hfz36_1 := blk_frozen BK305.out 1) | (go_at_call 25; (with_reducible refine (tattlelaw02_awakeT.calls  t320 _ A30.out).mono ?_); rintro e w37 ⟨rfl, hb⟩; have n0_ := Aside0.mk (blk_below (g := gb305) (o := .cells #[.string x306000_1, .int .i64 x306001_1] 23 (0, 0)) (by (with_reducible repeat (first | refine blk_drewN ?_ _ | refine blk_drew ?_ | refine blk_alloc ?_ _)); refine blk_far ?_ NB305_319.out _; (with_reducible repeat (first | refine blk_drewN ?_ _ | refine blk_drew ?_ | refine blk_alloc ?_ _)); refine blk_far ?_ NB305_319.out _; (with_reducible repeat (first | refine blk_drewN ?_ _ | refine blk_drew ?_ | refine blk_alloc ?_ _)); exact BK305.out) hb); have n1_ := Aside0.mk (blk_below (g := gb319) (o := .cells #[.string t316, .int .i64 t317] 23 (0, 0)) (by (with_reducible repeat (first | refine blk_drewN ?_ _ | refine blk_drew ?_ | refine blk_alloc ?_ _)); refine blk_put (cs := #[.string t316, .int .i64 0]) ?_ 1 _ rfl; (with_reducible repeat (first | refine blk_drewN ?_ _ | refine blk_drew ?_ | refine blk_alloc ?_ _)); refine blk_put (cs := #[.string (⟨#[]⟩ : ByteArray), .int .i64 0]) ?_ 0 _ rfl; (with_reducible repeat (first | refine blk_drewN ?_ _ | refine blk_drew ?_ | refine blk_alloc ?_ _)); exact BK319.out) hb); have n2_ := Aside0.mk (below_step (by repeat (first | (with_reducible first | exact HB.out | apply below_alloc | apply pw_below_drewN | apply below_drew1 | refine below_set ?_ GE305.out | refine below_set ?_ GE319.out) | exact HB.out)) hb); clear BK305; clear BK319; clear HB; have BK305 := n0_; have BK319 := n1_; have HB := n2_; clear n0_ n1_ n2_; (try clear hb); (try clear hb2); (try clear hk); (try clear hi)))
                go_ret
                exact ⟨by first | rfl | (simp [errW_none, errW_some] <;> rfl) | (simp [*, errW_none, errW_some] <;> rfl), by repeat (first | (with_reducible first | exact HB.out | apply below_alloc | apply pw_below_drewN | apply below_drew1 | refine below_set ?_ GE305.out | refine below_set ?_ GE319.out) | exact HB.out)⟩
              · rw [if_neg c29] at H
                have c29b0 : (t318 == 0) = false := beq_eq_false_iff_ne.mpr c29
                have c29b1 : (t318 != 0) = true := bne_iff_ne.mpr c29
                exact absurd ((Option.some.inj H).trans hrt.out) (by decide)
            · rw [if_neg c28] at H
              have c28b0 : (t316.toList == x306000_1.toList && (t317 == x306001_1)) = false := by simpa using c28
              (try (have c28b1 : decide (t316.toList = x306000_1.toList && (t317 == x306001_1)) = false := by simpa using c28))
              (try (have c28b2 : (t316.toList == x306000_1.toList && (t317 == x306001_1)) = false := by simpa using c28))
              (try (have c28b3 : ¬ (t316.toList = x306000_1.toList && (t317 == x306001_1)) := by simpa using c28))
              clear c28
              exact absurd ((Option.some.inj H).trans hrt.out) (by decide)
          · rw [if_neg c27] at H
            have c27b0 : (t315 == 0) = false := beq_eq_false_iff_ne.mpr c27
            have c27b1 : (t315 != 0) = true := bne_iff_ne.mpr c27
            exact absurd ((Option.some.inj H).trans hrt.out) (by decide)
  · replace c5 := Bool.eq_false_iff.mpr c5
    subst c5
    have H1 : ((tattlelaw02_awakeT.f).bind fun t309 => (some t309)) = some r := by rw [if_neg (show ¬ (false = true) by decide)] at H; exact H
    clear H
    have H := H1
    clear H1
    replace H := Option.bind_eq_some_iff.mp H
    obtain ⟨t309, A380, H⟩ := H
    replace H : (some t309) = some r := H
    have A38 := Aside0.mk A380
    clear A380
    obtain rfl := Option.some.inj H
    go_enter Try.func6, Try.ntmps6
    go_wp2_with (first | ((with_reducible refine gate_dst (N := 2) rfl ?_); refine box_event ?hg (N := 2) ?hd (cs := #[.string a0_0, .int .i64 a0_1]) (t := 23) ?hr ?_; (case hd => rfl); (case hg => rfl); (case hr => first | (go_simp; done) | (go_simp; rfl)); intro gb305 hg w39 hbox hb; have n0_ := Aside0.mk (below_step (by repeat (first | (with_reducible first | exact HB.out | apply below_alloc | apply pw_below_drewN | apply below_drew1) | exact HB.out)) hb); have n1_ := Aside0.mk (hbox); have n2_ := Aside0.mk ((by rw [hg]; exact (below_size (by repeat (first | (with_reducible first | exact HB.out | apply below_alloc | apply pw_below_drewN | apply below_drew1) | exact HB.out))) : w.heap.size ≤ gb305)); have n3_ := Aside0.mk ((by rw [hg]; exact (below_size (by repeat (first | (with_reducible first | exact HB.out | apply below_alloc | apply pw_below_drewN | apply below_drew1) | exact HB.out))) : w.heap.size ≤ gb305)); clear HB; have HB := n0_; have BK305 := n1_; have GW305 := n2_; have GE305 := n3_; clear n0_ n1_ n2_ n3_; clear hb hbox hg; have hcz40_0 : w39.cell? ⟨gb305, 0, none⟩ = some (.string a0_0) := (blk_cell BK305.out 0).trans rfl; have hcz40_1 : w39.cell? ⟨gb305, 1, none⟩ = some (.int .i64 a0_1) := (blk_cell BK305.out 1).trans rfl; have hfz40_0 := blk_frozen BK305.out 0; have hfz40_1 := blk_frozen BK305.out 1) | ((with_reducible refine gate_callee (f := 14) rfl ?_); refine goesL_ (some 14) rfl rfl Try.func14 (by kernel_rfl) rfl #[.agg #[.string a0_0, .int .i64 a0_1]] rfl (by (try simp only [List.map_toArray, List.map_cons, List.map_nil]); first | done | rfl | (simp only [List.length_drop, List.length_take]; rfl)) ?_; (with_reducible refine (tattlelaw02_Few.calls a0_0 a0_1 t306 t307 _ A3.out).mono ?_); rintro e w41 ⟨rfl, hb⟩; refine ⟨_, rfl, ?_⟩; have n0_ := Aside0.mk (blk_below (g := gb305) (o := .cells #[.string a0_0, .int .i64 a0_1] 23 (0, 0)) (by (with_reducible repeat (first | refine blk_drewN ?_ _ | refine blk_drew ?_ | refine blk_alloc ?_ _)); exact BK305.out) hb); have n1_ := Aside0.mk (below_step (by repeat (first | (with_reducible first | exact HB.out | apply below_alloc | apply pw_below_drewN | apply below_drew1 | refine below_set ?_ GE305.out) | exact HB.out)) hb); clear BK305; clear HB; have BK305 := n0_; have HB := n1_; clear n0_ n1_; (try clear hb); (try clear hb2); (try clear hk); (try clear hi); have hcz42_0 : w41.cell? ⟨gb305, 0, none⟩ = some (.string a0_0) := (blk_cell BK305.out 0).trans rfl; have hcz42_1 : w41.cell? ⟨gb305, 1, none⟩ = some (.int .i64 a0_1) := (blk_cell BK305.out 1).trans rfl; have hfz42_0 := blk_frozen BK305.out 0; have hfz42_1 := blk_frozen BK305.out 1) | ((with_reducible refine gate_callee (f := 19) rfl ?_); refine goesL_ (some 16) rfl rfl Try.func19 (by kernel_rfl) rfl #[.agg #[.string t306, .int .i64 t307]] rfl (by (try simp only [List.map_toArray, List.map_cons, List.map_nil]); first | done | rfl | (simp only [List.length_drop, List.length_take]; rfl)) ?_; (with_reducible refine (tattleref02_May.calls t306 t307 false _ A4.out).mono ?_); rintro e w43 ⟨rfl, hb⟩; refine ⟨_, rfl, ?_⟩; have n0_ := Aside0.mk (blk_below (g := gb305) (o := .cells #[.string t306, .int .i64 t307] 23 (0, 0)) (by (with_reducible repeat (first | refine blk_drewN ?_ _ | refine blk_drew ?_ | refine blk_alloc ?_ _)); refine blk_put (cs := #[.string t306, .int .i64 a0_1]) ?_ 1 _ rfl; (with_reducible repeat (first | refine blk_drewN ?_ _ | refine blk_drew ?_ | refine blk_alloc ?_ _)); refine blk_put (cs := #[.string a0_0, .int .i64 a0_1]) ?_ 0 _ rfl; (with_reducible repeat (first | refine blk_drewN ?_ _ | refine blk_drew ?_ | refine blk_alloc ?_ _)); exact BK305.out) hb); have n1_ := Aside0.mk (below_step (by repeat (first | (with_reducible first | exact HB.out | apply below_alloc | apply pw_below_drewN | apply below_drew1 | refine below_set ?_ GE305.out) | exact HB.out)) hb); clear BK305; clear HB; have BK305 := n0_; have HB := n1_; clear n0_ n1_; (try clear hb); (try clear hb2); (try clear hk); (try clear hi)) | ((with_reducible refine gate_callee (f := 25) rfl ?_); refine goesL_ (some 18) rfl rfl Try.func25 (by kernel_rfl) rfl #[] rfl (by (try simp only [List.map_toArray, List.map_cons, List.map_nil]); first | done | rfl | (simp only [List.length_drop, List.length_take]; rfl)) ?_; (with_reducible refine (tattlelaw02_awakeT.calls  t309 _ A38.out).mono ?_); rintro e w44 ⟨rfl, hb⟩; refine ⟨_, rfl, ?_⟩; have n0_ := Aside0.mk (blk_below (g := gb305) (o := .cells #[.string t306, .int .i64 t307] 23 (0, 0)) (by (with_reducible repeat (first | refine blk_drewN ?_ _ | refine blk_drew ?_ | refine blk_alloc ?_ _)); exact BK305.out) hb); have n1_ := Aside0.mk (below_step (by repeat (first | (with_reducible first | exact HB.out | apply below_alloc | apply pw_below_drewN | apply below_drew1 | refine below_set ?_ GE305.out) | exact HB.out)) hb); clear BK305; clear HB; have BK305 := n0_; have HB := n1_; clear n0_ n1_; (try clear hb); (try clear hb2); (try clear hk); (try clear hi)))
    go_ret
    exact ⟨by first | rfl | (simp [errW_none, errW_some] <;> rfl) | (simp [*, errW_none, errW_some] <;> rfl), by repeat (first | (with_reducible first | exact HB.out | apply below_alloc | apply pw_below_drewN | apply below_drew1 | refine below_set ?_ GE305.out) | exact HB.out)⟩

end Go.Proofs.Ytlanodnbdgiihaa.Fn
