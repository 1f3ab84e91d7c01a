-- Written by program (a turned copy of the kit's print) for this seat: functions, contracts. Lean checks it.
import Derived.Test.YtlanodnbdgiihaaFnx0
import Derived.Test.YtlanodnbdgiihaaFnx1
import Derived.Test.YtlanodnbdgiihaaFnx2
import Derived.Test.YtlanodnbdgiihaaFnx13
import Derived.Test.YtlanodnbdgiihaaFnx14
import Derived.Test.YtlanodnbdgiihaaAw30
import Derived.Test.YtlanodnbdgiihaaExShuffle
namespace Go.Proofs.Ytlanodnbdgiihaa.Fn
open Go.RowKit Go.Proofs.YtlanodnbdgiihaaW.PrintWords Go.Proofs.YtlanodnbdgiihaaW.PrintLast Go.Proofs.YtlanodnbdgiihaaW.PrintMore
attribute [local go_sem] max2_int min2_int max_two min_two max_three min_three max_four min_four   -- for this text's walks alone
set_option linter.unusedVariables false
set_option linter.unusedSimpArgs false

attribute [local go_sem high] eqA23
/-! ### tattlelaw08_TurnShuffles: function 12 -/
mutual
def tattlelaw08_TurnShuffles.j0 : Nat → List Int → Bool → ByteArray → Int → Option (Bool)
  | 0, _, _, _, _ => none
  | k + 1, x1, x31, x600000, x600001 => if x31 = true then ((tattlelaw08_awakeT.f).bind fun t607 => (some t607)) else ((dice_Shuffle.f x600000 x600001 x1).bind fun bt608 => (if bt608.2.2.2 = 0 then (tattlelaw08_TurnShuffles.j1 k x1 bt608.1 ((bt608.1.length : Int) != (x1.length : Int)) x600000 x600001 bt608.2.1 bt608.2.2.1) else (tattlelaw08_TurnShuffles.j1 k x1 bt608.1 true x600000 x600001 bt608.2.1 bt608.2.2.1)))
def tattlelaw08_TurnShuffles.j1 : Nat → List Int → List Int → Bool → ByteArray → Int → ByteArray → Int → Option (Bool)
  | 0, _, _, _, _, _, _, _ => none
  | k + 1, x1, x5, x48, x600000, x600001, x615000, x615001 => if x48 = true then (some false) else (tattlelaw08_TurnShuffles.l0 k x1 x5 0 x615000 x615001 ([] : List Int) 0 x600000 x600001)
def tattlelaw08_TurnShuffles.l0 : Nat → List Int → List Int → Int → ByteArray → Int → List Int → Int → ByteArray → Int → Option (Bool)
  | 0, _, _, _, _, _, _, _, _, _ => none
  | k + 1, x1, x5, x10, x615000, x615001, x616000, x616001, x617000, x617001 => if x10 < (x1.length : Int) then ((turn_Next.f k x616000 x616001 x617000 x617001 x1).bind fun bt617 => (if bt617.2.2.2.2.2 = 0 then (if 0 ≤ x10 then (if x10 < (x5.length : Int) then (if bt617.1 = (rd x5 x10) then (if (!(bt617.2.2.2.1.toList == x615000.toList) || (!(bt617.2.2.2.2.1 == x615001))) = true then (some false) else (tattlelaw08_TurnShuffles.l0 k x1 x5 (wrap64 (x10 + 1)) x615000 x615001 bt617.2.1 bt617.2.2.1 bt617.2.2.2.1 bt617.2.2.2.2.1)) else (some false)) else (none)) else (none)) else (some false))) else ((tattlelaw08_awakeT.f).bind fun t628 => (some t628))
end
def tattlelaw08_TurnShuffles.f (k : Nat) (a0_0 : ByteArray) (a0_1 : Int) (l1 : List Int) : Option (Bool) := (tattlelaw02_Few.f a0_0 a0_1).bind fun bt600 => ((tattlelaw08_Few.f l1).bind fun t602 => (if (t602.length : Int) > 12 then (tattlelaw08_TurnShuffles.j0 k t602 true bt600.1 bt600.2) else ((turn_Nodes.f k t602).bind fun t605 => (if t605 = 0 then ((tattleref02_May.f bt600.1 bt600.2).bind fun t606 => (tattlelaw08_TurnShuffles.j0 k t602 (!t606) bt600.1 bt600.2)) else (tattlelaw08_TurnShuffles.j0 k t602 true bt600.1 bt600.2)))))
theorem tattlelaw08_TurnShuffles.mono_l : ∀ k, (∀ y0 y1 y2 y3, LeO (tattlelaw08_TurnShuffles.j0 k y0 y1 y2 y3) (tattlelaw08_TurnShuffles.j0 (k + 1) y0 y1 y2 y3)) ∧ (∀ y0 y1 y2 y3 y4 y5 y6, LeO (tattlelaw08_TurnShuffles.j1 k y0 y1 y2 y3 y4 y5 y6) (tattlelaw08_TurnShuffles.j1 (k + 1) y0 y1 y2 y3 y4 y5 y6)) ∧ (∀ y0 y1 y2 y3 y4 y5 y6 y7 y8, LeO (tattlelaw08_TurnShuffles.l0 k y0 y1 y2 y3 y4 y5 y6 y7 y8) (tattlelaw08_TurnShuffles.l0 (k + 1) y0 y1 y2 y3 y4 y5 y6 y7 y8))
  | 0 => ⟨fun _ _ _ _ r h => by simp [tattlelaw08_TurnShuffles.j0] at h, fun _ _ _ _ _ _ _ r h => by simp [tattlelaw08_TurnShuffles.j1] at h, fun _ _ _ _ _ _ _ _ _ r h => by simp [tattlelaw08_TurnShuffles.l0] at h⟩
  | k + 1 => by
    obtain ⟨ih0, ih1, ih2⟩ := tattlelaw08_TurnShuffles.mono_l k
    refine ⟨?_, ?_, ?_⟩
    · intro y0 y1 y2 y3
      unfold tattlelaw08_TurnShuffles.j0
      repeat' first
      | (with_reducible exact ih0 _ _ _ _)
      | (with_reducible exact ih1 _ _ _ _ _ _ _)
      | (with_reducible exact ih2 _ _ _ _ _ _ _ _ _)
      | (with_reducible exact turn_Next.mono _ _ _ _ _ _)
      | (with_reducible exact turn_Nodes.mono _ _)
      | (with_reducible exact LeO.refl _)
      | (with_reducible exact LeO.none _)
      | (with_reducible refine LeO.ite ?_ ?_)
      | (with_reducible refine LeO.bind ?_ (fun _ => ?_))
      | exact ih0 _ _ _ _
      | exact ih1 _ _ _ _ _ _ _
      | exact ih2 _ _ _ _ _ _ _ _ _
      | exact turn_Next.mono _ _ _ _ _ _
      | exact turn_Nodes.mono _ _
      | exact LeO.none _
      | refine LeO.ite ?_ ?_
      | refine LeO.bind ?_ (fun _ => ?_)
    · intro y0 y1 y2 y3 y4 y5 y6
      unfold tattlelaw08_TurnShuffles.j1
      repeat' first
      | (with_reducible exact ih0 _ _ _ _)
      | (with_reducible exact ih1 _ _ _ _ _ _ _)
      | (with_reducible exact ih2 _ _ _ _ _ _ _ _ _)
      | (with_reducible exact turn_Next.mono _ _ _ _ _ _)
      | (with_reducible exact turn_Nodes.mono _ _)
      | (with_reducible exact LeO.refl _)
      | (with_reducible exact LeO.none _)
      | (with_reducible refine LeO.ite ?_ ?_)
      | (with_reducible refine LeO.bind ?_ (fun _ => ?_))
      | exact ih0 _ _ _ _
      | exact ih1 _ _ _ _ _ _ _
      | exact ih2 _ _ _ _ _ _ _ _ _
      | exact turn_Next.mono _ _ _ _ _ _
      | exact turn_Nodes.mono _ _
      | exact LeO.none _
      | refine LeO.ite ?_ ?_
      | refine LeO.bind ?_ (fun _ => ?_)
    · intro y0 y1 y2 y3 y4 y5 y6 y7 y8
      unfold tattlelaw08_TurnShuffles.l0
      repeat' first
      | (with_reducible exact ih0 _ _ _ _)
      | (with_reducible exact ih1 _ _ _ _ _ _ _)
      | (with_reducible exact ih2 _ _ _ _ _ _ _ _ _)
      | (with_reducible exact turn_Next.mono _ _ _ _ _ _)
      | (with_reducible exact turn_Nodes.mono _ _)
      | (with_reducible exact LeO.refl _)
      | (with_reducible exact LeO.none _)
      | (with_reducible refine LeO.ite ?_ ?_)
      | (with_reducible refine LeO.bind ?_ (fun _ => ?_))
      | exact ih0 _ _ _ _
      | exact ih1 _ _ _ _ _ _ _
      | exact ih2 _ _ _ _ _ _ _ _ _
      | exact turn_Next.mono _ _ _ _ _ _
      | exact turn_Nodes.mono _ _
      | exact LeO.none _
      | refine LeO.ite ?_ ?_
      | refine LeO.bind ?_ (fun _ => ?_)
theorem tattlelaw08_TurnShuffles.mono : ∀ a0 a1 a2 k, LeO (tattlelaw08_TurnShuffles.f k a0 a1 a2) (tattlelaw08_TurnShuffles.f (k + 1) a0 a1 a2) := by
  intro a0 a1 a2 k
  obtain ⟨ih0, ih1, ih2⟩ := tattlelaw08_TurnShuffles.mono_l k
  unfold tattlelaw08_TurnShuffles.f
  repeat' first
      | (with_reducible exact ih0 _ _ _ _)
      | (with_reducible exact ih1 _ _ _ _ _ _ _)
      | (with_reducible exact ih2 _ _ _ _ _ _ _ _ _)
      | (with_reducible exact turn_Next.mono _ _ _ _ _ _)
      | (with_reducible exact turn_Nodes.mono _ _)
      | (with_reducible exact LeO.refl _)
      | (with_reducible exact LeO.none _)
      | (with_reducible refine LeO.ite ?_ ?_)
      | (with_reducible refine LeO.bind ?_ (fun _ => ?_))
      | exact ih0 _ _ _ _
      | exact ih1 _ _ _ _ _ _ _
      | exact ih2 _ _ _ _ _ _ _ _ _
      | exact turn_Next.mono _ _ _ _ _ _
      | exact turn_Nodes.mono _ _
      | exact LeO.none _
      | refine LeO.ite ?_ ?_
      | refine LeO.bind ?_ (fun _ => ?_)
set_option maxHeartbeats 8000000 in
set_option maxRecDepth 100000 in
theorem tattlelaw08_TurnShuffles.calls (k : Nat) (a0_0 : ByteArray) (a0_1 : Int) (A1 : Option Addr) (c1 : Nat) (l1 : List Int) (r : Bool) (w : World) (hr1 : Kd.C (Kd.int .i64) w A1 l1.length l1) (hc1 : l1.length ≤ c1) (hrt : Aside0 (r = true)) (h : tattlelaw08_TurnShuffles.f k a0_0 a0_1 l1 = some r) :
    Calls Try.prog 12 #[.agg #[.string a0_0, .int .i64 a0_1], .slice A1 l1.length c1] w fun e w' => e = .returned (.bool r) ∧ Below w.heap.size w w' := by
  have hu23 := Try.underlying23
  have hu49 := Try.underlying49
  have HR1 := Aside0.mk hr1
  have HC1 := Aside0.mk hc1
  clear hr1 hc1
  have HB := Aside0.mk (Below.refl w.heap.size w)
  have H : ((tattlelaw02_Few.f a0_0 a0_1).bind fun bt600 => ((tattlelaw08_Few.f l1).bind fun t602 => (if (t602.length : Int) > 12 then (tattlelaw08_TurnShuffles.j0 k t602 true bt600.1 bt600.2) else ((turn_Nodes.f k t602).bind fun t605 => (if t605 = 0 then ((tattleref02_May.f bt600.1 bt600.2).bind fun t606 => (tattlelaw08_TurnShuffles.j0 k t602 (!t606) bt600.1 bt600.2)) else (tattlelaw08_TurnShuffles.j0 k t602 true bt600.1 bt600.2)))))) = some r := h
  clear h
  replace H := Option.bind_eq_some_iff.mp H
  obtain ⟨⟨t600, t601⟩, A30, H⟩ := H
  replace H : ((tattlelaw08_Few.f l1).bind fun t602 => (if (t602.length : Int) > 12 then (tattlelaw08_TurnShuffles.j0 k t602 true t600 t601) else ((turn_Nodes.f k t602).bind fun t605 => (if t605 = 0 then ((tattleref02_May.f t600 t601).bind fun t606 => (tattlelaw08_TurnShuffles.j0 k t602 (!t606) t600 t601)) else (tattlelaw08_TurnShuffles.j0 k t602 true t600 t601))))) = some r := H
  have A3 := Aside0.mk A30
  clear A30
  replace H := Option.bind_eq_some_iff.mp H
  obtain ⟨t602, A40, H⟩ := H
  replace H : (if (t602.length : Int) > 12 then (tattlelaw08_TurnShuffles.j0 k t602 true t600 t601) else ((turn_Nodes.f k t602).bind fun t605 => (if t605 = 0 then ((tattleref02_May.f t600 t601).bind fun t606 => (tattlelaw08_TurnShuffles.j0 k t602 (!t606) t600 t601)) else (tattlelaw08_TurnShuffles.j0 k t602 true t600 t601)))) = some r := H
  have A4 := Aside0.mk A40
  clear A40
  have HC5 := Aside0.mk H
  clear H
  go_enter Try.func12, Try.ntmps12
  go_upto_region 2 with (first | ((with_reducible refine gate_dst (N := 2) rfl ?_); (try (refine gate_guard (by rfl) ?_; dsimp only)); refine box_event ?hg (N := 2) ?hd (cs := #[.string a0_0, .int .i64 a0_1]) (t := 23) ?hr ?_; (case hd => rfl); (case hg => rfl); (case hr => first | (go_simp; done) | (go_simp; rfl)); intro gb599 hg w6 hbox hb; have n0_ := Aside0.mk (below_step (by repeat (first | (with_reducible first | exact HB.out | apply below_alloc | apply pw_below_drewN | apply below_drew1) | exact HB.out)) hb); have n1_ := Aside0.mk (hbox); have n2_ := Aside0.mk ((by rw [hg]; exact (below_size (by repeat (first | (with_reducible first | exact HB.out | apply below_alloc | apply pw_below_drewN | apply below_drew1) | exact HB.out))) : w.heap.size ≤ gb599)); have n3_ := Aside0.mk ((by rw [hg]; exact (below_size (by repeat (first | (with_reducible first | exact HB.out | apply below_alloc | apply pw_below_drewN | apply below_drew1) | exact HB.out))) : w.heap.size ≤ gb599)); clear HB; have HB := n0_; have BK599 := n1_; have GW599 := n2_; have GE599 := n3_; clear n0_ n1_ n2_ n3_; clear hb hbox hg; have hcz7_0 : w6.cell? ⟨gb599, 0, none⟩ = some (.string a0_0) := (blk_cell BK599.out 0).trans rfl; have hcz7_1 : w6.cell? ⟨gb599, 1, none⟩ = some (.int .i64 a0_1) := (blk_cell BK599.out 1).trans rfl; have hfz7_0 := blk_frozen BK599.out 0; have hfz7_1 := blk_frozen BK599.out 1) | ((with_reducible refine gate_callee (f := 14) rfl ?_); refine goesL_ (some 16) rfl rfl Try.func14 (by kernel_rfl) rfl #[.agg #[.string a0_0, .int .i64 a0_1]] rfl (by (try simp only [List.map_toArray, List.map_cons, List.map_nil]); first | done | rfl | (simp only [List.length_drop, List.length_take]; rfl)) ?_; (with_reducible refine (tattlelaw02_Few.calls a0_0 a0_1 t600 t601 _ A3.out).mono ?_); rintro e w8 ⟨rfl, hb⟩; refine ⟨_, rfl, ?_⟩; have n0_ := Aside0.mk (blk_below (g := gb599) (o := .cells #[.string a0_0, .int .i64 a0_1] 23 (0, 0)) (by (with_reducible repeat (first | refine blk_drewN ?_ _ | refine blk_drew ?_ | refine blk_alloc ?_ _)); exact BK599.out) hb); have n1_ := Aside0.mk (below_step (by repeat (first | (with_reducible first | exact HB.out | apply below_alloc | apply pw_below_drewN | apply below_drew1 | refine below_set ?_ GE599.out) | exact HB.out)) hb); clear BK599; clear HB; have BK599 := n0_; have HB := n1_; clear n0_ n1_; (try clear hb); (try clear hb2); (try clear hk); (try clear hi)) | ((with_reducible refine gate_callee (f := 27) rfl ?_); refine goesL_ (some 18) rfl rfl Try.func27 (by kernel_rfl) rfl #[.slice A1 l1.length c1] rfl (by (try simp only [List.map_toArray, List.map_cons, List.map_nil]); first | done | rfl | (simp only [List.length_drop, List.length_take]; rfl)) ?_; (with_reducible refine (tattlelaw08_Few.calls (fun k_ => k_ < w.heap.size) _ _ l1 t602 _ ?side1 A4.out).mono ?_); (case side1 => exact Kd.V_mk HC1.out (Kd.F_below (Kd.C_F (Kd.heap_int .i64) HR1.out) (by repeat (first | (with_reducible first | exact HB.out | apply below_alloc | apply pw_below_drewN | apply below_drew1 | refine below_set ?_ GE599.out) | exact HB.out)))); rintro e w9 ⟨v603, rfl, ho0, hb⟩; refine ⟨_, rfl, ?_⟩; have n0_ := Aside0.mk (Kd.V_lower (Kd.V_mono (ok' := fun k_ => k_ ≠ gb599) ho0 (fun k_ hk_ => Or.elim hk_ (fun hs_ => fun e_ => Nat.not_le.2 hs_ (by rw [e_]; exact GW599.out)) (fun hn_ => (Kd.freshB (g := gb599) (o := .cells #[.string a0_0, .int .i64 a0_1] 23 (0, 0)) (by (with_reducible repeat (first | refine blk_drewN ?_ _ | refine blk_drew ?_ | refine blk_alloc ?_ _)); exact BK599.out) k_ hn_)))) (below_size (by repeat (first | (with_reducible first | exact HB.out | apply below_alloc | apply pw_below_drewN | apply below_drew1 | refine below_set ?_ GE599.out) | exact HB.out)))); have n1_ := Aside0.mk (blk_below (g := gb599) (o := .cells #[.string a0_0, .int .i64 a0_1] 23 (0, 0)) (by (with_reducible repeat (first | refine blk_drewN ?_ _ | refine blk_drew ?_ | refine blk_alloc ?_ _)); exact BK599.out) hb); have n2_ := Aside0.mk (below_step (by repeat (first | (with_reducible first | exact HB.out | apply below_alloc | apply pw_below_drewN | apply below_drew1 | refine below_set ?_ GE599.out) | exact HB.out)) hb); clear BK599; clear HB; have HO604 := n0_; have BK599 := n1_; have HB := n2_; clear n0_ n1_ n2_; (try clear hb); (try clear hb2); (try clear hk); (try clear hi); (try clear ho0); have hcz10_0 : w9.cell? ⟨gb599, 0, none⟩ = some (.string a0_0) := (blk_cell BK599.out 0).trans rfl; have hcz10_1 : w9.cell? ⟨gb599, 1, none⟩ = some (.int .i64 a0_1) := (blk_cell BK599.out 1).trans rfl; have hfz10_0 := blk_frozen BK599.out 0; have hfz10_1 := blk_frozen BK599.out 1))
  (try simp only [Act.put, List.setIfInBounds_toArray, List.set_cons_zero, List.set_cons_succ])
  go_cut [31] (fun v31 wc => ∃ (kq : Nat) (x31_4 : Bool), v31 = .bool x31_4 ∧ Aside0 (tattlelaw08_TurnShuffles.j0 kq t602 x31_4 t600 t601 = some r) ∧ Aside0 (kq ≤ k) ∧ Aside0 (Kd.V (Kd.int .i64) 3 wc w.heap.size (fun k_ => k_ ≠ gb599) v603 t602) ∧ Aside0 (wc.heap[gb599]? = some (.cells #[.string t600, .int .i64 t601] 23 (0, 0))) ∧ Aside0 (Below w.heap.size w wc))
  case first =>
    have H := HC5.out
    clear HC5
    by_cases c11 : (t602.length : Int) > 12
    · rw [if_pos c11] at H
      have c11b0 : decide (12 < (t602.length : Int)) = true := decide_eq_true c11
      have c11b1 : decide (12 < t602.length) = true := decide_eq_true (by omega)
      clear c11
      (first | rw [c11b0] | (simp only [i64_w, i32_w]; rw [c11b0]) | skip)
      have H' := Aside0.mk H
      clear H
      obtain ⟨Ao12, co12, eo12⟩ := Kd.V_slice HO604.out
      subst eo12
      go_wp2
      go_meet
      case rel => exact ⟨_, (true), (by first | rfl | (simp; done) | (simp [*]; done)), H', ⟨by first | omega | exact Nat.le_refl _⟩, ⟨by (with_reducible repeat (first | apply Kd.V_alloc | apply Kd.V_drewN | apply Kd.V_drew)); exact Kd.V_mono (Kd.V_far (p := ⟨gb599, 1, none⟩) (Kd.V_far (p := ⟨gb599, 0, none⟩) (Kd.V_mono HO604.out (fun k_ hk => (⟨hk, hk⟩ : _ ∧ k_ ≠ gb599))) (fun _ hk => hk.2) (.string t600)) (fun _ hk => hk.2) (.int .i64 t601)) (fun _ hk => hk.1)⟩, ⟨by (with_reducible repeat (first | refine blk_drewN ?_ _ | refine blk_drew ?_ | refine blk_alloc ?_ _)); refine blk_put (cs := #[.string t600, .int .i64 a0_1]) ?_ 1 _ rfl; (with_reducible repeat (first | refine blk_drewN ?_ _ | refine blk_drew ?_ | refine blk_alloc ?_ _)); refine blk_put (cs := #[.string a0_0, .int .i64 a0_1]) ?_ 0 _ rfl; (with_reducible repeat (first | refine blk_drewN ?_ _ | refine blk_drew ?_ | refine blk_alloc ?_ _)); exact BK599.out⟩, ⟨by repeat (first | (with_reducible first | exact HB.out | apply below_alloc | apply pw_below_drewN | apply below_drew1 | refine below_set ?_ GE599.out) | exact HB.out)⟩⟩
    · rw [if_neg c11] at H
      have c11b0 : decide (12 < (t602.length : Int)) = false := decide_eq_false c11
      have c11b1 : decide (12 < t602.length) = false := decide_eq_false (by omega)
      clear c11
      (first | rw [c11b0] | (simp only [i64_w, i32_w]; rw [c11b0]) | skip)
      replace H := Option.bind_eq_some_iff.mp H
      obtain ⟨t605, A130, H⟩ := H
      replace H : (if t605 = 0 then ((tattleref02_May.f t600 t601).bind fun t606 => (tattlelaw08_TurnShuffles.j0 k t602 (!t606) t600 t601)) else (tattlelaw08_TurnShuffles.j0 k t602 true t600 t601)) = some r := H
      have A13 := Aside0.mk A130
      clear A130
      by_cases c14 : t605 = 0
      · rw [if_pos c14] at H
        have c14b0 : (t605 == 0) = true := beq_iff_eq.mpr c14
        have c14b1 : (t605 != 0) = false := bne_eq_false_iff_eq.mpr c14
        clear c14
        replace H := Option.bind_eq_some_iff.mp H
        obtain ⟨t606, A150, H⟩ := H
        replace H : (tattlelaw08_TurnShuffles.j0 k t602 (!t606) t600 t601) = some r := H
        have A15 := Aside0.mk A150
        clear A150
        have H' := Aside0.mk H
        clear H
        obtain ⟨Ao16, co16, eo16⟩ := Kd.V_slice HO604.out
        subst eo16
        go_wp2_with (first | (go_at_call 28; (with_reducible refine (turn_Nodes.calls k _ _ t602 t605 _ ?side1 ?side2 A13.out).mono ?_); (case side1 => refine (Kd.V_reads' (e := 3) (base := w.heap.size) (ok := fun k_ => k_ ≠ gb599) (n := t602.length) (c := co16) ?_).2.2; exact (by (with_reducible repeat (first | apply Kd.V_alloc | apply Kd.V_drewN | apply Kd.V_drew)); exact (Kd.V_mono (Kd.V_far (p := ⟨gb599, 1, none⟩) (Kd.V_far (p := ⟨gb599, 0, none⟩) (Kd.V_mono HO604.out (fun k_ hk => (⟨hk, hk⟩ : _ ∧ k_ ≠ gb599))) (fun _ hk => hk.2) (.string t600)) (fun _ hk => hk.2) (.int .i64 t601)) (fun _ h_ => h_.1)))); (case side2 => exact (Kd.V_reads' HO604.out).2.1); rintro e w17 ⟨rfl, hb⟩; have n0_ := Aside0.mk (Kd.V_below (by (with_reducible repeat (first | apply Kd.V_alloc | apply Kd.V_drewN | apply Kd.V_drew)); exact (Kd.V_mono (Kd.V_far (p := ⟨gb599, 1, none⟩) (Kd.V_far (p := ⟨gb599, 0, none⟩) (Kd.V_mono HO604.out (fun k_ hk => (⟨hk, hk⟩ : _ ∧ k_ ≠ gb599))) (fun _ hk => hk.2) (.string t600)) (fun _ hk => hk.2) (.int .i64 t601)) (fun _ h_ => h_.1))) hb); have n1_ := Aside0.mk (blk_below (g := gb599) (o := .cells #[.string t600, .int .i64 t601] 23 (0, 0)) (by (with_reducible repeat (first | refine blk_drewN ?_ _ | refine blk_drew ?_ | refine blk_alloc ?_ _)); refine blk_put (cs := #[.string t600, .int .i64 a0_1]) ?_ 1 _ rfl; (with_reducible repeat (first | refine blk_drewN ?_ _ | refine blk_drew ?_ | refine blk_alloc ?_ _)); refine blk_put (cs := #[.string a0_0, .int .i64 a0_1]) ?_ 0 _ rfl; (with_reducible repeat (first | refine blk_drewN ?_ _ | refine blk_drew ?_ | refine blk_alloc ?_ _)); exact BK599.out) hb); have n2_ := Aside0.mk (below_step (by repeat (first | (with_reducible first | exact HB.out | apply below_alloc | apply pw_below_drewN | apply below_drew1 | refine below_set ?_ GE599.out) | exact HB.out)) hb); clear HO604; clear BK599; clear HB; have HO604 := n0_; have BK599 := n1_; have HB := n2_; clear n0_ n1_ n2_; (try clear hb); (try clear hb2); (try clear hk); (try clear hi); have hcz18_0 : w17.cell? ⟨gb599, 0, none⟩ = some (.string t600) := (blk_cell BK599.out 0).trans rfl; have hcz18_1 : w17.cell? ⟨gb599, 1, none⟩ = some (.int .i64 t601) := (blk_cell BK599.out 1).trans rfl; have hfz18_0 := blk_frozen BK599.out 0; have hfz18_1 := blk_frozen BK599.out 1) | (go_at_call 19; (with_reducible refine (tattleref02_May.calls t600 t601 t606 _ A15.out).mono ?_); rintro e w19 ⟨rfl, hb⟩; have n0_ := Aside0.mk (Kd.V_below (by (with_reducible repeat (first | apply Kd.V_alloc | apply Kd.V_drewN | apply Kd.V_drew)); exact HO604.out) hb); have n1_ := Aside0.mk (blk_below (g := gb599) (o := .cells #[.string t600, .int .i64 t601] 23 (0, 0)) (by (with_reducible repeat (first | refine blk_drewN ?_ _ | refine blk_drew ?_ | refine blk_alloc ?_ _)); exact BK599.out) hb); have n2_ := Aside0.mk (below_step (by repeat (first | (with_reducible first | exact HB.out | apply below_alloc | apply pw_below_drewN | apply below_drew1 | refine below_set ?_ GE599.out) | exact HB.out)) hb); clear HO604; clear BK599; clear HB; have HO604 := n0_; have BK599 := n1_; have HB := n2_; clear n0_ n1_ n2_; (try clear hb); (try clear hb2); (try clear hk); (try clear hi)))
        go_meet
        case rel => exact ⟨_, (!t606), (by first | rfl | (simp; done) | (simp [*]; done)), H', ⟨by first | omega | exact Nat.le_refl _⟩, ⟨by (with_reducible repeat (first | apply Kd.V_alloc | apply Kd.V_drewN | apply Kd.V_drew)); exact HO604.out⟩, ⟨by (with_reducible repeat (first | refine blk_drewN ?_ _ | refine blk_drew ?_ | refine blk_alloc ?_ _)); exact BK599.out⟩, ⟨by repeat (first | (with_reducible first | exact HB.out | apply below_alloc | apply pw_below_drewN | apply below_drew1 | refine below_set ?_ GE599.out) | exact HB.out)⟩⟩
      · rw [if_neg c14] at H
        have c14b0 : (t605 == 0) = false := beq_eq_false_iff_ne.mpr c14
        have c14b1 : (t605 != 0) = true := bne_iff_ne.mpr c14
        have H' := Aside0.mk H
        clear H
        obtain ⟨Ao20, co20, eo20⟩ := Kd.V_slice HO604.out
        subst eo20
        go_wp2_with (first | (go_at_call 28; (with_reducible refine (turn_Nodes.calls k _ _ t602 t605 _ ?side1 ?side2 A13.out).mono ?_); (case side1 => refine (Kd.V_reads' (e := 3) (base := w.heap.size) (ok := fun k_ => k_ ≠ gb599) (n := t602.length) (c := co20) ?_).2.2; exact (by (with_reducible repeat (first | apply Kd.V_alloc | apply Kd.V_drewN | apply Kd.V_drew)); exact (Kd.V_mono (Kd.V_far (p := ⟨gb599, 1, none⟩) (Kd.V_far (p := ⟨gb599, 0, none⟩) (Kd.V_mono HO604.out (fun k_ hk => (⟨hk, hk⟩ : _ ∧ k_ ≠ gb599))) (fun _ hk => hk.2) (.string t600)) (fun _ hk => hk.2) (.int .i64 t601)) (fun _ h_ => h_.1)))); (case side2 => exact (Kd.V_reads' HO604.out).2.1); rintro e w21 ⟨rfl, hb⟩; have n0_ := Aside0.mk (Kd.V_below (by (with_reducible repeat (first | apply Kd.V_alloc | apply Kd.V_drewN | apply Kd.V_drew)); exact (Kd.V_mono (Kd.V_far (p := ⟨gb599, 1, none⟩) (Kd.V_far (p := ⟨gb599, 0, none⟩) (Kd.V_mono HO604.out (fun k_ hk => (⟨hk, hk⟩ : _ ∧ k_ ≠ gb599))) (fun _ hk => hk.2) (.string t600)) (fun _ hk => hk.2) (.int .i64 t601)) (fun _ h_ => h_.1))) hb); have n1_ := Aside0.mk (blk_below (g := gb599) (o := .cells #[.string t600, .int .i64 t601] 23 (0, 0)) (by (with_reducible repeat (first | refine blk_drewN ?_ _ | refine blk_drew ?_ | refine blk_alloc ?_ _)); refine blk_put (cs := #[.string t600, .int .i64 a0_1]) ?_ 1 _ rfl; (with_reducible repeat (first | refine blk_drewN ?_ _ | refine blk_drew ?_ | refine blk_alloc ?_ _)); refine blk_put (cs := #[.string a0_0, .int .i64 a0_1]) ?_ 0 _ rfl; (with_reducible repeat (first | refine blk_drewN ?_ _ | refine blk_drew ?_ | refine blk_alloc ?_ _)); exact BK599.out) hb); have n2_ := Aside0.mk (below_step (by repeat (first | (with_reducible first | exact HB.out | apply below_alloc | apply pw_below_drewN | apply below_drew1 | refine below_set ?_ GE599.out) | exact HB.out)) hb); clear HO604; clear BK599; clear HB; have HO604 := n0_; have BK599 := n1_; have HB := n2_; clear n0_ n1_ n2_; (try clear hb); (try clear hb2); (try clear hk); (try clear hi)))
        go_meet
        case rel => exact ⟨_, (true), (by first | rfl | (simp; done) | (simp [*]; done)), H', ⟨by first | omega | exact Nat.le_refl _⟩, ⟨by (with_reducible repeat (first | apply Kd.V_alloc | apply Kd.V_drewN | apply Kd.V_drew)); exact HO604.out⟩, ⟨by (with_reducible repeat (first | refine blk_drewN ?_ _ | refine blk_drew ?_ | refine blk_alloc ?_ _)); exact BK599.out⟩, ⟨by repeat (first | (with_reducible first | exact HB.out | apply below_alloc | apply pw_below_drewN | apply below_drew1 | refine below_set ?_ GE599.out) | exact HB.out)⟩⟩
  case rest =>
    clear HC5
    try clear c1
    try clear c2
    try clear p2
    try clear c11
    try clear c11b0
    try clear c11b1
    try clear c12
    try clear c14
    try clear c14b0
    try clear c14b1
    try clear hcz10_0
    try clear hcz10_1
    try clear hcz18_0
    try clear hcz18_1
    try clear hcz7_0
    try clear hcz7_1
    try clear hfz10_0
    try clear hfz10_1
    try clear hfz18_0
    try clear hfz18_1
    try clear hfz7_0
    try clear hfz7_1
    obtain ⟨kq, x31_4, rfl, HA, HJ4, HO_1, BK599, HB⟩ := hcut
    cases kq with
    | zero => exact absurd HA.out (by simp [tattlelaw08_TurnShuffles.j0])
    | succ kj4 =>
      have H := HA.out
      clear HA
      simp only [tattlelaw08_TurnShuffles.j0] at H
      by_cases c22 : x31_4 = true
      · subst c22
        have H1 : ((tattlelaw08_awakeT.f).bind fun t607 => (some t607)) = some r := by rw [if_pos rfl] at H; exact H
        clear H
        have H := H1
        clear H1
        replace H := Option.bind_eq_some_iff.mp H
        obtain ⟨t607, A230, H⟩ := H
        replace H : (some t607) = some r := H
        have A23 := Aside0.mk A230
        clear A230
        obtain rfl := Option.some.inj H
        go_wp2_with (first | ((with_reducible refine gate_callee (f := 30) rfl ?_); refine goesL_ (some 32) rfl rfl Try.func30 (by kernel_rfl) rfl #[] rfl (by (try simp only [List.map_toArray, List.map_cons, List.map_nil]); first | done | rfl | (simp only [List.length_drop, List.length_take]; rfl)) ?_; (with_reducible refine (tattlelaw08_awakeT.calls  t607 _ A23.out).mono ?_); rintro e w24 ⟨rfl, hb⟩; refine ⟨_, rfl, ?_⟩; have n0_ := Aside0.mk (blk_below (g := gb599) (o := .cells #[.string t600, .int .i64 t601] 23 (0, 0)) (by (with_reducible repeat (first | refine blk_drewN ?_ _ | refine blk_drew ?_ | refine blk_alloc ?_ _)); exact BK599.out) hb); have n1_ := Aside0.mk (below_step (by repeat (first | (with_reducible first | exact HB.out | apply below_alloc | apply pw_below_drewN | apply below_drew1 | refine below_set ?_ GE599.out) | exact HB.out)) hb); clear BK599; clear HB; have BK599 := n0_; have HB := n1_; clear n0_ n1_; (try clear hb); (try clear hb2); (try clear hk); (try clear hi)))
        go_ret
        exact ⟨by first | rfl | (simp [errW_none, errW_some] <;> rfl) | (simp [*, errW_none, errW_some] <;> rfl), by repeat (first | (with_reducible first | exact HB.out | apply below_alloc | apply pw_below_drewN | apply below_drew1 | refine below_set ?_ GE599.out) | exact HB.out)⟩
      · replace c22 := Bool.eq_false_iff.mpr c22
        subst c22
        have H1 : ((dice_Shuffle.f t600 t601 t602).bind fun bt608 => (if bt608.2.2.2 = 0 then (tattlelaw08_TurnShuffles.j1 kj4 t602 bt608.1 ((bt608.1.length : Int) != (t602.length : Int)) t600 t601 bt608.2.1 bt608.2.2.1) else (tattlelaw08_TurnShuffles.j1 kj4 t602 bt608.1 true t600 t601 bt608.2.1 bt608.2.2.1))) = some r := by rw [if_neg (show ¬ (false = true) by decide)] at H; exact H
        clear H
        have H := H1
        clear H1
        replace H := Option.bind_eq_some_iff.mp H
        obtain ⟨⟨t608, t611, t612, t613⟩, A250, H⟩ := H
        replace H : (if t613 = 0 then (tattlelaw08_TurnShuffles.j1 kj4 t602 t608 ((t608.length : Int) != (t602.length : Int)) t600 t601 t611 t612) else (tattlelaw08_TurnShuffles.j1 kj4 t602 t608 true t600 t601 t611 t612)) = some r := H
        have A25 := Aside0.mk A250
        clear A250
        have HC26 := Aside0.mk H
        clear H
        have hcz27_0 : wc.cell? ⟨gb599, 0, none⟩ = some (.string t600) := (blk_cell BK599.out 0).trans rfl
        have hcz27_1 : wc.cell? ⟨gb599, 1, none⟩ = some (.int .i64 t601) := (blk_cell BK599.out 1).trans rfl
        have hfz27_0 := blk_frozen BK599.out 0
        have hfz27_1 := blk_frozen BK599.out 1
        obtain ⟨Ao28, co28, eo28⟩ := Kd.V_slice HO_1.out
        subst eo28
        go_upto_region 5 with (first | ((with_reducible refine gate_callee (f := 20) rfl ?_); refine goesL_ (some 36) rfl rfl Try.func20 (by kernel_rfl) rfl #[.agg #[.string t600, .int .i64 t601], .slice Ao28 t602.length co28] rfl (by (try simp only [List.map_toArray, List.map_cons, List.map_nil]); first | done | rfl | (simp only [List.length_drop, List.length_take]; rfl)) ?_; (with_reducible refine (dice_Shuffle.calls t600 t601 _ _ t602 t608 t611 t612 t613 _ ?side1 ?side2 A25.out).mono ?_); (case side1 => repeat (first | exact (Kd.V_reads' HO_1.out).2.2 | (with_reducible refine Kd.C_alloc ?_ _) | (with_reducible refine Kd.C_drewN ?_ _) | (with_reducible refine Kd.C_drew ?_))); (case side2 => exact (Kd.V_reads' HO_1.out).2.1); rintro e w29 ⟨v609, rfl, ho0, hb⟩; refine ⟨_, rfl, ?_⟩; have n0_ := Aside0.mk (Kd.V_elder' (by (with_reducible repeat (first | apply Kd.V_alloc | apply Kd.V_drewN | apply Kd.V_drew)); exact HO_1.out) (Kd.R_base ho0) hb); have n1_ := Aside0.mk (Kd.R_lower ho0 (below_size (by repeat (first | (with_reducible first | exact HB.out | apply below_alloc | apply pw_below_drewN | apply below_drew1 | refine below_set ?_ GE599.out) | exact HB.out)))); have n2_ := Aside0.mk (blk_below (g := gb599) (o := .cells #[.string t600, .int .i64 t601] 23 (0, 0)) (by (with_reducible repeat (first | refine blk_drewN ?_ _ | refine blk_drew ?_ | refine blk_alloc ?_ _)); exact BK599.out) hb); have n3_ := Aside0.mk (below_step (by repeat (first | (with_reducible first | exact HB.out | apply below_alloc | apply pw_below_drewN | apply below_drew1 | refine below_set ?_ GE599.out) | exact HB.out)) hb); clear HO_1; clear BK599; clear HB; have HO_1 := n0_; have HO610 := n1_; have BK599 := n2_; have HB := n3_; clear n0_ n1_ n2_ n3_; (try clear hb); (try clear hb2); (try clear hk); (try clear hi); (try clear ho0)) | ((with_reducible refine gate_dst (N := 6) rfl ?_); (try (refine gate_guard (by rfl) ?_; dsimp only)); refine box_event ?hg (N := 6) ?hd (cs := #[.string (⟨#[]⟩ : ByteArray), .int .i64 0]) (t := 23) ?hr ?_; (case hd => rfl); (case hg => rfl); (case hr => first | (go_simp; done) | (go_simp; rfl)); intro gb614 hg w30 hbox hb; have n0_ := Aside0.mk (Kd.V_below (Kd.V_elderB (by (with_reducible repeat (first | apply Kd.V_alloc | apply Kd.V_drewN | apply Kd.V_drew)); exact HO_1.out) gb614 (Nat.le_of_eq hg.symm)) hb); have n1_ := Aside0.mk (Kd.R_below (by (with_reducible repeat (first | apply Kd.R_alloc | apply Kd.R_drewN | apply Kd.R_drew)); exact HO610.out) hb); have n2_ := Aside0.mk (blk_below (g := gb599) (o := .cells #[.string t600, .int .i64 t601] 23 (0, 0)) (by (with_reducible repeat (first | refine blk_drewN ?_ _ | refine blk_drew ?_ | refine blk_alloc ?_ _)); exact BK599.out) hb); have n3_ := Aside0.mk (below_step (by repeat (first | (with_reducible first | exact HB.out | apply below_alloc | apply pw_below_drewN | apply below_drew1 | refine below_set ?_ GE599.out) | exact HB.out)) hb); have n4_ := Aside0.mk (hbox); have n5_ := Aside0.mk ((by rw [hg]; exact (below_size (by repeat (first | (with_reducible first | exact HB.out | apply below_alloc | apply pw_below_drewN | apply below_drew1 | refine below_set ?_ GE599.out) | exact HB.out))) : w.heap.size ≤ gb614)); have n6_ := Aside0.mk ((by rw [hg]; exact (below_size (by repeat (first | (with_reducible first | exact HB.out | apply below_alloc | apply pw_below_drewN | apply below_drew1 | refine below_set ?_ GE599.out) | exact HB.out))) : w.heap.size ≤ gb614)); have n7_ := Aside0.mk ((by rw [hg]; exact Nat.ne_of_lt (blk_lt (g := gb599) (o := .cells #[.string t600, .int .i64 t601] 23 (0, 0)) (by (with_reducible repeat (first | refine blk_drewN ?_ _ | refine blk_drew ?_ | refine blk_alloc ?_ _)); exact BK599.out)) : gb599 ≠ gb614)); have n8_ := Aside0.mk ((by rw [hg]; exact Nat.ne_of_gt (blk_lt (g := gb599) (o := .cells #[.string t600, .int .i64 t601] 23 (0, 0)) (by (with_reducible repeat (first | refine blk_drewN ?_ _ | refine blk_drew ?_ | refine blk_alloc ?_ _)); exact BK599.out)) : gb614 ≠ gb599)); clear HO_1; clear HO610; clear BK599; clear HB; have HO_1 := n0_; have HO610 := n1_; have BK599 := n2_; have HB := n3_; have BK614 := n4_; have GW614 := n5_; have GE614 := n6_; have NB599_614 := n7_; have NB614_599 := n8_; clear n0_ n1_ n2_ n3_ n4_ n5_ n6_ n7_ n8_; clear hb hbox hg; have hnb31 := NB614_599.out; have hnc31 := NB599_614.out; have hcz32_0 : w30.cell? ⟨gb614, 0, none⟩ = some (.string (⟨#[]⟩ : ByteArray)) := (blk_cell BK614.out 0).trans rfl; have hcz32_1 : w30.cell? ⟨gb614, 1, none⟩ = some (.int .i64 0) := (blk_cell BK614.out 1).trans rfl; have hfz32_0 := blk_frozen BK614.out 0; have hfz32_1 := blk_frozen BK614.out 1))
        (try simp only [Act.put, List.setIfInBounds_toArray, List.set_cons_zero, List.set_cons_succ])
        go_cut [48] (fun v48 wc => ∃ (kq : Nat) (x48_25 : Bool), v48 = .bool x48_25 ∧ Aside0 (tattlelaw08_TurnShuffles.j1 kq t602 t608 x48_25 t600 t601 t611 t612 = some r) ∧ Aside0 (kq ≤ kj4) ∧ Aside0 (Kd.V (Kd.int .i64) 3 wc w.heap.size (fun k_ => some k_ ≠ (v609 : Value).ownBlock ∧ k_ ≠ gb599 ∧ k_ ≠ gb614) (.slice Ao28 t602.length co28) t602) ∧ Aside0 (Kd.R (Kd.int .i64) 3 wc w.heap.size (fun _ => True) v609 t608) ∧ Aside0 (wc.heap[gb599]? = some (.cells #[.string t600, .int .i64 t601] 23 (0, 0))) ∧ Aside0 (wc.heap[gb614]? = some (.cells #[.string t611, .int .i64 t612] 23 (0, 0))) ∧ Aside0 (Below w.heap.size w wc))
        case first =>
          have H := HC26.out
          clear HC26
          by_cases c33 : t613 = 0
          · rw [if_pos c33] at H
            have c33b0 : (t613 == 0) = true := beq_iff_eq.mpr c33
            have c33b1 : (t613 != 0) = false := bne_eq_false_iff_eq.mpr c33
            clear c33
            (first | rw [c33b0] | (simp only [i64_w, i32_w]; rw [c33b0]) | skip)
            have H' := Aside0.mk H
            clear H
            obtain ⟨Ao34, co34, eo34⟩ := Kd.R_slice HO610.out
            subst eo34
            go_wp2
            go_meet
            case rel => exact ⟨_, (((t608.length : Int) != (t602.length : Int))), (by first | rfl | (simp; done) | (simp [*]; done)), H', ⟨by have := HJ4.out; first | omega | exact Nat.le_refl _⟩, ⟨by (with_reducible repeat (first | apply Kd.V_alloc | apply Kd.V_drewN | apply Kd.V_drew)); exact Kd.V_mono (Kd.V_far (p := ⟨gb614, 1, none⟩) (Kd.V_far (p := ⟨gb614, 0, none⟩) (Kd.V_mono HO_1.out (fun k_ hk => (⟨hk, hk.2⟩ : _ ∧ k_ ≠ gb614))) (fun _ hk => hk.2) (.string t611)) (fun _ hk => hk.2) (.int .i64 t612)) (fun _ hk => ⟨hk.1.1.2, ⟨hk.1.1.1, hk.1.2⟩⟩)⟩, ⟨by (with_reducible repeat (first | apply Kd.R_alloc | apply Kd.R_drewN | apply Kd.R_drew)); exact Kd.R_mono (Kd.R_far (p := ⟨gb614, 1, none⟩) (Kd.R_far (p := ⟨gb614, 0, none⟩) (Kd.R_types HO610.out BK614.out (by decide)) (fun _ hk => hk.2) (.string t611)) (fun _ hk => hk.2) (.int .i64 t612)) (fun _ hk => trivial)⟩, ⟨by (with_reducible repeat (first | refine blk_drewN ?_ _ | refine blk_drew ?_ | refine blk_alloc ?_ _)); refine blk_far ?_ NB599_614.out _; (with_reducible repeat (first | refine blk_drewN ?_ _ | refine blk_drew ?_ | refine blk_alloc ?_ _)); refine blk_far ?_ NB599_614.out _; (with_reducible repeat (first | refine blk_drewN ?_ _ | refine blk_drew ?_ | refine blk_alloc ?_ _)); exact BK599.out⟩, ⟨by (with_reducible repeat (first | refine blk_drewN ?_ _ | refine blk_drew ?_ | refine blk_alloc ?_ _)); refine blk_put (cs := #[.string t611, .int .i64 0]) ?_ 1 _ rfl; (with_reducible repeat (first | refine blk_drewN ?_ _ | refine blk_drew ?_ | refine blk_alloc ?_ _)); refine blk_put (cs := #[.string (⟨#[]⟩ : ByteArray), .int .i64 0]) ?_ 0 _ rfl; (with_reducible repeat (first | refine blk_drewN ?_ _ | refine blk_drew ?_ | refine blk_alloc ?_ _)); exact BK614.out⟩, ⟨by repeat (first | (with_reducible first | exact HB.out | apply below_alloc | apply pw_below_drewN | apply below_drew1 | refine below_set ?_ GE599.out | refine below_set ?_ GE614.out) | exact HB.out)⟩⟩
          · rw [if_neg c33] at H
            have c33b0 : (t613 == 0) = false := beq_eq_false_iff_ne.mpr c33
            have c33b1 : (t613 != 0) = true := bne_iff_ne.mpr c33
            (first | rw [c33b0] | (simp only [i64_w, i32_w]; rw [c33b0]) | skip)
            have H' := Aside0.mk H
            clear H
            go_wp2
            go_meet
            case rel => exact ⟨_, (true), (by first | rfl | (simp; done) | (simp [*]; done)), H', ⟨by have := HJ4.out; first | omega | exact Nat.le_refl _⟩, ⟨by (with_reducible repeat (first | apply Kd.V_alloc | apply Kd.V_drewN | apply Kd.V_drew)); exact Kd.V_mono (Kd.V_far (p := ⟨gb614, 1, none⟩) (Kd.V_far (p := ⟨gb614, 0, none⟩) (Kd.V_mono HO_1.out (fun k_ hk => (⟨hk, hk.2⟩ : _ ∧ k_ ≠ gb614))) (fun _ hk => hk.2) (.string t611)) (fun _ hk => hk.2) (.int .i64 t612)) (fun _ hk => ⟨hk.1.1.2, ⟨hk.1.1.1, hk.1.2⟩⟩)⟩, ⟨by (with_reducible repeat (first | apply Kd.R_alloc | apply Kd.R_drewN | apply Kd.R_drew)); exact Kd.R_mono (Kd.R_far (p := ⟨gb614, 1, none⟩) (Kd.R_far (p := ⟨gb614, 0, none⟩) (Kd.R_types HO610.out BK614.out (by decide)) (fun _ hk => hk.2) (.string t611)) (fun _ hk => hk.2) (.int .i64 t612)) (fun _ hk => trivial)⟩, ⟨by (with_reducible repeat (first | refine blk_drewN ?_ _ | refine blk_drew ?_ | refine blk_alloc ?_ _)); refine blk_far ?_ NB599_614.out _; (with_reducible repeat (first | refine blk_drewN ?_ _ | refine blk_drew ?_ | refine blk_alloc ?_ _)); refine blk_far ?_ NB599_614.out _; (with_reducible repeat (first | refine blk_drewN ?_ _ | refine blk_drew ?_ | refine blk_alloc ?_ _)); exact BK599.out⟩, ⟨by (with_reducible repeat (first | refine blk_drewN ?_ _ | refine blk_drew ?_ | refine blk_alloc ?_ _)); refine blk_put (cs := #[.string t611, .int .i64 0]) ?_ 1 _ rfl; (with_reducible repeat (first | refine blk_drewN ?_ _ | refine blk_drew ?_ | refine blk_alloc ?_ _)); refine blk_put (cs := #[.string (⟨#[]⟩ : ByteArray), .int .i64 0]) ?_ 0 _ rfl; (with_reducible repeat (first | refine blk_drewN ?_ _ | refine blk_drew ?_ | refine blk_alloc ?_ _)); exact BK614.out⟩, ⟨by repeat (first | (with_reducible first | exact HB.out | apply below_alloc | apply pw_below_drewN | apply below_drew1 | refine below_set ?_ GE599.out | refine below_set ?_ GE614.out) | exact HB.out)⟩⟩
        case rest =>
          clear HC26
          try clear c1
          try clear c2
          try clear p2
          try clear c3
          try clear c11
          try clear c11b0
          try clear c11b1
          try clear c12
          try clear c14
          try clear c14b0
          try clear c14b1
          try clear c20
          try clear c22
          try clear c27
          try clear c30
          try clear c31
          try clear c33
          try clear c33b0
          try clear c33b1
          try clear hcz10_0
          try clear hcz10_1
          try clear hcz18_0
          try clear hcz18_1
          try clear hcz27_0
          try clear hcz27_1
          try clear hcz32_0
          try clear hcz32_1
          try clear hcz7_0
          try clear hcz7_1
          try clear hfz10_0
          try clear hfz10_1
          try clear hfz18_0
          try clear hfz18_1
          try clear hfz27_0
          try clear hfz27_1
          try clear hfz32_0
          try clear hfz32_1
          try clear hfz7_0
          try clear hfz7_1
          try clear p2
          obtain ⟨kq, x48_25, rfl, HA, HJ25, HO_1, HO_5, BK599, BK614, HB⟩ := hcut
          cases kq with
          | zero => exact absurd HA.out (by simp [tattlelaw08_TurnShuffles.j1])
          | succ kj25 =>
            have H := HA.out
            clear HA
            simp only [tattlelaw08_TurnShuffles.j1] at H
            by_cases c35 : x48_25 = true
            · subst c35
              have H1 : (some false) = some r := by rw [if_pos rfl] at H; exact H
              clear H
              have H := H1
              clear H1
              exact absurd ((Option.some.inj H).trans hrt.out) (by decide)
            · replace c35 := Bool.eq_false_iff.mpr c35
              subst c35
              have H1 : (tattlelaw08_TurnShuffles.l0 kj25 t602 t608 0 t611 t612 ([] : List Int) 0 t600 t601) = some r := by rw [if_neg (show ¬ (false = true) by decide)] at H; exact H
              clear H
              have H := H1
              clear H1
              have H' := Aside0.mk H
              clear H
              try go_wp2
              have n0_ := Aside0.mk (Kd.V_drew HO_1.out)
              have n1_ := Aside0.mk (Kd.R_drew HO_5.out)
              have n2_ := Aside0.mk (blk_drew BK599.out)
              have n3_ := Aside0.mk (blk_drew BK614.out)
              have n4_ := Aside0.mk (below_drew1 HB.out)
              clear HO_1
              clear HO_5
              clear BK599
              clear BK614
              clear HB
              have HO_1 := n0_
              have HO_5 := n1_
              have BK599 := n2_
              have BK614 := n3_
              have HB := n4_
              clear n0_ n1_ n2_ n3_ n4_
              refine start_ (n := 6) (S := fun w' => w'.cell? ⟨gb599, 0, none⟩ = some (.string t600) ∧ w'.cell? ⟨gb599, 1, none⟩ = some (.int .i64 t601)) (ds := []) #[false, false, false, false, false, false] (by kernel_rfl) rfl rfl ⟨(blk_cell BK599.out 0).trans rfl, (blk_cell BK599.out 1).trans rfl⟩ (fun hHeld => ?_)
              generalize wc.drew = w36 at HO_1 HO_5 BK599 BK614 HB hHeld ⊢
              refine pure_ (i := 0) (N := some 49) (v := ?_) (a' := ?_) #[true, false, false, false, false, false] rfl rfl (by kernel_rfl) (fun _ _ _ h => h) (Or.inl ⟨by rfl, ?_⟩) ?_ ?_
              rotate_left
              · intro w'
                go_simp
                with_reducible rfl
              rotate_left
              · simp only [Act.put, List.setIfInBounds_toArray, List.set_cons_zero, List.set_cons_succ, i64_w, i32_w]
                rfl
              refine take_ (i := 1) (N := some 50) (v := ?_) (a' := ?_) #[true, true, false, false, false, false] rfl rfl (by kernel_rfl) (fun _ _ _ h => h) (Or.inl ⟨by rfl, ?_⟩) hHeld ?_ ?_
              rotate_left
              · rintro w' ⟨s0, s1⟩
                go_simp
                with_reducible rfl
              rotate_left
              · simp only [Act.put, List.setIfInBounds_toArray, List.set_cons_zero, List.set_cons_succ, i64_w, i32_w]
                rfl
              refine join_ (σ := Nat × Nat) 2 #[true, true, true, true, false, false] (fun s_ => [(8, .pointer (some ⟨s_.1, 0, none⟩)), (9, .pointer (some ⟨s_.2, 0, none⟩))]) (fun s_ w' => (w'.cell? ⟨gb599, 0, none⟩ = some (.string t600) ∧ w'.cell? ⟨gb599, 1, none⟩ = some (.int .i64 t601)) ∧ (Kd.V (Kd.int .i64) 3 w' w.heap.size (fun k_ => some k_ ≠ (v609 : Value).ownBlock ∧ k_ ≠ gb599 ∧ k_ ≠ gb614 ∧ k_ ≠ s_.1 ∧ k_ ≠ s_.2) (.slice Ao28 t602.length co28) t602) ∧ (Kd.R (Kd.int .i64) 3 w' w.heap.size (fun _ => True) v609 t608) ∧ (w'.heap[gb599]? = some (.cells #[.string t600, .int .i64 t601] 23 (0, 0))) ∧ (w'.heap[gb614]? = some (.cells #[.string t611, .int .i64 t612] 23 (0, 0))) ∧ (w'.heap[s_.1]? = some (.cells #[.slice none 0 0, .int .i64 0] 49 (0, 0))) ∧ (w'.heap[s_.2]? = some (.cells #[.string (⟨#[]⟩ : ByteArray), .int .i64 0] 23 (0, 0))) ∧ (w.heap.size ≤ s_.1) ∧ (w.heap.size ≤ s_.1) ∧ (gb599 ≠ s_.1) ∧ (s_.1 ≠ gb599) ∧ (gb614 ≠ s_.1) ∧ (s_.1 ≠ gb614) ∧ (s_.2 ≠ s_.1) ∧ (s_.1 ≠ s_.2) ∧ (w.heap.size ≤ s_.2) ∧ (w.heap.size ≤ s_.2) ∧ (gb599 ≠ s_.2) ∧ (s_.2 ≠ gb599) ∧ (gb614 ≠ s_.2) ∧ (s_.2 ≠ gb614) ∧ (Below w.heap.size w w')) ?_ ?_
              rotate_left
              · intro hCont
                refine two_ (i := 2) (j := 3) (Ni := some 8) (Nj := some 9) #[true, true, true, false, false, false] #[true, true, false, true, false, false] rfl rfl rfl rfl (by kernel_rfl) (by decide) (by decide) (fun K hK => ?_) (fun K hK => ?_)
                · skip
                  refine box_step ?hg (N := 8) ?hd (cs := #[.slice none 0 0, .int .i64 0]) (t := 49) ?hr ?_; (case hd => rfl); (case hg => rfl); (case hr => first | (go_simp; done) | (go_simp; rfl))
                  intro gb615 hg w37 hbox hb
                  have n0_ := Aside0.mk (Kd.V_below (Kd.V_elderB (by (with_reducible repeat (first | apply Kd.V_alloc | apply Kd.V_drewN | apply Kd.V_drew)); exact HO_1.out) gb615 (Nat.le_of_eq hg.symm)) hb)
                  have n1_ := Aside0.mk (Kd.R_below (by (with_reducible repeat (first | apply Kd.R_alloc | apply Kd.R_drewN | apply Kd.R_drew)); exact HO_5.out) hb)
                  have n2_ := Aside0.mk (blk_below (g := gb599) (o := .cells #[.string t600, .int .i64 t601] 23 (0, 0)) (by (with_reducible repeat (first | refine blk_drewN ?_ _ | refine blk_drew ?_ | refine blk_alloc ?_ _)); exact BK599.out) hb)
                  have n3_ := Aside0.mk (blk_below (g := gb614) (o := .cells #[.string t611, .int .i64 t612] 23 (0, 0)) (by (with_reducible repeat (first | refine blk_drewN ?_ _ | refine blk_drew ?_ | refine blk_alloc ?_ _)); exact BK614.out) hb)
                  have n4_ := Aside0.mk (below_step (by repeat (first | (with_reducible first | exact HB.out | apply below_alloc | apply pw_below_drewN | apply below_drew1 | refine below_set ?_ GE599.out | refine below_set ?_ GE614.out) | exact HB.out)) hb)
                  have n5_ := Aside0.mk (hbox)
                  have n6_ := Aside0.mk ((by rw [hg]; exact (below_size (by repeat (first | (with_reducible first | exact HB.out | apply below_alloc | apply pw_below_drewN | apply below_drew1 | refine below_set ?_ GE599.out | refine below_set ?_ GE614.out) | exact HB.out))) : w.heap.size ≤ gb615))
                  have n7_ := Aside0.mk ((by rw [hg]; exact (below_size (by repeat (first | (with_reducible first | exact HB.out | apply below_alloc | apply pw_below_drewN | apply below_drew1 | refine below_set ?_ GE599.out | refine below_set ?_ GE614.out) | exact HB.out))) : w.heap.size ≤ gb615))
                  have n8_ := Aside0.mk ((by rw [hg]; exact Nat.ne_of_lt (blk_lt (g := gb599) (o := .cells #[.string t600, .int .i64 t601] 23 (0, 0)) (by (with_reducible repeat (first | refine blk_drewN ?_ _ | refine blk_drew ?_ | refine blk_alloc ?_ _)); exact BK599.out)) : gb599 ≠ gb615))
                  have n9_ := Aside0.mk ((by rw [hg]; exact Nat.ne_of_gt (blk_lt (g := gb599) (o := .cells #[.string t600, .int .i64 t601] 23 (0, 0)) (by (with_reducible repeat (first | refine blk_drewN ?_ _ | refine blk_drew ?_ | refine blk_alloc ?_ _)); exact BK599.out)) : gb615 ≠ gb599))
                  have n10_ := Aside0.mk ((by rw [hg]; exact Nat.ne_of_lt (blk_lt (g := gb614) (o := .cells #[.string t611, .int .i64 t612] 23 (0, 0)) (by (with_reducible repeat (first | refine blk_drewN ?_ _ | refine blk_drew ?_ | refine blk_alloc ?_ _)); exact BK614.out)) : gb614 ≠ gb615))
                  have n11_ := Aside0.mk ((by rw [hg]; exact Nat.ne_of_gt (blk_lt (g := gb614) (o := .cells #[.string t611, .int .i64 t612] 23 (0, 0)) (by (with_reducible repeat (first | refine blk_drewN ?_ _ | refine blk_drew ?_ | refine blk_alloc ?_ _)); exact BK614.out)) : gb615 ≠ gb614))
                  clear HO_1
                  clear HO_5
                  clear BK599
                  clear BK614
                  clear HB
                  have HO_1 := n0_
                  have HO_5 := n1_
                  have BK599 := n2_
                  have BK614 := n3_
                  have HB := n4_
                  have BK615 := n5_
                  have GW615 := n6_
                  have GE615 := n7_
                  have NB599_615 := n8_
                  have NB615_599 := n9_
                  have NB614_615 := n10_
                  have NB615_614 := n11_
                  clear n0_ n1_ n2_ n3_ n4_ n5_ n6_ n7_ n8_ n9_ n10_ n11_
                  clear hb hbox hg
                  refine hK.out _ _ ⟨(blk_cell BK599.out 0).trans rfl, (blk_cell BK599.out 1).trans rfl⟩ (fun hHeld => ?_)
                  clear hK K
                  refine norm_ (a' := ?_) ?_ ?_
                  rotate_left
                  · show Act.put _ (some 8) _ = _
                    simp only [Act.put, List.setIfInBounds_toArray, List.set_cons_zero, List.set_cons_succ, i64_w, i32_w]
                    rfl
                  refine one_ (i := 3) (N := some 9) #[true, true, true, true, false, false] rfl rfl (by kernel_rfl) (by decide) (fun K hK => ?_)
                  refine box_step ?hg (N := 9) ?hd (cs := #[.string (⟨#[]⟩ : ByteArray), .int .i64 0]) (t := 23) ?hr ?_; (case hd => rfl); (case hg => rfl); (case hr => first | (go_simp; done) | (go_simp; rfl))
                  intro gb616 hg w38 hbox hb
                  have n0_ := Aside0.mk (Kd.V_below (Kd.V_elderB (by (with_reducible repeat (first | apply Kd.V_alloc | apply Kd.V_drewN | apply Kd.V_drew)); exact HO_1.out) gb616 (Nat.le_of_eq hg.symm)) hb)
                  have n1_ := Aside0.mk (Kd.R_below (by (with_reducible repeat (first | apply Kd.R_alloc | apply Kd.R_drewN | apply Kd.R_drew)); exact HO_5.out) hb)
                  have n2_ := Aside0.mk (blk_below (g := gb599) (o := .cells #[.string t600, .int .i64 t601] 23 (0, 0)) (by (with_reducible repeat (first | refine blk_drewN ?_ _ | refine blk_drew ?_ | refine blk_alloc ?_ _)); exact BK599.out) hb)
                  have n3_ := Aside0.mk (blk_below (g := gb614) (o := .cells #[.string t611, .int .i64 t612] 23 (0, 0)) (by (with_reducible repeat (first | refine blk_drewN ?_ _ | refine blk_drew ?_ | refine blk_alloc ?_ _)); exact BK614.out) hb)
                  have n4_ := Aside0.mk (blk_below (g := gb615) (o := .cells #[.slice none 0 0, .int .i64 0] 49 (0, 0)) (by (with_reducible repeat (first | refine blk_drewN ?_ _ | refine blk_drew ?_ | refine blk_alloc ?_ _)); exact BK615.out) hb)
                  have n5_ := Aside0.mk (below_step (by repeat (first | (with_reducible first | exact HB.out | apply below_alloc | apply pw_below_drewN | apply below_drew1 | refine below_set ?_ GE599.out | refine below_set ?_ GE614.out | refine below_set ?_ GE615.out) | exact HB.out)) hb)
                  have n6_ := Aside0.mk (hbox)
                  have n7_ := Aside0.mk ((by rw [hg]; exact (below_size (by repeat (first | (with_reducible first | exact HB.out | apply below_alloc | apply pw_below_drewN | apply below_drew1 | refine below_set ?_ GE599.out | refine below_set ?_ GE614.out | refine below_set ?_ GE615.out) | exact HB.out))) : w.heap.size ≤ gb616))
                  have n8_ := Aside0.mk ((by rw [hg]; exact (below_size (by repeat (first | (with_reducible first | exact HB.out | apply below_alloc | apply pw_below_drewN | apply below_drew1 | refine below_set ?_ GE599.out | refine below_set ?_ GE614.out | refine below_set ?_ GE615.out) | exact HB.out))) : w.heap.size ≤ gb616))
                  have n9_ := Aside0.mk ((by rw [hg]; exact Nat.ne_of_lt (blk_lt (g := gb599) (o := .cells #[.string t600, .int .i64 t601] 23 (0, 0)) (by (with_reducible repeat (first | refine blk_drewN ?_ _ | refine blk_drew ?_ | refine blk_alloc ?_ _)); exact BK599.out)) : gb599 ≠ gb616))
                  have n10_ := Aside0.mk ((by rw [hg]; exact Nat.ne_of_gt (blk_lt (g := gb599) (o := .cells #[.string t600, .int .i64 t601] 23 (0, 0)) (by (with_reducible repeat (first | refine blk_drewN ?_ _ | refine blk_drew ?_ | refine blk_alloc ?_ _)); exact BK599.out)) : gb616 ≠ gb599))
                  have n11_ := Aside0.mk ((by rw [hg]; exact Nat.ne_of_lt (blk_lt (g := gb614) (o := .cells #[.string t611, .int .i64 t612] 23 (0, 0)) (by (with_reducible repeat (first | refine blk_drewN ?_ _ | refine blk_drew ?_ | refine blk_alloc ?_ _)); exact BK614.out)) : gb614 ≠ gb616))
                  have n12_ := Aside0.mk ((by rw [hg]; exact Nat.ne_of_gt (blk_lt (g := gb614) (o := .cells #[.string t611, .int .i64 t612] 23 (0, 0)) (by (with_reducible repeat (first | refine blk_drewN ?_ _ | refine blk_drew ?_ | refine blk_alloc ?_ _)); exact BK614.out)) : gb616 ≠ gb614))
                  have n13_ := Aside0.mk ((by rw [hg]; exact Nat.ne_of_lt (blk_lt (g := gb615) (o := .cells #[.slice none 0 0, .int .i64 0] 49 (0, 0)) (by (with_reducible repeat (first | refine blk_drewN ?_ _ | refine blk_drew ?_ | refine blk_alloc ?_ _)); exact BK615.out)) : gb615 ≠ gb616))
                  have n14_ := Aside0.mk ((by rw [hg]; exact Nat.ne_of_gt (blk_lt (g := gb615) (o := .cells #[.slice none 0 0, .int .i64 0] 49 (0, 0)) (by (with_reducible repeat (first | refine blk_drewN ?_ _ | refine blk_drew ?_ | refine blk_alloc ?_ _)); exact BK615.out)) : gb616 ≠ gb615))
                  clear HO_1
                  clear HO_5
                  clear BK599
                  clear BK614
                  clear BK615
                  clear HB
                  have HO_1 := n0_
                  have HO_5 := n1_
                  have BK599 := n2_
                  have BK614 := n3_
                  have BK615 := n4_
                  have HB := n5_
                  have BK616 := n6_
                  have GW616 := n7_
                  have GE616 := n8_
                  have NB599_616 := n9_
                  have NB616_599 := n10_
                  have NB614_616 := n11_
                  have NB616_614 := n12_
                  have NB615_616 := n13_
                  have NB616_615 := n14_
                  clear n0_ n1_ n2_ n3_ n4_ n5_ n6_ n7_ n8_ n9_ n10_ n11_ n12_ n13_ n14_
                  clear hb hbox hg
                  refine hK.out _ _ ⟨(blk_cell BK599.out 0).trans rfl, (blk_cell BK599.out 1).trans rfl⟩ (fun hHeld => ?_)
                  clear hK K
                  refine norm_ (a' := ?_) ?_ ?_
                  rotate_left
                  · show Act.put _ (some 9) _ = _
                    simp only [Act.put, List.setIfInBounds_toArray, List.set_cons_zero, List.set_cons_succ, i64_w, i32_w]
                    rfl
                  exact norm_ (by simp only [putAll, Act.put, List.setIfInBounds_toArray, List.set_cons_zero, List.set_cons_succ]) (hCont (gb615, gb616) _ ⟨hHeld, (by (with_reducible repeat (first | apply Kd.V_alloc | apply Kd.V_drewN | apply Kd.V_drew)); exact Kd.V_mono HO_1.out (fun _ hk => ⟨hk.1.1.1, ⟨hk.1.1.2.1, ⟨hk.1.1.2.2, ⟨hk.1.2, hk.2⟩⟩⟩⟩)), (by (with_reducible repeat (first | apply Kd.R_alloc | apply Kd.R_drewN | apply Kd.R_drew)); exact HO_5.out), (by (with_reducible repeat (first | refine blk_drewN ?_ _ | refine blk_drew ?_ | refine blk_alloc ?_ _)); exact BK599.out), (by (with_reducible repeat (first | refine blk_drewN ?_ _ | refine blk_drew ?_ | refine blk_alloc ?_ _)); exact BK614.out), (by (with_reducible repeat (first | refine blk_drewN ?_ _ | refine blk_drew ?_ | refine blk_alloc ?_ _)); exact BK615.out), (by (with_reducible repeat (first | refine blk_drewN ?_ _ | refine blk_drew ?_ | refine blk_alloc ?_ _)); exact BK616.out), GW615.out, GE615.out, NB599_615.out, NB615_599.out, NB614_615.out, NB615_614.out, NB616_615.out, NB615_616.out, GW616.out, GE616.out, NB599_616.out, NB616_599.out, NB614_616.out, NB616_614.out, (by repeat (first | (with_reducible first | exact HB.out | apply below_alloc | apply pw_below_drewN | apply below_drew1 | refine below_set ?_ GE599.out | refine below_set ?_ GE614.out | refine below_set ?_ GE615.out | refine below_set ?_ GE616.out) | exact HB.out))⟩)
                · skip
                  refine box_step ?hg (N := 9) ?hd (cs := #[.string (⟨#[]⟩ : ByteArray), .int .i64 0]) (t := 23) ?hr ?_; (case hd => rfl); (case hg => rfl); (case hr => first | (go_simp; done) | (go_simp; rfl))
                  intro gb616 hg w37 hbox hb
                  have n0_ := Aside0.mk (Kd.V_below (Kd.V_elderB (by (with_reducible repeat (first | apply Kd.V_alloc | apply Kd.V_drewN | apply Kd.V_drew)); exact HO_1.out) gb616 (Nat.le_of_eq hg.symm)) hb)
                  have n1_ := Aside0.mk (Kd.R_below (by (with_reducible repeat (first | apply Kd.R_alloc | apply Kd.R_drewN | apply Kd.R_drew)); exact HO_5.out) hb)
                  have n2_ := Aside0.mk (blk_below (g := gb599) (o := .cells #[.string t600, .int .i64 t601] 23 (0, 0)) (by (with_reducible repeat (first | refine blk_drewN ?_ _ | refine blk_drew ?_ | refine blk_alloc ?_ _)); exact BK599.out) hb)
                  have n3_ := Aside0.mk (blk_below (g := gb614) (o := .cells #[.string t611, .int .i64 t612] 23 (0, 0)) (by (with_reducible repeat (first | refine blk_drewN ?_ _ | refine blk_drew ?_ | refine blk_alloc ?_ _)); exact BK614.out) hb)
                  have n4_ := Aside0.mk (below_step (by repeat (first | (with_reducible first | exact HB.out | apply below_alloc | apply pw_below_drewN | apply below_drew1 | refine below_set ?_ GE599.out | refine below_set ?_ GE614.out) | exact HB.out)) hb)
                  have n5_ := Aside0.mk (hbox)
                  have n6_ := Aside0.mk ((by rw [hg]; exact (below_size (by repeat (first | (with_reducible first | exact HB.out | apply below_alloc | apply pw_below_drewN | apply below_drew1 | refine below_set ?_ GE599.out | refine below_set ?_ GE614.out) | exact HB.out))) : w.heap.size ≤ gb616))
                  have n7_ := Aside0.mk ((by rw [hg]; exact (below_size (by repeat (first | (with_reducible first | exact HB.out | apply below_alloc | apply pw_below_drewN | apply below_drew1 | refine below_set ?_ GE599.out | refine below_set ?_ GE614.out) | exact HB.out))) : w.heap.size ≤ gb616))
                  have n8_ := Aside0.mk ((by rw [hg]; exact Nat.ne_of_lt (blk_lt (g := gb599) (o := .cells #[.string t600, .int .i64 t601] 23 (0, 0)) (by (with_reducible repeat (first | refine blk_drewN ?_ _ | refine blk_drew ?_ | refine blk_alloc ?_ _)); exact BK599.out)) : gb599 ≠ gb616))
                  have n9_ := Aside0.mk ((by rw [hg]; exact Nat.ne_of_gt (blk_lt (g := gb599) (o := .cells #[.string t600, .int .i64 t601] 23 (0, 0)) (by (with_reducible repeat (first | refine blk_drewN ?_ _ | refine blk_drew ?_ | refine blk_alloc ?_ _)); exact BK599.out)) : gb616 ≠ gb599))
                  have n10_ := Aside0.mk ((by rw [hg]; exact Nat.ne_of_lt (blk_lt (g := gb614) (o := .cells #[.string t611, .int .i64 t612] 23 (0, 0)) (by (with_reducible repeat (first | refine blk_drewN ?_ _ | refine blk_drew ?_ | refine blk_alloc ?_ _)); exact BK614.out)) : gb614 ≠ gb616))
                  have n11_ := Aside0.mk ((by rw [hg]; exact Nat.ne_of_gt (blk_lt (g := gb614) (o := .cells #[.string t611, .int .i64 t612] 23 (0, 0)) (by (with_reducible repeat (first | refine blk_drewN ?_ _ | refine blk_drew ?_ | refine blk_alloc ?_ _)); exact BK614.out)) : gb616 ≠ gb614))
                  clear HO_1
                  clear HO_5
                  clear BK599
                  clear BK614
                  clear HB
                  have HO_1 := n0_
                  have HO_5 := n1_
                  have BK599 := n2_
                  have BK614 := n3_
                  have HB := n4_
                  have BK616 := n5_
                  have GW616 := n6_
                  have GE616 := n7_
                  have NB599_616 := n8_
                  have NB616_599 := n9_
                  have NB614_616 := n10_
                  have NB616_614 := n11_
                  clear n0_ n1_ n2_ n3_ n4_ n5_ n6_ n7_ n8_ n9_ n10_ n11_
                  clear hb hbox hg
                  refine hK.out _ _ ⟨(blk_cell BK599.out 0).trans rfl, (blk_cell BK599.out 1).trans rfl⟩ (fun hHeld => ?_)
                  clear hK K
                  refine norm_ (a' := ?_) ?_ ?_
                  rotate_left
                  · show Act.put _ (some 9) _ = _
                    simp only [Act.put, List.setIfInBounds_toArray, List.set_cons_zero, List.set_cons_succ, i64_w, i32_w]
                    rfl
                  refine one_ (i := 2) (N := some 8) #[true, true, true, true, false, false] rfl rfl (by kernel_rfl) (by decide) (fun K hK => ?_)
                  refine box_step ?hg (N := 8) ?hd (cs := #[.slice none 0 0, .int .i64 0]) (t := 49) ?hr ?_; (case hd => rfl); (case hg => rfl); (case hr => first | (go_simp; done) | (go_simp; rfl))
                  intro gb615 hg w38 hbox hb
                  have n0_ := Aside0.mk (Kd.V_below (Kd.V_elderB (by (with_reducible repeat (first | apply Kd.V_alloc | apply Kd.V_drewN | apply Kd.V_drew)); exact HO_1.out) gb615 (Nat.le_of_eq hg.symm)) hb)
                  have n1_ := Aside0.mk (Kd.R_below (by (with_reducible repeat (first | apply Kd.R_alloc | apply Kd.R_drewN | apply Kd.R_drew)); exact HO_5.out) hb)
                  have n2_ := Aside0.mk (blk_below (g := gb599) (o := .cells #[.string t600, .int .i64 t601] 23 (0, 0)) (by (with_reducible repeat (first | refine blk_drewN ?_ _ | refine blk_drew ?_ | refine blk_alloc ?_ _)); exact BK599.out) hb)
                  have n3_ := Aside0.mk (blk_below (g := gb614) (o := .cells #[.string t611, .int .i64 t612] 23 (0, 0)) (by (with_reducible repeat (first | refine blk_drewN ?_ _ | refine blk_drew ?_ | refine blk_alloc ?_ _)); exact BK614.out) hb)
                  have n4_ := Aside0.mk (blk_below (g := gb616) (o := .cells #[.string (⟨#[]⟩ : ByteArray), .int .i64 0] 23 (0, 0)) (by (with_reducible repeat (first | refine blk_drewN ?_ _ | refine blk_drew ?_ | refine blk_alloc ?_ _)); exact BK616.out) hb)
                  have n5_ := Aside0.mk (below_step (by repeat (first | (with_reducible first | exact HB.out | apply below_alloc | apply pw_below_drewN | apply below_drew1 | refine below_set ?_ GE599.out | refine below_set ?_ GE614.out | refine below_set ?_ GE616.out) | exact HB.out)) hb)
                  have n6_ := Aside0.mk (hbox)
                  have n7_ := Aside0.mk ((by rw [hg]; exact (below_size (by repeat (first | (with_reducible first | exact HB.out | apply below_alloc | apply pw_below_drewN | apply below_drew1 | refine below_set ?_ GE599.out | refine below_set ?_ GE614.out | refine below_set ?_ GE616.out) | exact HB.out))) : w.heap.size ≤ gb615))
                  have n8_ := Aside0.mk ((by rw [hg]; exact (below_size (by repeat (first | (with_reducible first | exact HB.out | apply below_alloc | apply pw_below_drewN | apply below_drew1 | refine below_set ?_ GE599.out | refine below_set ?_ GE614.out | refine below_set ?_ GE616.out) | exact HB.out))) : w.heap.size ≤ gb615))
                  have n9_ := Aside0.mk ((by rw [hg]; exact Nat.ne_of_lt (blk_lt (g := gb599) (o := .cells #[.string t600, .int .i64 t601] 23 (0, 0)) (by (with_reducible repeat (first | refine blk_drewN ?_ _ | refine blk_drew ?_ | refine blk_alloc ?_ _)); exact BK599.out)) : gb599 ≠ gb615))
                  have n10_ := Aside0.mk ((by rw [hg]; exact Nat.ne_of_gt (blk_lt (g := gb599) (o := .cells #[.string t600, .int .i64 t601] 23 (0, 0)) (by (with_reducible repeat (first | refine blk_drewN ?_ _ | refine blk_drew ?_ | refine blk_alloc ?_ _)); exact BK599.out)) : gb615 ≠ gb599))
                  have n11_ := Aside0.mk ((by rw [hg]; exact Nat.ne_of_lt (blk_lt (g := gb614) (o := .cells #[.string t611, .int .i64 t612] 23 (0, 0)) (by (with_reducible repeat (first | refine blk_drewN ?_ _ | refine blk_drew ?_ | refine blk_alloc ?_ _)); exact BK614.out)) : gb614 ≠ gb615))
                  have n12_ := Aside0.mk ((by rw [hg]; exact Nat.ne_of_gt (blk_lt (g := gb614) (o := .cells #[.string t611, .int .i64 t612] 23 (0, 0)) (by (with_reducible repeat (first | refine blk_drewN ?_ _ | refine blk_drew ?_ | refine blk_alloc ?_ _)); exact BK614.out)) : gb615 ≠ gb614))
                  have n13_ := Aside0.mk ((by rw [hg]; exact Nat.ne_of_lt (blk_lt (g := gb616) (o := .cells #[.string (⟨#[]⟩ : ByteArray), .int .i64 0] 23 (0, 0)) (by (with_reducible repeat (first | refine blk_drewN ?_ _ | refine blk_drew ?_ | refine blk_alloc ?_ _)); exact BK616.out)) : gb616 ≠ gb615))
                  have n14_ := Aside0.mk ((by rw [hg]; exact Nat.ne_of_gt (blk_lt (g := gb616) (o := .cells #[.string (⟨#[]⟩ : ByteArray), .int .i64 0] 23 (0, 0)) (by (with_reducible repeat (first | refine blk_drewN ?_ _ | refine blk_drew ?_ | refine blk_alloc ?_ _)); exact BK616.out)) : gb615 ≠ gb616))
                  clear HO_1
                  clear HO_5
                  clear BK599
                  clear BK614
                  clear BK616
                  clear HB
                  have HO_1 := n0_
                  have HO_5 := n1_
                  have BK599 := n2_
                  have BK614 := n3_
                  have BK616 := n4_
                  have HB := n5_
                  have BK615 := n6_
                  have GW615 := n7_
                  have GE615 := n8_
                  have NB599_615 := n9_
                  have NB615_599 := n10_
                  have NB614_615 := n11_
                  have NB615_614 := n12_
                  have NB616_615 := n13_
                  have NB615_616 := n14_
                  clear n0_ n1_ n2_ n3_ n4_ n5_ n6_ n7_ n8_ n9_ n10_ n11_ n12_ n13_ n14_
                  clear hb hbox hg
                  refine hK.out _ _ ⟨(blk_cell BK599.out 0).trans rfl, (blk_cell BK599.out 1).trans rfl⟩ (fun hHeld => ?_)
                  clear hK K
                  refine norm_ (a' := ?_) ?_ ?_
                  rotate_left
                  · show Act.put _ (some 8) _ = _
                    simp only [Act.put, List.setIfInBounds_toArray, List.set_cons_zero, List.set_cons_succ, i64_w, i32_w]
                    rfl
                  exact norm_ (by simp only [putAll, Act.put, List.setIfInBounds_toArray, List.set_cons_zero, List.set_cons_succ]) (hCont (gb615, gb616) _ ⟨hHeld, (by (with_reducible repeat (first | apply Kd.V_alloc | apply Kd.V_drewN | apply Kd.V_drew)); exact Kd.V_mono HO_1.out (fun _ hk => ⟨hk.1.1.1, ⟨hk.1.1.2.1, ⟨hk.1.1.2.2, ⟨hk.2, hk.1.2⟩⟩⟩⟩)), (by (with_reducible repeat (first | apply Kd.R_alloc | apply Kd.R_drewN | apply Kd.R_drew)); exact HO_5.out), (by (with_reducible repeat (first | refine blk_drewN ?_ _ | refine blk_drew ?_ | refine blk_alloc ?_ _)); exact BK599.out), (by (with_reducible repeat (first | refine blk_drewN ?_ _ | refine blk_drew ?_ | refine blk_alloc ?_ _)); exact BK614.out), (by (with_reducible repeat (first | refine blk_drewN ?_ _ | refine blk_drew ?_ | refine blk_alloc ?_ _)); exact BK615.out), (by (with_reducible repeat (first | refine blk_drewN ?_ _ | refine blk_drew ?_ | refine blk_alloc ?_ _)); exact BK616.out), GW615.out, GE615.out, NB599_615.out, NB615_599.out, NB614_615.out, NB615_614.out, NB616_615.out, NB615_616.out, GW616.out, GE616.out, NB599_616.out, NB616_599.out, NB614_616.out, NB616_614.out, (by repeat (first | (with_reducible first | exact HB.out | apply below_alloc | apply pw_below_drewN | apply below_drew1 | refine below_set ?_ GE599.out | refine below_set ?_ GE614.out | refine below_set ?_ GE616.out | refine below_set ?_ GE615.out) | exact HB.out))⟩)
              rintro ⟨gb615, gb616⟩ w39 ⟨hS_, h0_, h1_, h2_, h3_, h4_, h5_, h6_, h7_, h8_, h9_, h10_, h11_, h12_, h13_, h14_, h15_, h16_, h17_, h18_, h19_, h20_⟩
              have n0_ : Aside0 (Kd.V (Kd.int .i64) 3 w39 w.heap.size (fun k_ => some k_ ≠ (v609 : Value).ownBlock ∧ k_ ≠ gb599 ∧ k_ ≠ gb614 ∧ k_ ≠ gb615 ∧ k_ ≠ gb616) (.slice Ao28 t602.length co28) t602) := ⟨h0_⟩
              have n1_ : Aside0 (Kd.R (Kd.int .i64) 3 w39 w.heap.size (fun _ => True) v609 t608) := ⟨h1_⟩
              have n2_ : Aside0 (w39.heap[gb599]? = some (.cells #[.string t600, .int .i64 t601] 23 (0, 0))) := ⟨h2_⟩
              have n3_ : Aside0 (w39.heap[gb614]? = some (.cells #[.string t611, .int .i64 t612] 23 (0, 0))) := ⟨h3_⟩
              have n4_ : Aside0 (w39.heap[gb615]? = some (.cells #[.slice none 0 0, .int .i64 0] 49 (0, 0))) := ⟨h4_⟩
              have n5_ : Aside0 (w39.heap[gb616]? = some (.cells #[.string (⟨#[]⟩ : ByteArray), .int .i64 0] 23 (0, 0))) := ⟨h5_⟩
              have n6_ : Aside0 (w.heap.size ≤ gb615) := ⟨h6_⟩
              have n7_ : Aside0 (w.heap.size ≤ gb615) := ⟨h7_⟩
              have n8_ : Aside0 (gb599 ≠ gb615) := ⟨h8_⟩
              have n9_ : Aside0 (gb615 ≠ gb599) := ⟨h9_⟩
              have n10_ : Aside0 (gb614 ≠ gb615) := ⟨h10_⟩
              have n11_ : Aside0 (gb615 ≠ gb614) := ⟨h11_⟩
              have n12_ : Aside0 (gb616 ≠ gb615) := ⟨h12_⟩
              have n13_ : Aside0 (gb615 ≠ gb616) := ⟨h13_⟩
              have n14_ : Aside0 (w.heap.size ≤ gb616) := ⟨h14_⟩
              have n15_ : Aside0 (w.heap.size ≤ gb616) := ⟨h15_⟩
              have n16_ : Aside0 (gb599 ≠ gb616) := ⟨h16_⟩
              have n17_ : Aside0 (gb616 ≠ gb599) := ⟨h17_⟩
              have n18_ : Aside0 (gb614 ≠ gb616) := ⟨h18_⟩
              have n19_ : Aside0 (gb616 ≠ gb614) := ⟨h19_⟩
              have n20_ : Aside0 (Below w.heap.size w w39) := ⟨h20_⟩
              clear HO_1
              clear HO_5
              clear BK599
              clear BK614
              clear HB
              clear h0_ h1_ h2_ h3_ h4_ h5_ h6_ h7_ h8_ h9_ h10_ h11_ h12_ h13_ h14_ h15_ h16_ h17_ h18_ h19_ h20_
              have HO_1 := n0_
              have HO_5 := n1_
              have BK599 := n2_
              have BK614 := n3_
              have BK615 := n4_
              have BK616 := n5_
              have GW615 := n6_
              have GE615 := n7_
              have NB599_615 := n8_
              have NB615_599 := n9_
              have NB614_615 := n10_
              have NB615_614 := n11_
              have NB616_615 := n12_
              have NB615_616 := n13_
              have GW616 := n14_
              have GE616 := n15_
              have NB599_616 := n16_
              have NB616_599 := n17_
              have NB614_616 := n18_
              have NB616_614 := n19_
              have HB := n20_
              clear n0_ n1_ n2_ n3_ n4_ n5_ n6_ n7_ n8_ n9_ n10_ n11_ n12_ n13_ n14_ n15_ n16_ n17_ n18_ n19_ n20_
              have hHeld : w39.cell? ⟨gb599, 0, none⟩ = some (.string t600) ∧ w39.cell? ⟨gb599, 1, none⟩ = some (.int .i64 t601) := hS_
              refine norm_ (a' := ?_) ?_ ?_
              rotate_left
              · simp only [putAll, Act.put, List.setIfInBounds_toArray, List.set_cons_zero, List.set_cons_succ]
                rfl
              refine one_ (i := 4) (N := none) #[true, true, true, true, true, false] rfl rfl (by kernel_rfl) (by decide) (fun K hK => ?_)
              have hs40 : w39.cell? ⟨gb615, 0, none⟩ = some (.slice none 0 0) := (blk_cell BK615.out 0).trans rfl
              have hfs40 := blk_frozen BK615.out 0
              have hns40_0 := NB599_615.out
              have hns40_1 := NB614_615.out
              have hns40_3 := NB616_615.out
              have hms40_0 := NB615_599.out
              have hms40_1 := NB615_614.out
              have hms40_3 := NB615_616.out
              have hs41 : w39.cell? ⟨gb615, 1, none⟩ = some (.int .i64 0) := (blk_cell BK615.out 1).trans rfl
              have hfs41 := blk_frozen BK615.out 1
              have hns41_0 := NB599_615.out
              have hns41_1 := NB614_615.out
              have hns41_3 := NB616_615.out
              have hms41_0 := NB615_599.out
              have hms41_1 := NB615_614.out
              have hms41_3 := NB615_616.out
              refine skip_ (w1 := ?_) (by rfl) rfl ?_ ?_
              rotate_left
              · go_simp
                rfl
              refine hK.out _ _ ⟨((cell_far (p := ⟨gb615, _, none⟩) NB599_615.out _).trans (((cell_far (p := ⟨gb615, _, none⟩) NB599_615.out _).trans (hHeld.1)))), ((cell_far (p := ⟨gb615, _, none⟩) NB599_615.out _).trans (((cell_far (p := ⟨gb615, _, none⟩) NB599_615.out _).trans (hHeld.2))))⟩ (fun hHeld => ?_)
              clear hK K
              refine one_ (i := 5) (N := none) #[true, true, true, true, true, true] rfl rfl (by kernel_rfl) (by decide) (fun K hK => ?_)
              have hs42 : w39.cell? ⟨gb616, 0, none⟩ = some (.string (⟨#[]⟩ : ByteArray)) := (blk_cell BK616.out 0).trans rfl
              have hfs42 := blk_frozen BK616.out 0
              have hns42_0 := NB599_616.out
              have hns42_1 := NB614_616.out
              have hns42_2 := NB615_616.out
              have hms42_0 := NB616_599.out
              have hms42_1 := NB616_614.out
              have hms42_2 := NB616_615.out
              have hs43 : w39.cell? ⟨gb616, 1, none⟩ = some (.int .i64 0) := (blk_cell BK616.out 1).trans rfl
              have hfs43 := blk_frozen BK616.out 1
              have hns43_0 := NB599_616.out
              have hns43_1 := NB614_616.out
              have hns43_2 := NB615_616.out
              have hms43_0 := NB616_599.out
              have hms43_1 := NB616_614.out
              have hms43_2 := NB616_615.out
              refine skip_ (w1 := ?_) (by rfl) rfl ?_ ?_
              rotate_left
              · go_simp
                rfl
              refine hK.out _ _ ⟨((cell_far (p := ⟨gb616, _, none⟩) NB599_616.out _).trans (((cell_far (p := ⟨gb616, _, none⟩) NB599_616.out _).trans (hHeld.1)))), ((cell_far (p := ⟨gb616, _, none⟩) NB599_616.out _).trans (((cell_far (p := ⟨gb616, _, none⟩) NB599_616.out _).trans (hHeld.2))))⟩ (fun hHeld => ?_)
              clear hK K
              refine done_ (by kernel_rfl) ?_
              try go_wp2
              go_loopg [10] kj25 (fun kq v10 w' => ∃ (x10_3 : Int) (x616000_3 : List Int) (x616001_3 : Int) (x617000_3 : ByteArray) (x617001_3 : Int) (u616000 : Value), v10 = .int .i64 x10_3 ∧ Aside0 (tattlelaw08_TurnShuffles.l0 kq t602 t608 x10_3 t611 t612 x616000_3 x616001_3 x617000_3 x617001_3 = some r) ∧ Aside0 (kq ≤ kj25) ∧ Aside0 (Kd.V (Kd.int .i64) 3 w' w.heap.size (fun k_ => some k_ ≠ (v609 : Value).ownBlock ∧ k_ ≠ gb599 ∧ k_ ≠ gb614 ∧ k_ ≠ gb615 ∧ k_ ≠ gb616) (.slice Ao28 t602.length co28) t602) ∧ Aside0 (Kd.R (Kd.int .i64) 3 w' w.heap.size (fun _ => True) v609 t608) ∧ Aside0 (Kd.V (Kd.int .i64) 3 w' w.heap.size (fun k_ => some k_ ≠ (v609 : Value).ownBlock ∧ k_ ≠ gb599 ∧ k_ ≠ gb614 ∧ k_ ≠ gb615 ∧ k_ ≠ gb616) u616000 x616000_3) ∧ Aside0 (w'.heap[gb599]? = some (.cells #[.string t600, .int .i64 t601] 23 (0, 0))) ∧ Aside0 (w'.heap[gb614]? = some (.cells #[.string t611, .int .i64 t612] 23 (0, 0))) ∧ Aside0 (w'.heap[gb615]? = some (.cells #[u616000, .int .i64 x616001_3] 49 (0, 0))) ∧ Aside0 (w'.heap[gb616]? = some (.cells #[.string x617000_3, .int .i64 x617001_3] 23 (0, 0))) ∧ Aside0 (Below w.heap.size w w'))
              case atStart => exact ⟨(0), (([] : List Int)), (0), (t600), (t601), (.slice none 0 0), (by first | rfl | (simp; done) | (simp [*]; done)), H', ⟨Nat.le_refl _⟩, ⟨by (with_reducible repeat (first | apply Kd.V_alloc | apply Kd.V_drewN | apply Kd.V_drew)); exact Kd.V_mono (Kd.V_far (p := ⟨gb616, 1, none⟩) (Kd.V_far (p := ⟨gb616, 0, none⟩) (Kd.V_far (p := ⟨gb615, 1, none⟩) (Kd.V_far (p := ⟨gb615, 0, none⟩) (Kd.V_mono (Kd.V_mono HO_1.out (fun k_ hk => (⟨hk, hk.2.2.2.1⟩ : _ ∧ k_ ≠ gb615))) (fun k_ hk => (⟨hk, hk.1.2.2.2.2⟩ : _ ∧ k_ ≠ gb616))) (fun _ hk => hk.1.2) (.slice none 0 0)) (fun _ hk => hk.1.2) (.int .i64 0)) (fun _ hk => hk.2) (.string t600)) (fun _ hk => hk.2) (.int .i64 t601)) (fun _ hk => ⟨hk.1.1.1, ⟨hk.1.1.2.1, ⟨hk.1.1.2.2.1, ⟨hk.1.1.2.2.2.1, hk.1.1.2.2.2.2⟩⟩⟩⟩)⟩, ⟨by (with_reducible repeat (first | apply Kd.R_alloc | apply Kd.R_drewN | apply Kd.R_drew)); exact Kd.R_mono (Kd.R_far (p := ⟨gb616, 1, none⟩) (Kd.R_far (p := ⟨gb616, 0, none⟩) (Kd.R_far (p := ⟨gb615, 1, none⟩) (Kd.R_far (p := ⟨gb615, 0, none⟩) (Kd.R_types (Kd.R_types HO_5.out BK615.out (by decide)) BK616.out (by decide)) (fun _ hk => hk.1.2) (.slice none 0 0)) (fun _ hk => hk.1.2) (.int .i64 0)) (fun _ hk => hk.2) (.string t600)) (fun _ hk => hk.2) (.int .i64 t601)) (fun _ hk => trivial)⟩, ⟨Kd.R_V (base := 0) (by first | exact Kd.R_nil _ _ _ _ _ | exact Kd.N_nil _ _ _ _ _ | exact Kd.V_nil _ _ _ _ _ | exact Kd.Q_nil _ _ _ _ _ | exact Kd.S_nil _ _ _ _ _)⟩, ⟨by (with_reducible repeat (first | refine blk_drewN ?_ _ | refine blk_drew ?_ | refine blk_alloc ?_ _)); refine blk_far ?_ NB599_616.out _; (with_reducible repeat (first | refine blk_drewN ?_ _ | refine blk_drew ?_ | refine blk_alloc ?_ _)); refine blk_far ?_ NB599_616.out _; (with_reducible repeat (first | refine blk_drewN ?_ _ | refine blk_drew ?_ | refine blk_alloc ?_ _)); refine blk_far ?_ NB599_615.out _; (with_reducible repeat (first | refine blk_drewN ?_ _ | refine blk_drew ?_ | refine blk_alloc ?_ _)); refine blk_far ?_ NB599_615.out _; (with_reducible repeat (first | refine blk_drewN ?_ _ | refine blk_drew ?_ | refine blk_alloc ?_ _)); exact BK599.out⟩, ⟨by (with_reducible repeat (first | refine blk_drewN ?_ _ | refine blk_drew ?_ | refine blk_alloc ?_ _)); refine blk_far ?_ NB614_616.out _; (with_reducible repeat (first | refine blk_drewN ?_ _ | refine blk_drew ?_ | refine blk_alloc ?_ _)); refine blk_far ?_ NB614_616.out _; (with_reducible repeat (first | refine blk_drewN ?_ _ | refine blk_drew ?_ | refine blk_alloc ?_ _)); refine blk_far ?_ NB614_615.out _; (with_reducible repeat (first | refine blk_drewN ?_ _ | refine blk_drew ?_ | refine blk_alloc ?_ _)); refine blk_far ?_ NB614_615.out _; (with_reducible repeat (first | refine blk_drewN ?_ _ | refine blk_drew ?_ | refine blk_alloc ?_ _)); exact BK614.out⟩, ⟨by (with_reducible repeat (first | refine blk_drewN ?_ _ | refine blk_drew ?_ | refine blk_alloc ?_ _)); refine blk_far ?_ NB615_616.out _; (with_reducible repeat (first | refine blk_drewN ?_ _ | refine blk_drew ?_ | refine blk_alloc ?_ _)); refine blk_far ?_ NB615_616.out _; (with_reducible repeat (first | refine blk_drewN ?_ _ | refine blk_drew ?_ | refine blk_alloc ?_ _)); refine blk_put (cs := #[.slice none 0 0, .int .i64 0]) ?_ 1 _ rfl; (with_reducible repeat (first | refine blk_drewN ?_ _ | refine blk_drew ?_ | refine blk_alloc ?_ _)); refine blk_put (cs := #[.slice none 0 0, .int .i64 0]) ?_ 0 _ rfl; (with_reducible repeat (first | refine blk_drewN ?_ _ | refine blk_drew ?_ | refine blk_alloc ?_ _)); exact BK615.out⟩, ⟨by (with_reducible repeat (first | refine blk_drewN ?_ _ | refine blk_drew ?_ | refine blk_alloc ?_ _)); refine blk_put (cs := #[.string t600, .int .i64 0]) ?_ 1 _ rfl; (with_reducible repeat (first | refine blk_drewN ?_ _ | refine blk_drew ?_ | refine blk_alloc ?_ _)); refine blk_put (cs := #[.string (⟨#[]⟩ : ByteArray), .int .i64 0]) ?_ 0 _ rfl; (with_reducible repeat (first | refine blk_drewN ?_ _ | refine blk_drew ?_ | refine blk_alloc ?_ _)); refine blk_far ?_ NB616_615.out _; (with_reducible repeat (first | refine blk_drewN ?_ _ | refine blk_drew ?_ | refine blk_alloc ?_ _)); refine blk_far ?_ NB616_615.out _; (with_reducible repeat (first | refine blk_drewN ?_ _ | refine blk_drew ?_ | refine blk_alloc ?_ _)); exact BK616.out⟩, ⟨by repeat (first | (with_reducible first | exact HB.out | apply below_alloc | apply pw_below_drewN | apply below_drew1 | refine below_set ?_ GE599.out | refine below_set ?_ GE614.out | refine below_set ?_ GE615.out | refine below_set ?_ GE616.out) | exact HB.out)⟩⟩
              case round =>
                clear H'
                try clear c1
                try clear c2
                try clear p2
                try clear c3
                try clear c11
                try clear c11b0
                try clear c11b1
                try clear c12
                try clear c14
                try clear c14b0
                try clear c14b1
                try clear c20
                try clear c22
                try clear c27
                try clear c30
                try clear c31
                try clear c33
                try clear c33b0
                try clear c33b1
                try clear c35
                try clear hcz10_0
                try clear hcz10_1
                try clear hcz18_0
                try clear hcz18_1
                try clear hcz27_0
                try clear hcz27_1
                try clear hcz32_0
                try clear hcz32_1
                try clear hcz7_0
                try clear hcz7_1
                try clear hfz10_0
                try clear hfz10_1
                try clear hfz18_0
                try clear hfz18_1
                try clear hfz27_0
                try clear hfz27_1
                try clear hfz32_0
                try clear hfz32_1
                try clear hfz7_0
                try clear hfz7_1
                try clear p2
                obtain ⟨x10_3, x616000_3, x616001_3, x617000_3, x617001_3, u616000, rfl, HA, HK3, HO_1, HO_5, HO_616000, BK599, BK614, BK615, BK616, HB⟩ := hrel
                cases gk with
                | zero => exact absurd HA.out (by simp [tattlelaw08_TurnShuffles.l0])
                | succ k3 =>
                  have H := HA.out
                  clear HA
                  simp only [tattlelaw08_TurnShuffles.l0] at H
                  by_cases c44 : x10_3 < (t602.length : Int)
                  · rw [if_pos c44] at H
                    have c44b0 : decide (x10_3 < (t602.length : Int)) = true := decide_eq_true c44
                    clear c44
                    replace H := Option.bind_eq_some_iff.mp H
                    obtain ⟨⟨t617, t618, t621, t622, t623, t624⟩, A450, H⟩ := H
                    replace H : (if t624 = 0 then (if 0 ≤ x10_3 then (if x10_3 < (t608.length : Int) then (if t617 = (rd t608 x10_3) then (if (!(t622.toList == t611.toList) || (!(t623 == t612))) = true then (some false) else (tattlelaw08_TurnShuffles.l0 k3 t602 t608 (wrap64 (x10_3 + 1)) t611 t612 t618 t621 t622 t623)) else (some false)) else (none)) else (none)) else (some false)) = some r := H
                    have A45 := Aside0.mk A450
                    clear A450
                    by_cases c46 : t624 = 0
                    · rw [if_pos c46] at H
                      have c46b0 : (t624 == 0) = true := beq_iff_eq.mpr c46
                      have c46b1 : (t624 != 0) = false := bne_eq_false_iff_eq.mpr c46
                      clear c46
                      by_cases c47 : 0 ≤ x10_3
                      · rw [if_pos c47] at H
                        have c47b0 : decide (0 ≤ x10_3) = true := decide_eq_true c47
                        clear c47
                        by_cases c48 : x10_3 < (t608.length : Int)
                        · rw [if_pos c48] at H
                          have c48b0 : decide (x10_3 < (t608.length : Int)) = true := decide_eq_true c48
                          clear c48
                          by_cases c49 : t617 = (rd t608 x10_3)
                          · rw [if_pos c49] at H
                            have c49b0 : (t617 == (rd t608 x10_3)) = true := beq_iff_eq.mpr c49
                            have c49b1 : (t617 != (rd t608 x10_3)) = false := bne_eq_false_iff_eq.mpr c49
                            clear c49
                            by_cases c50 : (!(t622.toList == t611.toList) || (!(t623 == t612))) = true
                            · rw [if_pos c50] at H
                              have c50b0 : (!(t622.toList == t611.toList) || (!(t623 == t612))) = true := c50
                              clear c50
                              exact absurd ((Option.some.inj H).trans hrt.out) (by decide)
                            · rw [if_neg c50] at H
                              have c50b0 : (!(t622.toList == t611.toList) || (!(t623 == t612))) = false := by simpa using c50
                              clear c50
                              have H' := Aside0.mk H
                              clear H
                              have hnb51 := NB615_599.out
                              have hnc51 := NB599_615.out
                              have hnb52 := NB615_614.out
                              have hnc52 := NB614_615.out
                              have hnb53 := NB615_616.out
                              have hnc53 := NB616_615.out
                              have hcz54_0 : wr.cell? ⟨gb615, 0, none⟩ = some (u616000) := (blk_cell BK615.out 0).trans rfl
                              have hcz54_1 : wr.cell? ⟨gb615, 1, none⟩ = some (.int .i64 x616001_3) := (blk_cell BK615.out 1).trans rfl
                              have hfz54_0 := blk_frozen BK615.out 0
                              have hfz54_1 := blk_frozen BK615.out 1
                              have hnb55 := NB616_599.out
                              have hnc55 := NB599_616.out
                              have hnb56 := NB616_614.out
                              have hnc56 := NB614_616.out
                              have hcz57_0 : wr.cell? ⟨gb616, 0, none⟩ = some (.string x617000_3) := (blk_cell BK616.out 0).trans rfl
                              have hcz57_1 : wr.cell? ⟨gb616, 1, none⟩ = some (.int .i64 x617001_3) := (blk_cell BK616.out 1).trans rfl
                              have hfz57_0 := blk_frozen BK616.out 0
                              have hfz57_1 := blk_frozen BK616.out 1
                              obtain ⟨Ao58, co58, eo58⟩ := Kd.V_slice HO_616000.out
                              subst eo58
                              try go_wp2_with (first | ((with_reducible refine gate_callee (f := 31) rfl ?_); refine goesL_ (some 61) rfl rfl Try.func31 (by kernel_rfl) rfl #[.agg #[.slice Ao58 x616000_3.length co58, .int .i64 x616001_3], .agg #[.string x617000_3, .int .i64 x617001_3], .slice Ao28 t602.length co28] rfl (by (try simp only [List.map_toArray, List.map_cons, List.map_nil]); first | done | rfl | (simp only [List.length_drop, List.length_take]; rfl)) ?_; (with_reducible refine (turn_Next.calls k3 (fun k_ => (some k_ ≠ (v609 : Value).ownBlock ∧ (k_ ≠ gb599 ∧ (k_ ≠ gb614 ∧ (k_ ≠ gb615 ∧ k_ ≠ gb616))))) _ _ x616000_3 x616001_3 x617000_3 x617001_3 _ _ t602 t617 t618 t621 t622 t623 t624 _ ?side1 ?side2 ?side3 A45.out).mono ?_); (case side1 => exact HO_616000.out); (case side2 => repeat (first | exact (Kd.V_reads' HO_1.out).2.2 | (with_reducible refine Kd.C_alloc ?_ _) | (with_reducible refine Kd.C_drewN ?_ _) | (with_reducible refine Kd.C_drew ?_))); (case side3 => exact (Kd.V_reads' HO_1.out).2.1); rintro e w59 ⟨v619, rfl, ho0, hb⟩; refine ⟨_, rfl, ?_⟩; have n0_ := Aside0.mk (Kd.V_below (by (with_reducible repeat (first | apply Kd.V_alloc | apply Kd.V_drewN | apply Kd.V_drew)); exact HO_1.out) hb); have n1_ := Aside0.mk (Kd.R_below (by (with_reducible repeat (first | apply Kd.R_alloc | apply Kd.R_drewN | apply Kd.R_drew)); exact HO_5.out) hb); have n2_ := Aside0.mk (Kd.V_below (by (with_reducible repeat (first | apply Kd.V_alloc | apply Kd.V_drewN | apply Kd.V_drew)); exact HO_616000.out) hb); have n3_ := Aside0.mk (Kd.V_lower (Kd.V_mono (ok' := fun k_ => some k_ ≠ (v609 : Value).ownBlock ∧ k_ ≠ gb599 ∧ k_ ≠ gb614 ∧ k_ ≠ gb615 ∧ k_ ≠ gb616) ho0 (fun k_ hk_ => ⟨Or.elim hk_ (fun hs_ => hs_.1) (fun hn_ => (Kd.fresh' (Kd.R_lt (by (with_reducible repeat (first | apply Kd.R_alloc | apply Kd.R_drewN | apply Kd.R_drew)); exact HO_5.out)) k_ hn_)), Or.elim hk_ (fun hs_ => hs_.2.1) (fun hn_ => (Kd.freshB (g := gb599) (o := .cells #[.string t600, .int .i64 t601] 23 (0, 0)) (by (with_reducible repeat (first | refine blk_drewN ?_ _ | refine blk_drew ?_ | refine blk_alloc ?_ _)); exact BK599.out) k_ hn_)), Or.elim hk_ (fun hs_ => hs_.2.2.1) (fun hn_ => (Kd.freshB (g := gb614) (o := .cells #[.string t611, .int .i64 t612] 23 (0, 0)) (by (with_reducible repeat (first | refine blk_drewN ?_ _ | refine blk_drew ?_ | refine blk_alloc ?_ _)); exact BK614.out) k_ hn_)), Or.elim hk_ (fun hs_ => hs_.2.2.2.1) (fun hn_ => (Kd.freshB (g := gb615) (o := .cells #[.slice Ao58 x616000_3.length co58, .int .i64 x616001_3] 49 (0, 0)) (by (with_reducible repeat (first | refine blk_drewN ?_ _ | refine blk_drew ?_ | refine blk_alloc ?_ _)); exact BK615.out) k_ hn_)), Or.elim hk_ (fun hs_ => hs_.2.2.2.2) (fun hn_ => (Kd.freshB (g := gb616) (o := .cells #[.string x617000_3, .int .i64 x617001_3] 23 (0, 0)) (by (with_reducible repeat (first | refine blk_drewN ?_ _ | refine blk_drew ?_ | refine blk_alloc ?_ _)); exact BK616.out) k_ hn_))⟩)) (below_size (by repeat (first | (with_reducible first | exact HB.out | apply below_alloc | apply pw_below_drewN | apply below_drew1 | refine below_set ?_ GE599.out | refine below_set ?_ GE614.out | refine below_set ?_ GE615.out | refine below_set ?_ GE616.out) | exact HB.out)))); have n4_ := Aside0.mk (blk_below (g := gb599) (o := .cells #[.string t600, .int .i64 t601] 23 (0, 0)) (by (with_reducible repeat (first | refine blk_drewN ?_ _ | refine blk_drew ?_ | refine blk_alloc ?_ _)); exact BK599.out) hb); have n5_ := Aside0.mk (blk_below (g := gb614) (o := .cells #[.string t611, .int .i64 t612] 23 (0, 0)) (by (with_reducible repeat (first | refine blk_drewN ?_ _ | refine blk_drew ?_ | refine blk_alloc ?_ _)); exact BK614.out) hb); have n6_ := Aside0.mk (blk_below (g := gb615) (o := .cells #[.slice Ao58 x616000_3.length co58, .int .i64 x616001_3] 49 (0, 0)) (by (with_reducible repeat (first | refine blk_drewN ?_ _ | refine blk_drew ?_ | refine blk_alloc ?_ _)); exact BK615.out) hb); have n7_ := Aside0.mk (blk_below (g := gb616) (o := .cells #[.string x617000_3, .int .i64 x617001_3] 23 (0, 0)) (by (with_reducible repeat (first | refine blk_drewN ?_ _ | refine blk_drew ?_ | refine blk_alloc ?_ _)); exact BK616.out) hb); have n8_ := Aside0.mk (below_step (by repeat (first | (with_reducible first | exact HB.out | apply below_alloc | apply pw_below_drewN | apply below_drew1 | refine below_set ?_ GE599.out | refine below_set ?_ GE614.out | refine below_set ?_ GE615.out | refine below_set ?_ GE616.out) | exact HB.out)) hb); clear HO_1; clear HO_5; clear HO_616000; clear BK599; clear BK614; clear BK615; clear BK616; clear HB; have HO_1 := n0_; have HO_5 := n1_; have HO_616000 := n2_; have HO620 := n3_; have BK599 := n4_; have BK614 := n5_; have BK615 := n6_; have BK616 := n7_; have HB := n8_; clear n0_ n1_ n2_ n3_ n4_ n5_ n6_ n7_ n8_; (try clear hb); (try clear hb2); (try clear hk); (try clear hi); (try clear ho0)) | ((with_reducible refine gate_dst (N := 12) rfl ?_); (try (refine gate_guard (by rfl) ?_; dsimp only)); refine box_event ?hg (N := 12) ?hd (cs := #[.slice none 0 0, .int .i64 0]) (t := 49) ?hr ?_; (case hd => rfl); (case hg => rfl); (case hr => first | (go_simp; done) | (go_simp; rfl)); intro gb625 hg w60 hbox hb; have n0_ := Aside0.mk (Kd.V_below (Kd.V_elderB (by (with_reducible repeat (first | apply Kd.V_alloc | apply Kd.V_drewN | apply Kd.V_drew)); exact HO_1.out) gb625 (Nat.le_of_eq hg.symm)) hb); have n1_ := Aside0.mk (Kd.R_below (by (with_reducible repeat (first | apply Kd.R_alloc | apply Kd.R_drewN | apply Kd.R_drew)); exact HO_5.out) hb); have n2_ := Aside0.mk (Kd.V_below (Kd.V_elderB (by (with_reducible repeat (first | apply Kd.V_alloc | apply Kd.V_drewN | apply Kd.V_drew)); exact HO_616000.out) gb625 (Nat.le_of_eq hg.symm)) hb); have n3_ := Aside0.mk (Kd.V_below (Kd.V_elderB (by (with_reducible repeat (first | apply Kd.V_alloc | apply Kd.V_drewN | apply Kd.V_drew)); exact HO620.out) gb625 (Nat.le_of_eq hg.symm)) hb); have n4_ := Aside0.mk (blk_below (g := gb599) (o := .cells #[.string t600, .int .i64 t601] 23 (0, 0)) (by (with_reducible repeat (first | refine blk_drewN ?_ _ | refine blk_drew ?_ | refine blk_alloc ?_ _)); exact BK599.out) hb); have n5_ := Aside0.mk (blk_below (g := gb614) (o := .cells #[.string t611, .int .i64 t612] 23 (0, 0)) (by (with_reducible repeat (first | refine blk_drewN ?_ _ | refine blk_drew ?_ | refine blk_alloc ?_ _)); exact BK614.out) hb); have n6_ := Aside0.mk (blk_below (g := gb615) (o := .cells #[.slice Ao58 x616000_3.length co58, .int .i64 x616001_3] 49 (0, 0)) (by (with_reducible repeat (first | refine blk_drewN ?_ _ | refine blk_drew ?_ | refine blk_alloc ?_ _)); exact BK615.out) hb); have n7_ := Aside0.mk (blk_below (g := gb616) (o := .cells #[.string x617000_3, .int .i64 x617001_3] 23 (0, 0)) (by (with_reducible repeat (first | refine blk_drewN ?_ _ | refine blk_drew ?_ | refine blk_alloc ?_ _)); exact BK616.out) hb); have n8_ := Aside0.mk (below_step (by repeat (first | (with_reducible first | exact HB.out | apply below_alloc | apply pw_below_drewN | apply below_drew1 | refine below_set ?_ GE599.out | refine below_set ?_ GE614.out | refine below_set ?_ GE615.out | refine below_set ?_ GE616.out) | exact HB.out)) hb); have n9_ := Aside0.mk (hbox); have n10_ := Aside0.mk ((by rw [hg]; exact (below_size (by repeat (first | (with_reducible first | exact HB.out | apply below_alloc | apply pw_below_drewN | apply below_drew1 | refine below_set ?_ GE599.out | refine below_set ?_ GE614.out | refine below_set ?_ GE615.out | refine below_set ?_ GE616.out) | exact HB.out))) : w.heap.size ≤ gb625)); have n11_ := Aside0.mk ((by rw [hg]; exact (below_size (by repeat (first | (with_reducible first | exact HB.out | apply below_alloc | apply pw_below_drewN | apply below_drew1 | refine below_set ?_ GE599.out | refine below_set ?_ GE614.out | refine below_set ?_ GE615.out | refine below_set ?_ GE616.out) | exact HB.out))) : w.heap.size ≤ gb625)); have n12_ := Aside0.mk ((by rw [hg]; exact Nat.ne_of_lt (blk_lt (g := gb599) (o := .cells #[.string t600, .int .i64 t601] 23 (0, 0)) (by (with_reducible repeat (first | refine blk_drewN ?_ _ | refine blk_drew ?_ | refine blk_alloc ?_ _)); exact BK599.out)) : gb599 ≠ gb625)); have n13_ := Aside0.mk ((by rw [hg]; exact Nat.ne_of_gt (blk_lt (g := gb599) (o := .cells #[.string t600, .int .i64 t601] 23 (0, 0)) (by (with_reducible repeat (first | refine blk_drewN ?_ _ | refine blk_drew ?_ | refine blk_alloc ?_ _)); exact BK599.out)) : gb625 ≠ gb599)); have n14_ := Aside0.mk ((by rw [hg]; exact Nat.ne_of_lt (blk_lt (g := gb614) (o := .cells #[.string t611, .int .i64 t612] 23 (0, 0)) (by (with_reducible repeat (first | refine blk_drewN ?_ _ | refine blk_drew ?_ | refine blk_alloc ?_ _)); exact BK614.out)) : gb614 ≠ gb625)); have n15_ := Aside0.mk ((by rw [hg]; exact Nat.ne_of_gt (blk_lt (g := gb614) (o := .cells #[.string t611, .int .i64 t612] 23 (0, 0)) (by (with_reducible repeat (first | refine blk_drewN ?_ _ | refine blk_drew ?_ | refine blk_alloc ?_ _)); exact BK614.out)) : gb625 ≠ gb614)); have n16_ := Aside0.mk ((by rw [hg]; exact Nat.ne_of_lt (blk_lt (g := gb615) (o := .cells #[.slice Ao58 x616000_3.length co58, .int .i64 x616001_3] 49 (0, 0)) (by (with_reducible repeat (first | refine blk_drewN ?_ _ | refine blk_drew ?_ | refine blk_alloc ?_ _)); exact BK615.out)) : gb615 ≠ gb625)); have n17_ := Aside0.mk ((by rw [hg]; exact Nat.ne_of_gt (blk_lt (g := gb615) (o := .cells #[.slice Ao58 x616000_3.length co58, .int .i64 x616001_3] 49 (0, 0)) (by (with_reducible repeat (first | refine blk_drewN ?_ _ | refine blk_drew ?_ | refine blk_alloc ?_ _)); exact BK615.out)) : gb625 ≠ gb615)); have n18_ := Aside0.mk ((by rw [hg]; exact Nat.ne_of_lt (blk_lt (g := gb616) (o := .cells #[.string x617000_3, .int .i64 x617001_3] 23 (0, 0)) (by (with_reducible repeat (first | refine blk_drewN ?_ _ | refine blk_drew ?_ | refine blk_alloc ?_ _)); exact BK616.out)) : gb616 ≠ gb625)); have n19_ := Aside0.mk ((by rw [hg]; exact Nat.ne_of_gt (blk_lt (g := gb616) (o := .cells #[.string x617000_3, .int .i64 x617001_3] 23 (0, 0)) (by (with_reducible repeat (first | refine blk_drewN ?_ _ | refine blk_drew ?_ | refine blk_alloc ?_ _)); exact BK616.out)) : gb625 ≠ gb616)); clear HO_1; clear HO_5; clear HO_616000; clear HO620; clear BK599; clear BK614; clear BK615; clear BK616; clear HB; have HO_1 := n0_; have HO_5 := n1_; have HO_616000 := n2_; have HO620 := n3_; have BK599 := n4_; have BK614 := n5_; have BK615 := n6_; have BK616 := n7_; have HB := n8_; have BK625 := n9_; have GW625 := n10_; have GE625 := n11_; have NB599_625 := n12_; have NB625_599 := n13_; have NB614_625 := n14_; have NB625_614 := n15_; have NB615_625 := n16_; have NB625_615 := n17_; have NB616_625 := n18_; have NB625_616 := n19_; clear n0_ n1_ n2_ n3_ n4_ n5_ n6_ n7_ n8_ n9_ n10_ n11_ n12_ n13_ n14_ n15_ n16_ n17_ n18_ n19_; clear hb hbox hg) | ((with_reducible refine gate_dst (N := 13) rfl ?_); (try (refine gate_guard (by rfl) ?_; dsimp only)); refine box_event ?hg (N := 13) ?hd (cs := #[.string (⟨#[]⟩ : ByteArray), .int .i64 0]) (t := 23) ?hr ?_; (case hd => rfl); (case hg => rfl); (case hr => first | (go_simp; done) | (go_simp; rfl)); intro gb626 hg w61 hbox hb; have n0_ := Aside0.mk (Kd.V_below (Kd.V_elderB (by (with_reducible repeat (first | apply Kd.V_alloc | apply Kd.V_drewN | apply Kd.V_drew)); exact HO_1.out) gb626 (Nat.le_of_eq hg.symm)) hb); have n1_ := Aside0.mk (Kd.R_below (by (with_reducible repeat (first | apply Kd.R_alloc | apply Kd.R_drewN | apply Kd.R_drew)); exact HO_5.out) hb); have n2_ := Aside0.mk (Kd.V_below (Kd.V_elderB (by (with_reducible repeat (first | apply Kd.V_alloc | apply Kd.V_drewN | apply Kd.V_drew)); exact HO_616000.out) gb626 (Nat.le_of_eq hg.symm)) hb); have n3_ := Aside0.mk (Kd.V_below (Kd.V_elderB (by (with_reducible repeat (first | apply Kd.V_alloc | apply Kd.V_drewN | apply Kd.V_drew)); exact HO620.out) gb626 (Nat.le_of_eq hg.symm)) hb); have n4_ := Aside0.mk (blk_below (g := gb599) (o := .cells #[.string t600, .int .i64 t601] 23 (0, 0)) (by (with_reducible repeat (first | refine blk_drewN ?_ _ | refine blk_drew ?_ | refine blk_alloc ?_ _)); exact BK599.out) hb); have n5_ := Aside0.mk (blk_below (g := gb614) (o := .cells #[.string t611, .int .i64 t612] 23 (0, 0)) (by (with_reducible repeat (first | refine blk_drewN ?_ _ | refine blk_drew ?_ | refine blk_alloc ?_ _)); exact BK614.out) hb); have n6_ := Aside0.mk (blk_below (g := gb615) (o := .cells #[.slice Ao58 x616000_3.length co58, .int .i64 x616001_3] 49 (0, 0)) (by (with_reducible repeat (first | refine blk_drewN ?_ _ | refine blk_drew ?_ | refine blk_alloc ?_ _)); exact BK615.out) hb); have n7_ := Aside0.mk (blk_below (g := gb616) (o := .cells #[.string x617000_3, .int .i64 x617001_3] 23 (0, 0)) (by (with_reducible repeat (first | refine blk_drewN ?_ _ | refine blk_drew ?_ | refine blk_alloc ?_ _)); exact BK616.out) hb); have n8_ := Aside0.mk (blk_below (g := gb625) (o := .cells #[.slice none 0 0, .int .i64 0] 49 (0, 0)) (by (with_reducible repeat (first | refine blk_drewN ?_ _ | refine blk_drew ?_ | refine blk_alloc ?_ _)); exact BK625.out) hb); have n9_ := Aside0.mk (below_step (by repeat (first | (with_reducible first | exact HB.out | apply below_alloc | apply pw_below_drewN | apply below_drew1 | refine below_set ?_ GE599.out | refine below_set ?_ GE614.out | refine below_set ?_ GE615.out | refine below_set ?_ GE616.out | refine below_set ?_ GE625.out) | exact HB.out)) hb); have n10_ := Aside0.mk (hbox); have n11_ := Aside0.mk ((by rw [hg]; exact (below_size (by repeat (first | (with_reducible first | exact HB.out | apply below_alloc | apply pw_below_drewN | apply below_drew1 | refine below_set ?_ GE599.out | refine below_set ?_ GE614.out | refine below_set ?_ GE615.out | refine below_set ?_ GE616.out | refine below_set ?_ GE625.out) | exact HB.out))) : w.heap.size ≤ gb626)); have n12_ := Aside0.mk ((by rw [hg]; exact (below_size (by repeat (first | (with_reducible first | exact HB.out | apply below_alloc | apply pw_below_drewN | apply below_drew1 | refine below_set ?_ GE599.out | refine below_set ?_ GE614.out | refine below_set ?_ GE615.out | refine below_set ?_ GE616.out | refine below_set ?_ GE625.out) | exact HB.out))) : w.heap.size ≤ gb626)); have n13_ := Aside0.mk ((by rw [hg]; exact Nat.ne_of_lt (blk_lt (g := gb599) (o := .cells #[.string t600, .int .i64 t601] 23 (0, 0)) (by (with_reducible repeat (first | refine blk_drewN ?_ _ | refine blk_drew ?_ | refine blk_alloc ?_ _)); exact BK599.out)) : gb599 ≠ gb626)); have n14_ := Aside0.mk ((by rw [hg]; exact Nat.ne_of_gt (blk_lt (g := gb599) (o := .cells #[.string t600, .int .i64 t601] 23 (0, 0)) (by (with_reducible repeat (first | refine blk_drewN ?_ _ | refine blk_drew ?_ | refine blk_alloc ?_ _)); exact BK599.out)) : gb626 ≠ gb599)); have n15_ := Aside0.mk ((by rw [hg]; exact Nat.ne_of_lt (blk_lt (g := gb614) (o := .cells #[.string t611, .int .i64 t612] 23 (0, 0)) (by (with_reducible repeat (first | refine blk_drewN ?_ _ | refine blk_drew ?_ | refine blk_alloc ?_ _)); exact BK614.out)) : gb614 ≠ gb626)); have n16_ := Aside0.mk ((by rw [hg]; exact Nat.ne_of_gt (blk_lt (g := gb614) (o := .cells #[.string t611, .int .i64 t612] 23 (0, 0)) (by (with_reducible repeat (first | refine blk_drewN ?_ _ | refine blk_drew ?_ | refine blk_alloc ?_ _)); exact BK614.out)) : gb626 ≠ gb614)); have n17_ := Aside0.mk ((by rw [hg]; exact Nat.ne_of_lt (blk_lt (g := gb615) (o := .cells #[.slice Ao58 x616000_3.length co58, .int .i64 x616001_3] 49 (0, 0)) (by (with_reducible repeat (first | refine blk_drewN ?_ _ | refine blk_drew ?_ | refine blk_alloc ?_ _)); exact BK615.out)) : gb615 ≠ gb626)); have n18_ := Aside0.mk ((by rw [hg]; exact Nat.ne_of_gt (blk_lt (g := gb615) (o := .cells #[.slice Ao58 x616000_3.length co58, .int .i64 x616001_3] 49 (0, 0)) (by (with_reducible repeat (first | refine blk_drewN ?_ _ | refine blk_drew ?_ | refine blk_alloc ?_ _)); exact BK615.out)) : gb626 ≠ gb615)); have n19_ := Aside0.mk ((by rw [hg]; exact Nat.ne_of_lt (blk_lt (g := gb616) (o := .cells #[.string x617000_3, .int .i64 x617001_3] 23 (0, 0)) (by (with_reducible repeat (first | refine blk_drewN ?_ _ | refine blk_drew ?_ | refine blk_alloc ?_ _)); exact BK616.out)) : gb616 ≠ gb626)); have n20_ := Aside0.mk ((by rw [hg]; exact Nat.ne_of_gt (blk_lt (g := gb616) (o := .cells #[.string x617000_3, .int .i64 x617001_3] 23 (0, 0)) (by (with_reducible repeat (first | refine blk_drewN ?_ _ | refine blk_drew ?_ | refine blk_alloc ?_ _)); exact BK616.out)) : gb626 ≠ gb616)); have n21_ := Aside0.mk ((by rw [hg]; exact Nat.ne_of_lt (blk_lt (g := gb625) (o := .cells #[.slice none 0 0, .int .i64 0] 49 (0, 0)) (by (with_reducible repeat (first | refine blk_drewN ?_ _ | refine blk_drew ?_ | refine blk_alloc ?_ _)); exact BK625.out)) : gb625 ≠ gb626)); have n22_ := Aside0.mk ((by rw [hg]; exact Nat.ne_of_gt (blk_lt (g := gb625) (o := .cells #[.slice none 0 0, .int .i64 0] 49 (0, 0)) (by (with_reducible repeat (first | refine blk_drewN ?_ _ | refine blk_drew ?_ | refine blk_alloc ?_ _)); exact BK625.out)) : gb626 ≠ gb625)); clear HO_1; clear HO_5; clear HO_616000; clear HO620; clear BK599; clear BK614; clear BK615; clear BK616; clear BK625; clear HB; have HO_1 := n0_; have HO_5 := n1_; have HO_616000 := n2_; have HO620 := n3_; have BK599 := n4_; have BK614 := n5_; have BK615 := n6_; have BK616 := n7_; have BK625 := n8_; have HB := n9_; have BK626 := n10_; have GW626 := n11_; have GE626 := n12_; have NB599_626 := n13_; have NB626_599 := n14_; have NB614_626 := n15_; have NB626_614 := n16_; have NB615_626 := n17_; have NB626_615 := n18_; have NB616_626 := n19_; have NB626_616 := n20_; have NB625_626 := n21_; have NB626_625 := n22_; clear n0_ n1_ n2_ n3_ n4_ n5_ n6_ n7_ n8_ n9_ n10_ n11_ n12_ n13_ n14_ n15_ n16_ n17_ n18_ n19_ n20_ n21_ n22_; clear hb hbox hg; obtain ⟨Ao62, co62, eo62⟩ := Kd.V_slice HO620.out; subst eo62; have hnb63 := NB625_599.out; have hnc63 := NB599_625.out; have hnb64 := NB625_614.out; have hnc64 := NB614_625.out; have hnb65 := NB625_615.out; have hnc65 := NB615_625.out; have hnb66 := NB625_616.out; have hnc66 := NB616_625.out; have hnb67 := NB625_626.out; have hnc67 := NB626_625.out; have hcz68_0 : w61.cell? ⟨gb625, 0, none⟩ = some (.slice none 0 0) := (blk_cell BK625.out 0).trans rfl; have hcz68_1 : w61.cell? ⟨gb625, 1, none⟩ = some (.int .i64 0) := (blk_cell BK625.out 1).trans rfl; have hfz68_0 := blk_frozen BK625.out 0; have hfz68_1 := blk_frozen BK625.out 1; have hnb69 := NB626_599.out; have hnc69 := NB599_626.out; have hnb70 := NB626_614.out; have hnc70 := NB614_626.out; have hnb71 := NB626_615.out; have hnc71 := NB615_626.out; have hnb72 := NB626_616.out; have hnc72 := NB616_626.out; have hcz73_0 : w61.cell? ⟨gb626, 0, none⟩ = some (.string (⟨#[]⟩ : ByteArray)) := (blk_cell BK626.out 0).trans rfl; have hcz73_1 : w61.cell? ⟨gb626, 1, none⟩ = some (.int .i64 0) := (blk_cell BK626.out 1).trans rfl; have hfz73_0 := blk_frozen BK626.out 0; have hfz73_1 := blk_frozen BK626.out 1; obtain ⟨Ao74, co74, eo74⟩ := Kd.R_slice HO_5.out; subst eo74; have p627 : 0 ≤ (x10_3 : Int) := of_decide_eq_true (by first | (with_reducible assumption) | assumption); have q627 : x10_3 < (t608.length : Int) := of_decide_eq_true (by first | (with_reducible assumption) | assumption); obtain ⟨ad627, e627, hx627_0⟩ := Kd.at_int (Kd.R_reads' HO_5.out).2.2 x10_3 p627 q627; cases e627; have hn627_0 : ad627.block ≠ gb625 := Kd.own_blk (Kd.R_ne HO_5.out BK625.out (by decide)); have hn627_1 : ad627.block ≠ gb625 := Kd.own_blk (Kd.R_ne HO_5.out BK625.out (by decide)); have hn627_2 : ad627.block ≠ gb626 := Kd.own_blk (Kd.R_ne HO_5.out BK626.out (by decide)); have hn627_3 : ad627.block ≠ gb626 := Kd.own_blk (Kd.R_ne HO_5.out BK626.out (by decide)); replace hx627_0 := (cell_far (p := ⟨gb625, 0, none⟩) (by first | (rw [add_block]; exact hn627_0) | (show (Addr.add _ _).block ≠ _; rw [add_block]; exact hn627_0) | exact hn627_0) (.slice Ao62 t618.length co62)).trans hx627_0; replace hx627_0 := (cell_far (p := ⟨gb625, 1, none⟩) (by first | (rw [add_block]; exact hn627_1) | (show (Addr.add _ _).block ≠ _; rw [add_block]; exact hn627_1) | exact hn627_1) (.int .i64 t621)).trans hx627_0; replace hx627_0 := (cell_far (p := ⟨gb626, 0, none⟩) (by first | (rw [add_block]; exact hn627_2) | (show (Addr.add _ _).block ≠ _; rw [add_block]; exact hn627_2) | exact hn627_2) (.string t622)).trans hx627_0; replace hx627_0 := (cell_far (p := ⟨gb626, 1, none⟩) (by first | (rw [add_block]; exact hn627_3) | (show (Addr.add _ _).block ≠ _; rw [add_block]; exact hn627_3) | exact hn627_3) (.int .i64 t623)).trans hx627_0; clear hn627_0; clear hn627_1; clear hn627_2; clear hn627_3; replace p627 := eq_true p627; replace q627 := eq_true q627; have hnb75 := NB614_599.out; have hnc75 := NB599_614.out; have hcz76_0 : w61.cell? ⟨gb614, 0, none⟩ = some (.string t611) := (blk_cell BK614.out 0).trans rfl; have hcz76_1 : w61.cell? ⟨gb614, 1, none⟩ = some (.int .i64 t612) := (blk_cell BK614.out 1).trans rfl; have hfz76_0 := blk_frozen BK614.out 0; have hfz76_1 := blk_frozen BK614.out 1))
                              have n0_ : Aside0 (Kd.V (Kd.int .i64) 3 ((((w61.setCell ⟨gb625, 0, none⟩ (.slice Ao62 t618.length co62)).setCell ⟨gb625, 1, none⟩ (.int .i64 t621)).setCell ⟨gb626, 0, none⟩ (.string t622)).setCell ⟨gb626, 1, none⟩ (.int .i64 t623)) w.heap.size (fun k_ => some k_ ≠ (.slice (some ad627) t608.length co74 : Value).ownBlock ∧ k_ ≠ gb599 ∧ k_ ≠ gb614 ∧ k_ ≠ gb615 ∧ k_ ≠ gb616 ∧ k_ ≠ gb625 ∧ k_ ≠ gb626) (.slice Ao28 t602.length co28) t602) := ⟨by (with_reducible repeat (first | apply Kd.V_alloc | apply Kd.V_drewN | apply Kd.V_drew)); exact Kd.V_mono (Kd.V_far (p := ⟨gb626, 1, none⟩) (Kd.V_far (p := ⟨gb626, 0, none⟩) (Kd.V_far (p := ⟨gb625, 1, none⟩) (Kd.V_far (p := ⟨gb625, 0, none⟩) (Kd.V_mono (Kd.V_mono HO_1.out (fun k_ hk => (⟨hk, hk.1.2⟩ : _ ∧ k_ ≠ gb625))) (fun k_ hk => (⟨hk, hk.1.2⟩ : _ ∧ k_ ≠ gb626))) (fun _ hk => hk.1.2) (.slice Ao62 t618.length co62)) (fun _ hk => hk.1.2) (.int .i64 t621)) (fun _ hk => hk.2) (.string t622)) (fun _ hk => hk.2) (.int .i64 t623)) (fun _ hk => ⟨hk.1.1.1.1.1, ⟨hk.1.1.1.1.2.1, ⟨hk.1.1.1.1.2.2.1, ⟨hk.1.1.1.1.2.2.2.1, ⟨hk.1.1.1.1.2.2.2.2, ⟨hk.1.1.1.2, hk.1.1.2⟩⟩⟩⟩⟩⟩)⟩
                              have n1_ : Aside0 (Kd.R (Kd.int .i64) 3 ((((w61.setCell ⟨gb625, 0, none⟩ (.slice Ao62 t618.length co62)).setCell ⟨gb625, 1, none⟩ (.int .i64 t621)).setCell ⟨gb626, 0, none⟩ (.string t622)).setCell ⟨gb626, 1, none⟩ (.int .i64 t623)) w.heap.size (fun _ => True) (.slice (some ad627) t608.length co74) t608) := ⟨by (with_reducible repeat (first | apply Kd.R_alloc | apply Kd.R_drewN | apply Kd.R_drew)); exact Kd.R_mono (Kd.R_far (p := ⟨gb626, 1, none⟩) (Kd.R_far (p := ⟨gb626, 0, none⟩) (Kd.R_far (p := ⟨gb625, 1, none⟩) (Kd.R_far (p := ⟨gb625, 0, none⟩) (Kd.R_types (Kd.R_types HO_5.out BK625.out (by decide)) BK626.out (by decide)) (fun _ hk => hk.1.2) (.slice Ao62 t618.length co62)) (fun _ hk => hk.1.2) (.int .i64 t621)) (fun _ hk => hk.2) (.string t622)) (fun _ hk => hk.2) (.int .i64 t623)) (fun _ hk => trivial)⟩
                              have n2_ : Aside0 (Kd.V (Kd.int .i64) 3 ((((w61.setCell ⟨gb625, 0, none⟩ (.slice Ao62 t618.length co62)).setCell ⟨gb625, 1, none⟩ (.int .i64 t621)).setCell ⟨gb626, 0, none⟩ (.string t622)).setCell ⟨gb626, 1, none⟩ (.int .i64 t623)) w.heap.size (fun k_ => some k_ ≠ (.slice (some ad627) t608.length co74 : Value).ownBlock ∧ k_ ≠ gb599 ∧ k_ ≠ gb614 ∧ k_ ≠ gb615 ∧ k_ ≠ gb616 ∧ k_ ≠ gb625 ∧ k_ ≠ gb626) (.slice Ao58 x616000_3.length co58) x616000_3) := ⟨by (with_reducible repeat (first | apply Kd.V_alloc | apply Kd.V_drewN | apply Kd.V_drew)); exact Kd.V_mono (Kd.V_far (p := ⟨gb626, 1, none⟩) (Kd.V_far (p := ⟨gb626, 0, none⟩) (Kd.V_far (p := ⟨gb625, 1, none⟩) (Kd.V_far (p := ⟨gb625, 0, none⟩) (Kd.V_mono (Kd.V_mono HO_616000.out (fun k_ hk => (⟨hk, hk.1.2⟩ : _ ∧ k_ ≠ gb625))) (fun k_ hk => (⟨hk, hk.1.2⟩ : _ ∧ k_ ≠ gb626))) (fun _ hk => hk.1.2) (.slice Ao62 t618.length co62)) (fun _ hk => hk.1.2) (.int .i64 t621)) (fun _ hk => hk.2) (.string t622)) (fun _ hk => hk.2) (.int .i64 t623)) (fun _ hk => ⟨hk.1.1.1.1.1, ⟨hk.1.1.1.1.2.1, ⟨hk.1.1.1.1.2.2.1, ⟨hk.1.1.1.1.2.2.2.1, ⟨hk.1.1.1.1.2.2.2.2, ⟨hk.1.1.1.2, hk.1.1.2⟩⟩⟩⟩⟩⟩)⟩
                              have n3_ : Aside0 (Kd.V (Kd.int .i64) 3 ((((w61.setCell ⟨gb625, 0, none⟩ (.slice Ao62 t618.length co62)).setCell ⟨gb625, 1, none⟩ (.int .i64 t621)).setCell ⟨gb626, 0, none⟩ (.string t622)).setCell ⟨gb626, 1, none⟩ (.int .i64 t623)) w.heap.size (fun k_ => some k_ ≠ (.slice (some ad627) t608.length co74 : Value).ownBlock ∧ k_ ≠ gb599 ∧ k_ ≠ gb614 ∧ k_ ≠ gb615 ∧ k_ ≠ gb616 ∧ k_ ≠ gb625 ∧ k_ ≠ gb626) (.slice Ao62 t618.length co62) t618) := ⟨by (with_reducible repeat (first | apply Kd.V_alloc | apply Kd.V_drewN | apply Kd.V_drew)); exact Kd.V_mono (Kd.V_far (p := ⟨gb626, 1, none⟩) (Kd.V_far (p := ⟨gb626, 0, none⟩) (Kd.V_far (p := ⟨gb625, 1, none⟩) (Kd.V_far (p := ⟨gb625, 0, none⟩) (Kd.V_mono (Kd.V_mono HO620.out (fun k_ hk => (⟨hk, hk.1.2⟩ : _ ∧ k_ ≠ gb625))) (fun k_ hk => (⟨hk, hk.1.2⟩ : _ ∧ k_ ≠ gb626))) (fun _ hk => hk.1.2) (.slice Ao62 t618.length co62)) (fun _ hk => hk.1.2) (.int .i64 t621)) (fun _ hk => hk.2) (.string t622)) (fun _ hk => hk.2) (.int .i64 t623)) (fun _ hk => ⟨hk.1.1.1.1.1, ⟨hk.1.1.1.1.2.1, ⟨hk.1.1.1.1.2.2.1, ⟨hk.1.1.1.1.2.2.2.1, ⟨hk.1.1.1.1.2.2.2.2, ⟨hk.1.1.1.2, hk.1.1.2⟩⟩⟩⟩⟩⟩)⟩
                              have n4_ : Aside0 (((((w61.setCell ⟨gb625, 0, none⟩ (.slice Ao62 t618.length co62)).setCell ⟨gb625, 1, none⟩ (.int .i64 t621)).setCell ⟨gb626, 0, none⟩ (.string t622)).setCell ⟨gb626, 1, none⟩ (.int .i64 t623)).heap[gb599]? = some (.cells #[.string t600, .int .i64 t601] 23 (0, 0))) := ⟨by (with_reducible repeat (first | refine blk_drewN ?_ _ | refine blk_drew ?_ | refine blk_alloc ?_ _)); refine blk_far ?_ NB599_626.out _; (with_reducible repeat (first | refine blk_drewN ?_ _ | refine blk_drew ?_ | refine blk_alloc ?_ _)); refine blk_far ?_ NB599_626.out _; (with_reducible repeat (first | refine blk_drewN ?_ _ | refine blk_drew ?_ | refine blk_alloc ?_ _)); refine blk_far ?_ NB599_625.out _; (with_reducible repeat (first | refine blk_drewN ?_ _ | refine blk_drew ?_ | refine blk_alloc ?_ _)); refine blk_far ?_ NB599_625.out _; (with_reducible repeat (first | refine blk_drewN ?_ _ | refine blk_drew ?_ | refine blk_alloc ?_ _)); exact BK599.out⟩
                              have n5_ : Aside0 (((((w61.setCell ⟨gb625, 0, none⟩ (.slice Ao62 t618.length co62)).setCell ⟨gb625, 1, none⟩ (.int .i64 t621)).setCell ⟨gb626, 0, none⟩ (.string t622)).setCell ⟨gb626, 1, none⟩ (.int .i64 t623)).heap[gb614]? = some (.cells #[.string t611, .int .i64 t612] 23 (0, 0))) := ⟨by (with_reducible repeat (first | refine blk_drewN ?_ _ | refine blk_drew ?_ | refine blk_alloc ?_ _)); refine blk_far ?_ NB614_626.out _; (with_reducible repeat (first | refine blk_drewN ?_ _ | refine blk_drew ?_ | refine blk_alloc ?_ _)); refine blk_far ?_ NB614_626.out _; (with_reducible repeat (first | refine blk_drewN ?_ _ | refine blk_drew ?_ | refine blk_alloc ?_ _)); refine blk_far ?_ NB614_625.out _; (with_reducible repeat (first | refine blk_drewN ?_ _ | refine blk_drew ?_ | refine blk_alloc ?_ _)); refine blk_far ?_ NB614_625.out _; (with_reducible repeat (first | refine blk_drewN ?_ _ | refine blk_drew ?_ | refine blk_alloc ?_ _)); exact BK614.out⟩
                              have n6_ : Aside0 (((((w61.setCell ⟨gb625, 0, none⟩ (.slice Ao62 t618.length co62)).setCell ⟨gb625, 1, none⟩ (.int .i64 t621)).setCell ⟨gb626, 0, none⟩ (.string t622)).setCell ⟨gb626, 1, none⟩ (.int .i64 t623)).heap[gb615]? = some (.cells #[.slice Ao58 x616000_3.length co58, .int .i64 x616001_3] 49 (0, 0))) := ⟨by (with_reducible repeat (first | refine blk_drewN ?_ _ | refine blk_drew ?_ | refine blk_alloc ?_ _)); refine blk_far ?_ NB615_626.out _; (with_reducible repeat (first | refine blk_drewN ?_ _ | refine blk_drew ?_ | refine blk_alloc ?_ _)); refine blk_far ?_ NB615_626.out _; (with_reducible repeat (first | refine blk_drewN ?_ _ | refine blk_drew ?_ | refine blk_alloc ?_ _)); refine blk_far ?_ NB615_625.out _; (with_reducible repeat (first | refine blk_drewN ?_ _ | refine blk_drew ?_ | refine blk_alloc ?_ _)); refine blk_far ?_ NB615_625.out _; (with_reducible repeat (first | refine blk_drewN ?_ _ | refine blk_drew ?_ | refine blk_alloc ?_ _)); exact BK615.out⟩
                              have n7_ : Aside0 (((((w61.setCell ⟨gb625, 0, none⟩ (.slice Ao62 t618.length co62)).setCell ⟨gb625, 1, none⟩ (.int .i64 t621)).setCell ⟨gb626, 0, none⟩ (.string t622)).setCell ⟨gb626, 1, none⟩ (.int .i64 t623)).heap[gb616]? = some (.cells #[.string x617000_3, .int .i64 x617001_3] 23 (0, 0))) := ⟨by (with_reducible repeat (first | refine blk_drewN ?_ _ | refine blk_drew ?_ | refine blk_alloc ?_ _)); refine blk_far ?_ NB616_626.out _; (with_reducible repeat (first | refine blk_drewN ?_ _ | refine blk_drew ?_ | refine blk_alloc ?_ _)); refine blk_far ?_ NB616_626.out _; (with_reducible repeat (first | refine blk_drewN ?_ _ | refine blk_drew ?_ | refine blk_alloc ?_ _)); refine blk_far ?_ NB616_625.out _; (with_reducible repeat (first | refine blk_drewN ?_ _ | refine blk_drew ?_ | refine blk_alloc ?_ _)); refine blk_far ?_ NB616_625.out _; (with_reducible repeat (first | refine blk_drewN ?_ _ | refine blk_drew ?_ | refine blk_alloc ?_ _)); exact BK616.out⟩
                              have n8_ : Aside0 (((((w61.setCell ⟨gb625, 0, none⟩ (.slice Ao62 t618.length co62)).setCell ⟨gb625, 1, none⟩ (.int .i64 t621)).setCell ⟨gb626, 0, none⟩ (.string t622)).setCell ⟨gb626, 1, none⟩ (.int .i64 t623)).heap[gb625]? = some (.cells #[.slice Ao62 t618.length co62, .int .i64 t621] 49 (0, 0))) := ⟨by (with_reducible repeat (first | refine blk_drewN ?_ _ | refine blk_drew ?_ | refine blk_alloc ?_ _)); refine blk_far ?_ NB625_626.out _; (with_reducible repeat (first | refine blk_drewN ?_ _ | refine blk_drew ?_ | refine blk_alloc ?_ _)); refine blk_far ?_ NB625_626.out _; (with_reducible repeat (first | refine blk_drewN ?_ _ | refine blk_drew ?_ | refine blk_alloc ?_ _)); refine blk_put (cs := #[.slice Ao62 t618.length co62, .int .i64 0]) ?_ 1 _ rfl; (with_reducible repeat (first | refine blk_drewN ?_ _ | refine blk_drew ?_ | refine blk_alloc ?_ _)); refine blk_put (cs := #[.slice none 0 0, .int .i64 0]) ?_ 0 _ rfl; (with_reducible repeat (first | refine blk_drewN ?_ _ | refine blk_drew ?_ | refine blk_alloc ?_ _)); exact BK625.out⟩
                              have n9_ : Aside0 (((((w61.setCell ⟨gb625, 0, none⟩ (.slice Ao62 t618.length co62)).setCell ⟨gb625, 1, none⟩ (.int .i64 t621)).setCell ⟨gb626, 0, none⟩ (.string t622)).setCell ⟨gb626, 1, none⟩ (.int .i64 t623)).heap[gb626]? = some (.cells #[.string t622, .int .i64 t623] 23 (0, 0))) := ⟨by (with_reducible repeat (first | refine blk_drewN ?_ _ | refine blk_drew ?_ | refine blk_alloc ?_ _)); refine blk_put (cs := #[.string t622, .int .i64 0]) ?_ 1 _ rfl; (with_reducible repeat (first | refine blk_drewN ?_ _ | refine blk_drew ?_ | refine blk_alloc ?_ _)); refine blk_put (cs := #[.string (⟨#[]⟩ : ByteArray), .int .i64 0]) ?_ 0 _ rfl; (with_reducible repeat (first | refine blk_drewN ?_ _ | refine blk_drew ?_ | refine blk_alloc ?_ _)); refine blk_far ?_ NB626_625.out _; (with_reducible repeat (first | refine blk_drewN ?_ _ | refine blk_drew ?_ | refine blk_alloc ?_ _)); refine blk_far ?_ NB626_625.out _; (with_reducible repeat (first | refine blk_drewN ?_ _ | refine blk_drew ?_ | refine blk_alloc ?_ _)); exact BK626.out⟩
                              have n10_ : Aside0 (Below w.heap.size w ((((w61.setCell ⟨gb625, 0, none⟩ (.slice Ao62 t618.length co62)).setCell ⟨gb625, 1, none⟩ (.int .i64 t621)).setCell ⟨gb626, 0, none⟩ (.string t622)).setCell ⟨gb626, 1, none⟩ (.int .i64 t623))) := ⟨by repeat (first | (with_reducible first | exact HB.out | apply below_alloc | apply pw_below_drewN | apply below_drew1 | refine below_set ?_ GE599.out | refine below_set ?_ GE614.out | refine below_set ?_ GE615.out | refine below_set ?_ GE616.out | refine below_set ?_ GE625.out | refine below_set ?_ GE626.out) | exact HB.out)⟩
                              (try clear HO_1)
                              (try clear HO_5)
                              (try clear HO_616000)
                              (try clear HO620)
                              (try clear BK599)
                              (try clear BK614)
                              (try clear BK615)
                              (try clear BK616)
                              (try clear BK625)
                              (try clear BK626)
                              (try clear HB)
                              generalize ((((w61.setCell ⟨gb625, 0, none⟩ (.slice Ao62 t618.length co62)).setCell ⟨gb625, 1, none⟩ (.int .i64 t621)).setCell ⟨gb626, 0, none⟩ (.string t622)).setCell ⟨gb626, 1, none⟩ (.int .i64 t623)) = w77 at n0_ n1_ n2_ n3_ n4_ n5_ n6_ n7_ n8_ n9_ n10_ ⊢
                              have HO_1 := n0_
                              have HO_5 := n1_
                              have HO_616000 := n2_
                              have HO620 := n3_
                              have BK599 := n4_
                              have BK614 := n5_
                              have BK615 := n6_
                              have BK616 := n7_
                              have BK625 := n8_
                              have BK626 := n9_
                              have HB := n10_
                              clear n0_ n1_ n2_ n3_ n4_ n5_ n6_ n7_ n8_ n9_ n10_
                              have n0_ := Aside0.mk (Kd.V_drew HO_1.out)
                              have n1_ := Aside0.mk (Kd.R_drew HO_5.out)
                              have n2_ := Aside0.mk (Kd.V_drew HO_616000.out)
                              have n3_ := Aside0.mk (Kd.V_drew HO620.out)
                              have n4_ := Aside0.mk (blk_drew BK599.out)
                              have n5_ := Aside0.mk (blk_drew BK614.out)
                              have n6_ := Aside0.mk (blk_drew BK615.out)
                              have n7_ := Aside0.mk (blk_drew BK616.out)
                              have n8_ := Aside0.mk (blk_drew BK625.out)
                              have n9_ := Aside0.mk (blk_drew BK626.out)
                              have n10_ := Aside0.mk (below_drew1 HB.out)
                              clear HO_1
                              clear HO_5
                              clear HO_616000
                              clear HO620
                              clear BK599
                              clear BK614
                              clear BK615
                              clear BK616
                              clear BK625
                              clear BK626
                              clear HB
                              have HO_1 := n0_
                              have HO_5 := n1_
                              have HO_616000 := n2_
                              have HO620 := n3_
                              have BK599 := n4_
                              have BK614 := n5_
                              have BK615 := n6_
                              have BK616 := n7_
                              have BK625 := n8_
                              have BK626 := n9_
                              have HB := n10_
                              clear n0_ n1_ n2_ n3_ n4_ n5_ n6_ n7_ n8_ n9_ n10_
                              refine start_ (n := 4) (S := fun w' => w'.cell? ⟨gb625, 0, none⟩ = some (.slice Ao62 t618.length co62) ∧ w'.cell? ⟨gb625, 1, none⟩ = some (.int .i64 t621) ∧ w'.cell? ⟨gb626, 0, none⟩ = some (.string t622) ∧ w'.cell? ⟨gb626, 1, none⟩ = some (.int .i64 t623)) (ds := []) #[false, false, false, false] (by kernel_rfl) rfl rfl ⟨(blk_cell BK625.out 0).trans rfl, (blk_cell BK625.out 1).trans rfl, (blk_cell BK626.out 0).trans rfl, (blk_cell BK626.out 1).trans rfl⟩ (fun hHeld => ?_)
                              generalize w77.drew = w78 at HO_1 HO_5 HO_616000 HO620 BK599 BK614 BK615 BK616 BK625 BK626 HB hHeld ⊢
                              refine take_ (i := 0) (N := some 81) (v := ?_) (a' := ?_) #[true, false, false, false] rfl rfl (by kernel_rfl) (fun _ _ _ h => h) (Or.inl ⟨by rfl, ?_⟩) hHeld ?_ ?_
                              rotate_left
                              · rintro w' ⟨s0, s1, s2, s3⟩
                                go_simp
                                with_reducible rfl
                              rotate_left
                              · simp only [Act.put, List.setIfInBounds_toArray, List.set_cons_zero, List.set_cons_succ, i64_w, i32_w]
                                rfl
                              refine take_ (i := 1) (N := some 82) (v := ?_) (a' := ?_) #[true, true, false, false] rfl rfl (by kernel_rfl) (fun _ _ _ h => h) (Or.inl ⟨by rfl, ?_⟩) hHeld ?_ ?_
                              rotate_left
                              · rintro w' ⟨s0, s1, s2, s3⟩
                                go_simp
                                with_reducible rfl
                              rotate_left
                              · simp only [Act.put, List.setIfInBounds_toArray, List.set_cons_zero, List.set_cons_succ, i64_w, i32_w]
                                rfl
                              refine one_ (i := 2) (N := none) #[true, true, true, false] rfl rfl (by kernel_rfl) (by decide) (fun K hK => ?_)
                              have hs79 : w78.cell? ⟨gb615, 0, none⟩ = some (.slice Ao58 x616000_3.length co58) := (blk_cell BK615.out 0).trans rfl
                              have hfs79 := blk_frozen BK615.out 0
                              have hns79_0 := NB599_615.out
                              have hns79_1 := NB614_615.out
                              have hns79_3 := NB616_615.out
                              have hns79_4 := NB625_615.out
                              have hns79_5 := NB626_615.out
                              have hms79_0 := NB615_599.out
                              have hms79_1 := NB615_614.out
                              have hms79_3 := NB615_616.out
                              have hms79_4 := NB615_625.out
                              have hms79_5 := NB615_626.out
                              have hs80 : w78.cell? ⟨gb615, 1, none⟩ = some (.int .i64 x616001_3) := (blk_cell BK615.out 1).trans rfl
                              have hfs80 := blk_frozen BK615.out 1
                              have hns80_0 := NB599_615.out
                              have hns80_1 := NB614_615.out
                              have hns80_3 := NB616_615.out
                              have hns80_4 := NB625_615.out
                              have hns80_5 := NB626_615.out
                              have hms80_0 := NB615_599.out
                              have hms80_1 := NB615_614.out
                              have hms80_3 := NB615_616.out
                              have hms80_4 := NB615_625.out
                              have hms80_5 := NB615_626.out
                              refine skip_ (w1 := ?_) (by rfl) rfl ?_ ?_
                              rotate_left
                              · go_simp
                                rfl
                              refine hK.out _ _ ⟨((cell_far (p := ⟨gb615, _, none⟩) NB625_615.out _).trans (((cell_far (p := ⟨gb615, _, none⟩) NB625_615.out _).trans (hHeld.1)))), ((cell_far (p := ⟨gb615, _, none⟩) NB625_615.out _).trans (((cell_far (p := ⟨gb615, _, none⟩) NB625_615.out _).trans (hHeld.2.1)))), ((cell_far (p := ⟨gb615, _, none⟩) NB626_615.out _).trans (((cell_far (p := ⟨gb615, _, none⟩) NB626_615.out _).trans (hHeld.2.2.1)))), ((cell_far (p := ⟨gb615, _, none⟩) NB626_615.out _).trans (((cell_far (p := ⟨gb615, _, none⟩) NB626_615.out _).trans (hHeld.2.2.2))))⟩ (fun hHeld => ?_)
                              clear hK K
                              refine one_ (i := 3) (N := none) #[true, true, true, true] rfl rfl (by kernel_rfl) (by decide) (fun K hK => ?_)
                              have hs81 : w78.cell? ⟨gb616, 0, none⟩ = some (.string x617000_3) := (blk_cell BK616.out 0).trans rfl
                              have hfs81 := blk_frozen BK616.out 0
                              have hns81_0 := NB599_616.out
                              have hns81_1 := NB614_616.out
                              have hns81_2 := NB615_616.out
                              have hns81_4 := NB625_616.out
                              have hns81_5 := NB626_616.out
                              have hms81_0 := NB616_599.out
                              have hms81_1 := NB616_614.out
                              have hms81_2 := NB616_615.out
                              have hms81_4 := NB616_625.out
                              have hms81_5 := NB616_626.out
                              have hs82 : w78.cell? ⟨gb616, 1, none⟩ = some (.int .i64 x617001_3) := (blk_cell BK616.out 1).trans rfl
                              have hfs82 := blk_frozen BK616.out 1
                              have hns82_0 := NB599_616.out
                              have hns82_1 := NB614_616.out
                              have hns82_2 := NB615_616.out
                              have hns82_4 := NB625_616.out
                              have hns82_5 := NB626_616.out
                              have hms82_0 := NB616_599.out
                              have hms82_1 := NB616_614.out
                              have hms82_2 := NB616_615.out
                              have hms82_4 := NB616_625.out
                              have hms82_5 := NB616_626.out
                              refine skip_ (w1 := ?_) (by rfl) rfl ?_ ?_
                              rotate_left
                              · go_simp
                                rfl
                              refine hK.out _ _ ⟨((cell_far (p := ⟨gb616, _, none⟩) NB625_616.out _).trans (((cell_far (p := ⟨gb616, _, none⟩) NB625_616.out _).trans (hHeld.1)))), ((cell_far (p := ⟨gb616, _, none⟩) NB625_616.out _).trans (((cell_far (p := ⟨gb616, _, none⟩) NB625_616.out _).trans (hHeld.2.1)))), ((cell_far (p := ⟨gb616, _, none⟩) NB626_616.out _).trans (((cell_far (p := ⟨gb616, _, none⟩) NB626_616.out _).trans (hHeld.2.2.1)))), ((cell_far (p := ⟨gb616, _, none⟩) NB626_616.out _).trans (((cell_far (p := ⟨gb616, _, none⟩) NB626_616.out _).trans (hHeld.2.2.2))))⟩ (fun hHeld => ?_)
                              clear hK K
                              refine done_ (by kernel_rfl) ?_
                              try go_wp2
                              go_roundg k3
                              case measure => have := HJ4.out; have := HJ25.out; have := HK3.out; omega
                              case rel => exact ⟨(wrap64 (x10_3 + 1)), (t618), (t621), (t622), (t623), (.slice Ao62 t618.length co62), (by first | rfl | (simp; done) | (simp [*]; done)), H', ⟨by have := HJ4.out; have := HJ25.out; have := HK3.out; omega⟩, ⟨by (with_reducible repeat (first | apply Kd.V_alloc | apply Kd.V_drewN | apply Kd.V_drew)); exact Kd.V_mono (Kd.V_far (p := ⟨gb616, 1, none⟩) (Kd.V_far (p := ⟨gb616, 0, none⟩) (Kd.V_far (p := ⟨gb615, 1, none⟩) (Kd.V_far (p := ⟨gb615, 0, none⟩) (Kd.V_mono (Kd.V_mono HO_1.out (fun k_ hk => (⟨hk, hk.2.2.2.1⟩ : _ ∧ k_ ≠ gb615))) (fun k_ hk => (⟨hk, hk.1.2.2.2.2.1⟩ : _ ∧ k_ ≠ gb616))) (fun _ hk => hk.1.2) (.slice Ao62 t618.length co62)) (fun _ hk => hk.1.2) (.int .i64 t621)) (fun _ hk => hk.2) (.string t622)) (fun _ hk => hk.2) (.int .i64 t623)) (fun _ hk => ⟨hk.1.1.1, ⟨hk.1.1.2.1, ⟨hk.1.1.2.2.1, ⟨hk.1.1.2.2.2.1, hk.1.1.2.2.2.2.1⟩⟩⟩⟩)⟩, ⟨by (with_reducible repeat (first | apply Kd.R_alloc | apply Kd.R_drewN | apply Kd.R_drew)); exact Kd.R_mono (Kd.R_far (p := ⟨gb616, 1, none⟩) (Kd.R_far (p := ⟨gb616, 0, none⟩) (Kd.R_far (p := ⟨gb615, 1, none⟩) (Kd.R_far (p := ⟨gb615, 0, none⟩) (Kd.R_types (Kd.R_types HO_5.out BK615.out (by decide)) BK616.out (by decide)) (fun _ hk => hk.1.2) (.slice Ao62 t618.length co62)) (fun _ hk => hk.1.2) (.int .i64 t621)) (fun _ hk => hk.2) (.string t622)) (fun _ hk => hk.2) (.int .i64 t623)) (fun _ hk => trivial)⟩, ⟨by (with_reducible repeat (first | apply Kd.V_alloc | apply Kd.V_drewN | apply Kd.V_drew)); exact Kd.V_mono (Kd.V_far (p := ⟨gb616, 1, none⟩) (Kd.V_far (p := ⟨gb616, 0, none⟩) (Kd.V_far (p := ⟨gb615, 1, none⟩) (Kd.V_far (p := ⟨gb615, 0, none⟩) (Kd.V_mono (Kd.V_mono HO620.out (fun k_ hk => (⟨hk, hk.2.2.2.1⟩ : _ ∧ k_ ≠ gb615))) (fun k_ hk => (⟨hk, hk.1.2.2.2.2.1⟩ : _ ∧ k_ ≠ gb616))) (fun _ hk => hk.1.2) (.slice Ao62 t618.length co62)) (fun _ hk => hk.1.2) (.int .i64 t621)) (fun _ hk => hk.2) (.string t622)) (fun _ hk => hk.2) (.int .i64 t623)) (fun _ hk => ⟨hk.1.1.1, ⟨hk.1.1.2.1, ⟨hk.1.1.2.2.1, ⟨hk.1.1.2.2.2.1, hk.1.1.2.2.2.2.1⟩⟩⟩⟩)⟩, ⟨by (with_reducible repeat (first | refine blk_drewN ?_ _ | refine blk_drew ?_ | refine blk_alloc ?_ _)); refine blk_far ?_ NB599_616.out _; (with_reducible repeat (first | refine blk_drewN ?_ _ | refine blk_drew ?_ | refine blk_alloc ?_ _)); refine blk_far ?_ NB599_616.out _; (with_reducible repeat (first | refine blk_drewN ?_ _ | refine blk_drew ?_ | refine blk_alloc ?_ _)); refine blk_far ?_ NB599_615.out _; (with_reducible repeat (first | refine blk_drewN ?_ _ | refine blk_drew ?_ | refine blk_alloc ?_ _)); refine blk_far ?_ NB599_615.out _; (with_reducible repeat (first | refine blk_drewN ?_ _ | refine blk_drew ?_ | refine blk_alloc ?_ _)); exact BK599.out⟩, ⟨by (with_reducible repeat (first | refine blk_drewN ?_ _ | refine blk_drew ?_ | refine blk_alloc ?_ _)); refine blk_far ?_ NB614_616.out _; (with_reducible repeat (first | refine blk_drewN ?_ _ | refine blk_drew ?_ | refine blk_alloc ?_ _)); refine blk_far ?_ NB614_616.out _; (with_reducible repeat (first | refine blk_drewN ?_ _ | refine blk_drew ?_ | refine blk_alloc ?_ _)); refine blk_far ?_ NB614_615.out _; (with_reducible repeat (first | refine blk_drewN ?_ _ | refine blk_drew ?_ | refine blk_alloc ?_ _)); refine blk_far ?_ NB614_615.out _; (with_reducible repeat (first | refine blk_drewN ?_ _ | refine blk_drew ?_ | refine blk_alloc ?_ _)); exact BK614.out⟩, ⟨by (with_reducible repeat (first | refine blk_drewN ?_ _ | refine blk_drew ?_ | refine blk_alloc ?_ _)); refine blk_far ?_ NB615_616.out _; (with_reducible repeat (first | refine blk_drewN ?_ _ | refine blk_drew ?_ | refine blk_alloc ?_ _)); refine blk_far ?_ NB615_616.out _; (with_reducible repeat (first | refine blk_drewN ?_ _ | refine blk_drew ?_ | refine blk_alloc ?_ _)); refine blk_put (cs := #[.slice Ao62 t618.length co62, .int .i64 x616001_3]) ?_ 1 _ rfl; (with_reducible repeat (first | refine blk_drewN ?_ _ | refine blk_drew ?_ | refine blk_alloc ?_ _)); refine blk_put (cs := #[.slice Ao58 x616000_3.length co58, .int .i64 x616001_3]) ?_ 0 _ rfl; (with_reducible repeat (first | refine blk_drewN ?_ _ | refine blk_drew ?_ | refine blk_alloc ?_ _)); exact BK615.out⟩, ⟨by (with_reducible repeat (first | refine blk_drewN ?_ _ | refine blk_drew ?_ | refine blk_alloc ?_ _)); refine blk_put (cs := #[.string t622, .int .i64 x617001_3]) ?_ 1 _ rfl; (with_reducible repeat (first | refine blk_drewN ?_ _ | refine blk_drew ?_ | refine blk_alloc ?_ _)); refine blk_put (cs := #[.string x617000_3, .int .i64 x617001_3]) ?_ 0 _ rfl; (with_reducible repeat (first | refine blk_drewN ?_ _ | refine blk_drew ?_ | refine blk_alloc ?_ _)); refine blk_far ?_ NB616_615.out _; (with_reducible repeat (first | refine blk_drewN ?_ _ | refine blk_drew ?_ | refine blk_alloc ?_ _)); refine blk_far ?_ NB616_615.out _; (with_reducible repeat (first | refine blk_drewN ?_ _ | refine blk_drew ?_ | refine blk_alloc ?_ _)); exact BK616.out⟩, ⟨by repeat (first | (with_reducible first | exact HB.out | apply below_alloc | apply pw_below_drewN | apply below_drew1 | refine below_set ?_ GE599.out | refine below_set ?_ GE614.out | refine below_set ?_ GE615.out | refine below_set ?_ GE616.out | refine below_set ?_ GE625.out | refine below_set ?_ GE626.out) | exact HB.out)⟩⟩
                          · rw [if_neg c49] at H
                            have c49b0 : (t617 == (rd t608 x10_3)) = false := beq_eq_false_iff_ne.mpr c49
                            have c49b1 : (t617 != (rd t608 x10_3)) = true := bne_iff_ne.mpr c49
                            exact absurd ((Option.some.inj H).trans hrt.out) (by decide)
                        · rw [if_neg c48] at H
                          exact absurd H (by simp)
                      · rw [if_neg c47] at H
                        exact absurd H (by simp)
                    · rw [if_neg c46] at H
                      have c46b0 : (t624 == 0) = false := beq_eq_false_iff_ne.mpr c46
                      have c46b1 : (t624 != 0) = true := bne_iff_ne.mpr c46
                      exact absurd ((Option.some.inj H).trans hrt.out) (by decide)
                  · rw [if_neg c44] at H
                    have c44b0 : decide (x10_3 < (t602.length : Int)) = false := decide_eq_false c44
                    clear c44
                    replace H := Option.bind_eq_some_iff.mp H
                    obtain ⟨t628, A830, H⟩ := H
                    replace H : (some t628) = some r := H
                    have A83 := Aside0.mk A830
                    clear A830
                    obtain rfl := Option.some.inj H
                    go_wp2_with (first | ((with_reducible refine gate_callee (f := 30) rfl ?_); refine goesL_ (some 83) rfl rfl Try.func30 (by kernel_rfl) rfl #[] rfl (by (try simp only [List.map_toArray, List.map_cons, List.map_nil]); first | done | rfl | (simp only [List.length_drop, List.length_take]; rfl)) ?_; (with_reducible refine (tattlelaw08_awakeT.calls  t628 _ A83.out).mono ?_); rintro e w84 ⟨rfl, hb⟩; refine ⟨_, rfl, ?_⟩; have n0_ := Aside0.mk (Kd.R_below (by (with_reducible repeat (first | apply Kd.R_alloc | apply Kd.R_drewN | apply Kd.R_drew)); exact HO_5.out) hb); have n1_ := Aside0.mk (Kd.V_below (by (with_reducible repeat (first | apply Kd.V_alloc | apply Kd.V_drewN | apply Kd.V_drew)); exact HO_616000.out) hb); have n2_ := Aside0.mk (blk_below (g := gb599) (o := .cells #[.string t600, .int .i64 t601] 23 (0, 0)) (by (with_reducible repeat (first | refine blk_drewN ?_ _ | refine blk_drew ?_ | refine blk_alloc ?_ _)); exact BK599.out) hb); have n3_ := Aside0.mk (blk_below (g := gb614) (o := .cells #[.string t611, .int .i64 t612] 23 (0, 0)) (by (with_reducible repeat (first | refine blk_drewN ?_ _ | refine blk_drew ?_ | refine blk_alloc ?_ _)); exact BK614.out) hb); have n4_ := Aside0.mk (blk_below (g := gb615) (o := .cells #[u616000, .int .i64 x616001_3] 49 (0, 0)) (by (with_reducible repeat (first | refine blk_drewN ?_ _ | refine blk_drew ?_ | refine blk_alloc ?_ _)); exact BK615.out) hb); have n5_ := Aside0.mk (blk_below (g := gb616) (o := .cells #[.string x617000_3, .int .i64 x617001_3] 23 (0, 0)) (by (with_reducible repeat (first | refine blk_drewN ?_ _ | refine blk_drew ?_ | refine blk_alloc ?_ _)); exact BK616.out) hb); have n6_ := Aside0.mk (below_step (by repeat (first | (with_reducible first | exact HB.out | apply below_alloc | apply pw_below_drewN | apply below_drew1 | refine below_set ?_ GE599.out | refine below_set ?_ GE614.out | refine below_set ?_ GE615.out | refine below_set ?_ GE616.out) | exact HB.out)) hb); clear HO_5; clear HO_616000; clear BK599; clear BK614; clear BK615; clear BK616; clear HB; have HO_5 := n0_; have HO_616000 := n1_; have BK599 := n2_; have BK614 := n3_; have BK615 := n4_; have BK616 := n5_; have HB := n6_; clear n0_ n1_ n2_ n3_ n4_ n5_ n6_; (try clear hb); (try clear hb2); (try clear hk); (try clear hi)))
                    go_ret
                    exact ⟨by first | rfl | (simp [errW_none, errW_some] <;> rfl) | (simp [*, errW_none, errW_some] <;> rfl), by repeat (first | (with_reducible first | exact HB.out | apply below_alloc | apply pw_below_drewN | apply below_drew1 | refine below_set ?_ GE599.out | refine below_set ?_ GE614.out | refine below_set ?_ GE615.out | refine below_set ?_ GE616.out) | exact HB.out)⟩

end Go.Proofs.Ytlanodnbdgiihaa.Fn
