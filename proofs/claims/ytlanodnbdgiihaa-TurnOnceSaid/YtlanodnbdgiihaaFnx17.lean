-- Written by program (a turned copy of the kit's print) for this seat: functions, contracts. Lean checks it.
import Derived.Test.YtlanodnbdgiihaaFnx0
import Derived.Test.YtlanodnbdgiihaaFnx2
import Derived.Test.YtlanodnbdgiihaaFnx8
import Derived.Test.YtlanodnbdgiihaaFnx13
import Derived.Test.YtlanodnbdgiihaaFnx14
import Derived.Test.YtlanodnbdgiihaaAw30
namespace Go.Proofs.Ytlanodnbdgiihaa.Fn
open Go.RowKit Go.Proofs.YtlanodnbdgiihaaW.PrintWords Go.Proofs.YtlanodnbdgiihaaW.PrintLast Go.Proofs.YtlanodnbdgiihaaW.PrintMore
attribute [local go_sem] max2_int min2_int max_two min_two max_three min_three max_four min_four   -- for this text's walks alone
set_option linter.unusedVariables false
set_option linter.unusedSimpArgs false

/-! ### tattlelaw08_TurnOnce: function 9 -/
mutual
def tattlelaw08_TurnOnce.j0 : Nat → List Int → Bool → ByteArray → Int → Option (Bool)
  | 0, _, _, _, _ => none
  | k + 1, x1, x30, x479000, x479001 => if x30 = true then ((tattlelaw08_awakeT.f).bind fun t486 => (some t486)) else (tattlelaw08_TurnOnce.l0 k x1 0 x479000 x479001 ([] : List Int) 0)
def tattlelaw08_TurnOnce.l0 : Nat → List Int → Int → ByteArray → Int → List Int → Int → Option (Bool)
  | 0, _, _, _, _, _, _ => none
  | k + 1, x1, x6, x479000, x479001, x488000, x488001 => if x6 < 3 then (tattlelaw08_TurnOnce.l1 k x1 x6 ([] : List Int) 0 x479000 x479001 x488000 x488001) else ((tattlelaw08_awakeT.f).bind fun t488 => (some t488))
def tattlelaw08_TurnOnce.l1 : Nat → List Int → Int → List Int → Int → ByteArray → Int → List Int → Int → Option (Bool)
  | 0, _, _, _, _, _, _, _, _ => none
  | k + 1, x1, x6, x7, x8, x479000, x479001, x488000, x488001 => if x8 < (x1.length : Int) then ((turn_Next.f k x488000 x488001 x479000 x479001 x1).bind fun bt489 => (if bt489.2.2.2.2.2 = 0 then (if x7.length < 17592186044416 then (tattlelaw08_TurnOnce.l1 k x1 x6 (x7 ++ [bt489.1]) (wrap64 (x8 + 1)) bt489.2.2.2.1 bt489.2.2.2.2.1 bt489.2.1 bt489.2.2.1) else (none)) else (some false))) else (tattlelaw08_TurnOnce.l2 k x1 x6 x7 0 x479000 x479001 x488000 x488001)
def tattlelaw08_TurnOnce.l2 : Nat → List Int → Int → List Int → Int → ByteArray → Int → List Int → Int → Option (Bool)
  | 0, _, _, _, _, _, _, _, _ => none
  | k + 1, x1, x6, x7, x13, x479000, x479001, x488000, x488001 => if x13 < (x1.length : Int) then (if 0 ≤ x13 then ((tattleref02_Many.f k x7 (rd x1 x13)).bind fun t503 => (if t503 = 1 then (tattlelaw08_TurnOnce.l2 k x1 x6 x7 (wrap64 (x13 + 1)) x479000 x479001 x488000 x488001) else (some false))) else (none)) else (if x488001 = (x1.length : Int) then (tattlelaw08_TurnOnce.l0 k x1 (wrap64 (x6 + 1)) x479000 x479001 x488000 x488001) else (some false))
end
def tattlelaw08_TurnOnce.f (k : Nat) (a0_0 : ByteArray) (a0_1 : Int) (l1 : List Int) : Option (Bool) := (tattlelaw02_Few.f a0_0 a0_1).bind fun bt479 => ((tattlelaw08_Few.f l1).bind fun t481 => (if (t481.length : Int) > 12 then (tattlelaw08_TurnOnce.j0 k t481 true bt479.1 bt479.2) else ((turn_Nodes.f k t481).bind fun t484 => (if t484 = 0 then ((tattleref02_May.f bt479.1 bt479.2).bind fun t485 => (tattlelaw08_TurnOnce.j0 k t481 (!t485) bt479.1 bt479.2)) else (tattlelaw08_TurnOnce.j0 k t481 true bt479.1 bt479.2)))))
theorem tattlelaw08_TurnOnce.mono_l : ∀ k, (∀ y0 y1 y2 y3, LeO (tattlelaw08_TurnOnce.j0 k y0 y1 y2 y3) (tattlelaw08_TurnOnce.j0 (k + 1) y0 y1 y2 y3)) ∧ (∀ y0 y1 y2 y3 y4 y5, LeO (tattlelaw08_TurnOnce.l0 k y0 y1 y2 y3 y4 y5) (tattlelaw08_TurnOnce.l0 (k + 1) y0 y1 y2 y3 y4 y5)) ∧ (∀ y0 y1 y2 y3 y4 y5 y6 y7, LeO (tattlelaw08_TurnOnce.l1 k y0 y1 y2 y3 y4 y5 y6 y7) (tattlelaw08_TurnOnce.l1 (k + 1) y0 y1 y2 y3 y4 y5 y6 y7)) ∧ (∀ y0 y1 y2 y3 y4 y5 y6 y7, LeO (tattlelaw08_TurnOnce.l2 k y0 y1 y2 y3 y4 y5 y6 y7) (tattlelaw08_TurnOnce.l2 (k + 1) y0 y1 y2 y3 y4 y5 y6 y7))
  | 0 => ⟨fun _ _ _ _ r h => by simp [tattlelaw08_TurnOnce.j0] at h, fun _ _ _ _ _ _ r h => by simp [tattlelaw08_TurnOnce.l0] at h, fun _ _ _ _ _ _ _ _ r h => by simp [tattlelaw08_TurnOnce.l1] at h, fun _ _ _ _ _ _ _ _ r h => by simp [tattlelaw08_TurnOnce.l2] at h⟩
  | k + 1 => by
    obtain ⟨ih0, ih1, ih2, ih3⟩ := tattlelaw08_TurnOnce.mono_l k
    refine ⟨?_, ?_, ?_, ?_⟩
    · intro y0 y1 y2 y3
      unfold tattlelaw08_TurnOnce.j0
      repeat' first
      | (with_reducible exact ih0 _ _ _ _)
      | (with_reducible exact ih1 _ _ _ _ _ _)
      | (with_reducible exact ih2 _ _ _ _ _ _ _ _)
      | (with_reducible exact ih3 _ _ _ _ _ _ _ _)
      | (with_reducible exact tattleref02_Many.mono _ _ _)
      | (with_reducible exact turn_Next.mono _ _ _ _ _ _)
      | (with_reducible exact turn_Nodes.mono _ _)
      | (with_reducible exact LeO.refl _)
      | (with_reducible exact LeO.none _)
      | (with_reducible refine LeO.ite ?_ ?_)
      | (with_reducible refine LeO.bind ?_ (fun _ => ?_))
      | exact ih0 _ _ _ _
      | exact ih1 _ _ _ _ _ _
      | exact ih2 _ _ _ _ _ _ _ _
      | exact ih3 _ _ _ _ _ _ _ _
      | exact tattleref02_Many.mono _ _ _
      | exact turn_Next.mono _ _ _ _ _ _
      | exact turn_Nodes.mono _ _
      | exact LeO.none _
      | refine LeO.ite ?_ ?_
      | refine LeO.bind ?_ (fun _ => ?_)
    · intro y0 y1 y2 y3 y4 y5
      unfold tattlelaw08_TurnOnce.l0
      repeat' first
      | (with_reducible exact ih0 _ _ _ _)
      | (with_reducible exact ih1 _ _ _ _ _ _)
      | (with_reducible exact ih2 _ _ _ _ _ _ _ _)
      | (with_reducible exact ih3 _ _ _ _ _ _ _ _)
      | (with_reducible exact tattleref02_Many.mono _ _ _)
      | (with_reducible exact turn_Next.mono _ _ _ _ _ _)
      | (with_reducible exact turn_Nodes.mono _ _)
      | (with_reducible exact LeO.refl _)
      | (with_reducible exact LeO.none _)
      | (with_reducible refine LeO.ite ?_ ?_)
      | (with_reducible refine LeO.bind ?_ (fun _ => ?_))
      | exact ih0 _ _ _ _
      | exact ih1 _ _ _ _ _ _
      | exact ih2 _ _ _ _ _ _ _ _
      | exact ih3 _ _ _ _ _ _ _ _
      | exact tattleref02_Many.mono _ _ _
      | exact turn_Next.mono _ _ _ _ _ _
      | exact turn_Nodes.mono _ _
      | exact LeO.none _
      | refine LeO.ite ?_ ?_
      | refine LeO.bind ?_ (fun _ => ?_)
    · intro y0 y1 y2 y3 y4 y5 y6 y7
      unfold tattlelaw08_TurnOnce.l1
      repeat' first
      | (with_reducible exact ih0 _ _ _ _)
      | (with_reducible exact ih1 _ _ _ _ _ _)
      | (with_reducible exact ih2 _ _ _ _ _ _ _ _)
      | (with_reducible exact ih3 _ _ _ _ _ _ _ _)
      | (with_reducible exact tattleref02_Many.mono _ _ _)
      | (with_reducible exact turn_Next.mono _ _ _ _ _ _)
      | (with_reducible exact turn_Nodes.mono _ _)
      | (with_reducible exact LeO.refl _)
      | (with_reducible exact LeO.none _)
      | (with_reducible refine LeO.ite ?_ ?_)
      | (with_reducible refine LeO.bind ?_ (fun _ => ?_))
      | exact ih0 _ _ _ _
      | exact ih1 _ _ _ _ _ _
      | exact ih2 _ _ _ _ _ _ _ _
      | exact ih3 _ _ _ _ _ _ _ _
      | exact tattleref02_Many.mono _ _ _
      | exact turn_Next.mono _ _ _ _ _ _
      | exact turn_Nodes.mono _ _
      | exact LeO.none _
      | refine LeO.ite ?_ ?_
      | refine LeO.bind ?_ (fun _ => ?_)
    · intro y0 y1 y2 y3 y4 y5 y6 y7
      unfold tattlelaw08_TurnOnce.l2
      repeat' first
      | (with_reducible exact ih0 _ _ _ _)
      | (with_reducible exact ih1 _ _ _ _ _ _)
      | (with_reducible exact ih2 _ _ _ _ _ _ _ _)
      | (with_reducible exact ih3 _ _ _ _ _ _ _ _)
      | (with_reducible exact tattleref02_Many.mono _ _ _)
      | (with_reducible exact turn_Next.mono _ _ _ _ _ _)
      | (with_reducible exact turn_Nodes.mono _ _)
      | (with_reducible exact LeO.refl _)
      | (with_reducible exact LeO.none _)
      | (with_reducible refine LeO.ite ?_ ?_)
      | (with_reducible refine LeO.bind ?_ (fun _ => ?_))
      | exact ih0 _ _ _ _
      | exact ih1 _ _ _ _ _ _
      | exact ih2 _ _ _ _ _ _ _ _
      | exact ih3 _ _ _ _ _ _ _ _
      | exact tattleref02_Many.mono _ _ _
      | exact turn_Next.mono _ _ _ _ _ _
      | exact turn_Nodes.mono _ _
      | exact LeO.none _
      | refine LeO.ite ?_ ?_
      | refine LeO.bind ?_ (fun _ => ?_)
theorem tattlelaw08_TurnOnce.mono : ∀ a0 a1 a2 k, LeO (tattlelaw08_TurnOnce.f k a0 a1 a2) (tattlelaw08_TurnOnce.f (k + 1) a0 a1 a2) := by
  intro a0 a1 a2 k
  obtain ⟨ih0, ih1, ih2, ih3⟩ := tattlelaw08_TurnOnce.mono_l k
  unfold tattlelaw08_TurnOnce.f
  repeat' first
      | (with_reducible exact ih0 _ _ _ _)
      | (with_reducible exact ih1 _ _ _ _ _ _)
      | (with_reducible exact ih2 _ _ _ _ _ _ _ _)
      | (with_reducible exact ih3 _ _ _ _ _ _ _ _)
      | (with_reducible exact tattleref02_Many.mono _ _ _)
      | (with_reducible exact turn_Next.mono _ _ _ _ _ _)
      | (with_reducible exact turn_Nodes.mono _ _)
      | (with_reducible exact LeO.refl _)
      | (with_reducible exact LeO.none _)
      | (with_reducible refine LeO.ite ?_ ?_)
      | (with_reducible refine LeO.bind ?_ (fun _ => ?_))
      | exact ih0 _ _ _ _
      | exact ih1 _ _ _ _ _ _
      | exact ih2 _ _ _ _ _ _ _ _
      | exact ih3 _ _ _ _ _ _ _ _
      | exact tattleref02_Many.mono _ _ _
      | exact turn_Next.mono _ _ _ _ _ _
      | exact turn_Nodes.mono _ _
      | exact LeO.none _
      | refine LeO.ite ?_ ?_
      | refine LeO.bind ?_ (fun _ => ?_)
set_option maxHeartbeats 8000000 in
set_option maxRecDepth 100000 in
theorem tattlelaw08_TurnOnce.calls (k : Nat) (a0_0 : ByteArray) (a0_1 : Int) (A1 : Option Addr) (c1 : Nat) (l1 : List Int) (r : Bool) (w : World) (hr1 : Kd.C (Kd.int .i64) w A1 l1.length l1) (hc1 : l1.length ≤ c1) (hrt : Aside0 (r = true)) (h : tattlelaw08_TurnOnce.f k a0_0 a0_1 l1 = some r) :
    Calls Try.prog 9 #[.agg #[.string a0_0, .int .i64 a0_1], .slice A1 l1.length c1] w fun e w' => e = .returned (.bool r) ∧ Below w.heap.size w w' := by
  have hu23 := Try.underlying23
  have hu49 := Try.underlying49
  have HR1 := Aside0.mk hr1
  have HC1 := Aside0.mk hc1
  clear hr1 hc1
  have HB := Aside0.mk (Below.refl w.heap.size w)
  have H : ((tattlelaw02_Few.f a0_0 a0_1).bind fun bt479 => ((tattlelaw08_Few.f l1).bind fun t481 => (if (t481.length : Int) > 12 then (tattlelaw08_TurnOnce.j0 k t481 true bt479.1 bt479.2) else ((turn_Nodes.f k t481).bind fun t484 => (if t484 = 0 then ((tattleref02_May.f bt479.1 bt479.2).bind fun t485 => (tattlelaw08_TurnOnce.j0 k t481 (!t485) bt479.1 bt479.2)) else (tattlelaw08_TurnOnce.j0 k t481 true bt479.1 bt479.2)))))) = some r := h
  clear h
  replace H := Option.bind_eq_some_iff.mp H
  obtain ⟨⟨t479, t480⟩, A30, H⟩ := H
  replace H : ((tattlelaw08_Few.f l1).bind fun t481 => (if (t481.length : Int) > 12 then (tattlelaw08_TurnOnce.j0 k t481 true t479 t480) else ((turn_Nodes.f k t481).bind fun t484 => (if t484 = 0 then ((tattleref02_May.f t479 t480).bind fun t485 => (tattlelaw08_TurnOnce.j0 k t481 (!t485) t479 t480)) else (tattlelaw08_TurnOnce.j0 k t481 true t479 t480))))) = some r := H
  have A3 := Aside0.mk A30
  clear A30
  replace H := Option.bind_eq_some_iff.mp H
  obtain ⟨t481, A40, H⟩ := H
  replace H : (if (t481.length : Int) > 12 then (tattlelaw08_TurnOnce.j0 k t481 true t479 t480) else ((turn_Nodes.f k t481).bind fun t484 => (if t484 = 0 then ((tattleref02_May.f t479 t480).bind fun t485 => (tattlelaw08_TurnOnce.j0 k t481 (!t485) t479 t480)) else (tattlelaw08_TurnOnce.j0 k t481 true t479 t480)))) = some r := H
  have A4 := Aside0.mk A40
  clear A40
  have HC5 := Aside0.mk H
  clear H
  go_enter Try.func9, Try.ntmps9
  go_upto_region 2 with (first | ((with_reducible refine gate_dst (N := 2) rfl ?_); refine box_event ?hg (N := 2) ?hd (cs := #[.string a0_0, .int .i64 a0_1]) (t := 23) ?hr ?_; (case hd => rfl); (case hg => rfl); (case hr => first | (go_simp; done) | (go_simp; rfl)); intro gb478 hg w6 hbox hb; have n0_ := Aside0.mk (below_step (by repeat (first | (with_reducible first | exact HB.out | apply below_alloc | apply pw_below_drewN | apply below_drew1) | exact HB.out)) hb); have n1_ := Aside0.mk (hbox); have n2_ := Aside0.mk ((by rw [hg]; exact (below_size (by repeat (first | (with_reducible first | exact HB.out | apply below_alloc | apply pw_below_drewN | apply below_drew1) | exact HB.out))) : w.heap.size ≤ gb478)); have n3_ := Aside0.mk ((by rw [hg]; exact (below_size (by repeat (first | (with_reducible first | exact HB.out | apply below_alloc | apply pw_below_drewN | apply below_drew1) | exact HB.out))) : w.heap.size ≤ gb478)); clear HB; have HB := n0_; have BK478 := n1_; have GW478 := n2_; have GE478 := n3_; clear n0_ n1_ n2_ n3_; clear hb hbox hg; have hcz7_0 : w6.cell? ⟨gb478, 0, none⟩ = some (.string a0_0) := (blk_cell BK478.out 0).trans rfl; have hcz7_1 : w6.cell? ⟨gb478, 1, none⟩ = some (.int .i64 a0_1) := (blk_cell BK478.out 1).trans rfl; have hfz7_0 := blk_frozen BK478.out 0; have hfz7_1 := blk_frozen BK478.out 1) | ((with_reducible refine gate_callee (f := 14) rfl ?_); refine goesL_ (some 15) rfl rfl Try.func14 (by kernel_rfl) rfl #[.agg #[.string a0_0, .int .i64 a0_1]] rfl (by (try simp only [List.map_toArray, List.map_cons, List.map_nil]); first | done | rfl | (simp only [List.length_drop, List.length_take]; rfl)) ?_; (with_reducible refine (tattlelaw02_Few.calls a0_0 a0_1 t479 t480 _ A3.out).mono ?_); rintro e w8 ⟨rfl, hb⟩; refine ⟨_, rfl, ?_⟩; have n0_ := Aside0.mk (blk_below (g := gb478) (o := .cells #[.string a0_0, .int .i64 a0_1] 23 (0, 0)) (by (with_reducible repeat (first | refine blk_drewN ?_ _ | refine blk_drew ?_ | refine blk_alloc ?_ _)); exact BK478.out) hb); have n1_ := Aside0.mk (below_step (by repeat (first | (with_reducible first | exact HB.out | apply below_alloc | apply pw_below_drewN | apply below_drew1 | refine below_set ?_ GE478.out) | exact HB.out)) hb); clear BK478; clear HB; have BK478 := n0_; have HB := n1_; clear n0_ n1_; (try clear hb); (try clear hb2); (try clear hk); (try clear hi)) | ((with_reducible refine gate_callee (f := 27) rfl ?_); refine goesL_ (some 17) rfl rfl Try.func27 (by kernel_rfl) rfl #[.slice A1 l1.length c1] rfl (by (try simp only [List.map_toArray, List.map_cons, List.map_nil]); first | done | rfl | (simp only [List.length_drop, List.length_take]; rfl)) ?_; (with_reducible refine (tattlelaw08_Few.calls (fun k_ => k_ < w.heap.size) _ _ l1 t481 _ ?side1 A4.out).mono ?_); (case side1 => exact Kd.V_mk HC1.out (Kd.F_below (Kd.C_F (Kd.heap_int .i64) HR1.out) (by repeat (first | (with_reducible first | exact HB.out | apply below_alloc | apply pw_below_drewN | apply below_drew1 | refine below_set ?_ GE478.out) | exact HB.out)))); rintro e w9 ⟨v482, rfl, ho0, hb⟩; refine ⟨_, rfl, ?_⟩; have n0_ := Aside0.mk (Kd.V_lower (Kd.V_mono (ok' := fun k_ => k_ ≠ gb478) ho0 (fun k_ hk_ => Or.elim hk_ (fun hs_ => fun e_ => Nat.not_le.2 hs_ (by rw [e_]; exact GW478.out)) (fun hn_ => (Kd.freshB (g := gb478) (o := .cells #[.string a0_0, .int .i64 a0_1] 23 (0, 0)) (by (with_reducible repeat (first | refine blk_drewN ?_ _ | refine blk_drew ?_ | refine blk_alloc ?_ _)); exact BK478.out) k_ hn_)))) (below_size (by repeat (first | (with_reducible first | exact HB.out | apply below_alloc | apply pw_below_drewN | apply below_drew1 | refine below_set ?_ GE478.out) | exact HB.out)))); have n1_ := Aside0.mk (blk_below (g := gb478) (o := .cells #[.string a0_0, .int .i64 a0_1] 23 (0, 0)) (by (with_reducible repeat (first | refine blk_drewN ?_ _ | refine blk_drew ?_ | refine blk_alloc ?_ _)); exact BK478.out) hb); have n2_ := Aside0.mk (below_step (by repeat (first | (with_reducible first | exact HB.out | apply below_alloc | apply pw_below_drewN | apply below_drew1 | refine below_set ?_ GE478.out) | exact HB.out)) hb); clear BK478; clear HB; have HO483 := n0_; have BK478 := n1_; have HB := n2_; clear n0_ n1_ n2_; (try clear hb); (try clear hb2); (try clear hk); (try clear hi); (try clear ho0); have hcz10_0 : w9.cell? ⟨gb478, 0, none⟩ = some (.string a0_0) := (blk_cell BK478.out 0).trans rfl; have hcz10_1 : w9.cell? ⟨gb478, 1, none⟩ = some (.int .i64 a0_1) := (blk_cell BK478.out 1).trans rfl; have hfz10_0 := blk_frozen BK478.out 0; have hfz10_1 := blk_frozen BK478.out 1))
  (try simp only [Act.put, List.setIfInBounds_toArray, List.set_cons_zero, List.set_cons_succ])
  go_cut [30] (fun v30 wc => ∃ (kq : Nat) (x30_4 : Bool), v30 = .bool x30_4 ∧ Aside0 (tattlelaw08_TurnOnce.j0 kq t481 x30_4 t479 t480 = some r) ∧ Aside0 (kq ≤ k) ∧ Aside0 (Kd.V (Kd.int .i64) 3 wc w.heap.size (fun k_ => k_ ≠ gb478) v482 t481) ∧ Aside0 (wc.heap[gb478]? = some (.cells #[.string t479, .int .i64 t480] 23 (0, 0))) ∧ Aside0 (Below w.heap.size w wc))
  case first =>
    have H := HC5.out
    clear HC5
    by_cases c11 : (t481.length : Int) > 12
    · rw [if_pos c11] at H
      have c11b0 : decide (12 < (t481.length : Int)) = true := decide_eq_true c11
      have c11b1 : decide (12 < t481.length) = true := decide_eq_true (by omega)
      clear c11
      (first | rw [c11b0] | (simp only [i64_w, i32_w]; rw [c11b0]) | skip)
      have H' := Aside0.mk H
      clear H
      obtain ⟨Ao12, co12, eo12⟩ := Kd.V_slice HO483.out
      subst eo12
      go_wp2
      go_meet
      case rel => exact ⟨_, (true), (by first | rfl | (simp; done) | (simp [*]; done)), H', ⟨by first | omega | exact Nat.le_refl _⟩, ⟨by (with_reducible repeat (first | apply Kd.V_alloc | apply Kd.V_drewN | apply Kd.V_drew)); exact Kd.V_mono (Kd.V_far (p := ⟨gb478, 1, none⟩) (Kd.V_far (p := ⟨gb478, 0, none⟩) (Kd.V_mono HO483.out (fun k_ hk => (⟨hk, hk⟩ : _ ∧ k_ ≠ gb478))) (fun _ hk => hk.2) (.string t479)) (fun _ hk => hk.2) (.int .i64 t480)) (fun _ hk => hk.1)⟩, ⟨by (with_reducible repeat (first | refine blk_drewN ?_ _ | refine blk_drew ?_ | refine blk_alloc ?_ _)); refine blk_put (cs := #[.string t479, .int .i64 a0_1]) ?_ 1 _ rfl; (with_reducible repeat (first | refine blk_drewN ?_ _ | refine blk_drew ?_ | refine blk_alloc ?_ _)); refine blk_put (cs := #[.string a0_0, .int .i64 a0_1]) ?_ 0 _ rfl; (with_reducible repeat (first | refine blk_drewN ?_ _ | refine blk_drew ?_ | refine blk_alloc ?_ _)); exact BK478.out⟩, ⟨by repeat (first | (with_reducible first | exact HB.out | apply below_alloc | apply pw_below_drewN | apply below_drew1 | refine below_set ?_ GE478.out) | exact HB.out)⟩⟩
    · rw [if_neg c11] at H
      have c11b0 : decide (12 < (t481.length : Int)) = false := decide_eq_false c11
      have c11b1 : decide (12 < t481.length) = false := decide_eq_false (by omega)
      clear c11
      (first | rw [c11b0] | (simp only [i64_w, i32_w]; rw [c11b0]) | skip)
      replace H := Option.bind_eq_some_iff.mp H
      obtain ⟨t484, A130, H⟩ := H
      replace H : (if t484 = 0 then ((tattleref02_May.f t479 t480).bind fun t485 => (tattlelaw08_TurnOnce.j0 k t481 (!t485) t479 t480)) else (tattlelaw08_TurnOnce.j0 k t481 true t479 t480)) = some r := H
      have A13 := Aside0.mk A130
      clear A130
      by_cases c14 : t484 = 0
      · rw [if_pos c14] at H
        have c14b0 : (t484 == 0) = true := beq_iff_eq.mpr c14
        have c14b1 : (t484 != 0) = false := bne_eq_false_iff_eq.mpr c14
        clear c14
        replace H := Option.bind_eq_some_iff.mp H
        obtain ⟨t485, A150, H⟩ := H
        replace H : (tattlelaw08_TurnOnce.j0 k t481 (!t485) t479 t480) = some r := H
        have A15 := Aside0.mk A150
        clear A150
        have H' := Aside0.mk H
        clear H
        obtain ⟨Ao16, co16, eo16⟩ := Kd.V_slice HO483.out
        subst eo16
        go_wp2_with (first | (go_at_call 28; (with_reducible refine (turn_Nodes.calls k _ _ t481 t484 _ ?side1 ?side2 A13.out).mono ?_); (case side1 => refine (Kd.V_reads' (e := 3) (base := w.heap.size) (ok := fun k_ => k_ ≠ gb478) (n := t481.length) (c := co16) ?_).2.2; exact (by (with_reducible repeat (first | apply Kd.V_alloc | apply Kd.V_drewN | apply Kd.V_drew)); exact (Kd.V_mono (Kd.V_far (p := ⟨gb478, 1, none⟩) (Kd.V_far (p := ⟨gb478, 0, none⟩) (Kd.V_mono HO483.out (fun k_ hk => (⟨hk, hk⟩ : _ ∧ k_ ≠ gb478))) (fun _ hk => hk.2) (.string t479)) (fun _ hk => hk.2) (.int .i64 t480)) (fun _ h_ => h_.1)))); (case side2 => exact (Kd.V_reads' HO483.out).2.1); rintro e w17 ⟨rfl, hb⟩; have n0_ := Aside0.mk (Kd.V_below (by (with_reducible repeat (first | apply Kd.V_alloc | apply Kd.V_drewN | apply Kd.V_drew)); exact (Kd.V_mono (Kd.V_far (p := ⟨gb478, 1, none⟩) (Kd.V_far (p := ⟨gb478, 0, none⟩) (Kd.V_mono HO483.out (fun k_ hk => (⟨hk, hk⟩ : _ ∧ k_ ≠ gb478))) (fun _ hk => hk.2) (.string t479)) (fun _ hk => hk.2) (.int .i64 t480)) (fun _ h_ => h_.1))) hb); have n1_ := Aside0.mk (blk_below (g := gb478) (o := .cells #[.string t479, .int .i64 t480] 23 (0, 0)) (by (with_reducible repeat (first | refine blk_drewN ?_ _ | refine blk_drew ?_ | refine blk_alloc ?_ _)); refine blk_put (cs := #[.string t479, .int .i64 a0_1]) ?_ 1 _ rfl; (with_reducible repeat (first | refine blk_drewN ?_ _ | refine blk_drew ?_ | refine blk_alloc ?_ _)); refine blk_put (cs := #[.string a0_0, .int .i64 a0_1]) ?_ 0 _ rfl; (with_reducible repeat (first | refine blk_drewN ?_ _ | refine blk_drew ?_ | refine blk_alloc ?_ _)); exact BK478.out) hb); have n2_ := Aside0.mk (below_step (by repeat (first | (with_reducible first | exact HB.out | apply below_alloc | apply pw_below_drewN | apply below_drew1 | refine below_set ?_ GE478.out) | exact HB.out)) hb); clear HO483; clear BK478; clear HB; have HO483 := n0_; have BK478 := n1_; have HB := n2_; clear n0_ n1_ n2_; (try clear hb); (try clear hb2); (try clear hk); (try clear hi); have hcz18_0 : w17.cell? ⟨gb478, 0, none⟩ = some (.string t479) := (blk_cell BK478.out 0).trans rfl; have hcz18_1 : w17.cell? ⟨gb478, 1, none⟩ = some (.int .i64 t480) := (blk_cell BK478.out 1).trans rfl; have hfz18_0 := blk_frozen BK478.out 0; have hfz18_1 := blk_frozen BK478.out 1) | (go_at_call 19; (with_reducible refine (tattleref02_May.calls t479 t480 t485 _ A15.out).mono ?_); rintro e w19 ⟨rfl, hb⟩; have n0_ := Aside0.mk (Kd.V_below (by (with_reducible repeat (first | apply Kd.V_alloc | apply Kd.V_drewN | apply Kd.V_drew)); exact HO483.out) hb); have n1_ := Aside0.mk (blk_below (g := gb478) (o := .cells #[.string t479, .int .i64 t480] 23 (0, 0)) (by (with_reducible repeat (first | refine blk_drewN ?_ _ | refine blk_drew ?_ | refine blk_alloc ?_ _)); exact BK478.out) hb); have n2_ := Aside0.mk (below_step (by repeat (first | (with_reducible first | exact HB.out | apply below_alloc | apply pw_below_drewN | apply below_drew1 | refine below_set ?_ GE478.out) | exact HB.out)) hb); clear HO483; clear BK478; clear HB; have HO483 := n0_; have BK478 := n1_; have HB := n2_; clear n0_ n1_ n2_; (try clear hb); (try clear hb2); (try clear hk); (try clear hi)))
        go_meet
        case rel => exact ⟨_, (!t485), (by first | rfl | (simp; done) | (simp [*]; done)), H', ⟨by first | omega | exact Nat.le_refl _⟩, ⟨by (with_reducible repeat (first | apply Kd.V_alloc | apply Kd.V_drewN | apply Kd.V_drew)); exact HO483.out⟩, ⟨by (with_reducible repeat (first | refine blk_drewN ?_ _ | refine blk_drew ?_ | refine blk_alloc ?_ _)); exact BK478.out⟩, ⟨by repeat (first | (with_reducible first | exact HB.out | apply below_alloc | apply pw_below_drewN | apply below_drew1 | refine below_set ?_ GE478.out) | exact HB.out)⟩⟩
      · rw [if_neg c14] at H
        have c14b0 : (t484 == 0) = false := beq_eq_false_iff_ne.mpr c14
        have c14b1 : (t484 != 0) = true := bne_iff_ne.mpr c14
        have H' := Aside0.mk H
        clear H
        obtain ⟨Ao20, co20, eo20⟩ := Kd.V_slice HO483.out
        subst eo20
        go_wp2_with (first | (go_at_call 28; (with_reducible refine (turn_Nodes.calls k _ _ t481 t484 _ ?side1 ?side2 A13.out).mono ?_); (case side1 => refine (Kd.V_reads' (e := 3) (base := w.heap.size) (ok := fun k_ => k_ ≠ gb478) (n := t481.length) (c := co20) ?_).2.2; exact (by (with_reducible repeat (first | apply Kd.V_alloc | apply Kd.V_drewN | apply Kd.V_drew)); exact (Kd.V_mono (Kd.V_far (p := ⟨gb478, 1, none⟩) (Kd.V_far (p := ⟨gb478, 0, none⟩) (Kd.V_mono HO483.out (fun k_ hk => (⟨hk, hk⟩ : _ ∧ k_ ≠ gb478))) (fun _ hk => hk.2) (.string t479)) (fun _ hk => hk.2) (.int .i64 t480)) (fun _ h_ => h_.1)))); (case side2 => exact (Kd.V_reads' HO483.out).2.1); rintro e w21 ⟨rfl, hb⟩; have n0_ := Aside0.mk (Kd.V_below (by (with_reducible repeat (first | apply Kd.V_alloc | apply Kd.V_drewN | apply Kd.V_drew)); exact (Kd.V_mono (Kd.V_far (p := ⟨gb478, 1, none⟩) (Kd.V_far (p := ⟨gb478, 0, none⟩) (Kd.V_mono HO483.out (fun k_ hk => (⟨hk, hk⟩ : _ ∧ k_ ≠ gb478))) (fun _ hk => hk.2) (.string t479)) (fun _ hk => hk.2) (.int .i64 t480)) (fun _ h_ => h_.1))) hb); have n1_ := Aside0.mk (blk_below (g := gb478) (o := .cells #[.string t479, .int .i64 t480] 23 (0, 0)) (by (with_reducible repeat (first | refine blk_drewN ?_ _ | refine blk_drew ?_ | refine blk_alloc ?_ _)); refine blk_put (cs := #[.string t479, .int .i64 a0_1]) ?_ 1 _ rfl; (with_reducible repeat (first | refine blk_drewN ?_ _ | refine blk_drew ?_ | refine blk_alloc ?_ _)); refine blk_put (cs := #[.string a0_0, .int .i64 a0_1]) ?_ 0 _ rfl; (with_reducible repeat (first | refine blk_drewN ?_ _ | refine blk_drew ?_ | refine blk_alloc ?_ _)); exact BK478.out) hb); have n2_ := Aside0.mk (below_step (by repeat (first | (with_reducible first | exact HB.out | apply below_alloc | apply pw_below_drewN | apply below_drew1 | refine below_set ?_ GE478.out) | exact HB.out)) hb); clear HO483; clear BK478; clear HB; have HO483 := n0_; have BK478 := n1_; have HB := n2_; clear n0_ n1_ n2_; (try clear hb); (try clear hb2); (try clear hk); (try clear hi)))
        go_meet
        case rel => exact ⟨_, (true), (by first | rfl | (simp; done) | (simp [*]; done)), H', ⟨by first | omega | exact Nat.le_refl _⟩, ⟨by (with_reducible repeat (first | apply Kd.V_alloc | apply Kd.V_drewN | apply Kd.V_drew)); exact HO483.out⟩, ⟨by (with_reducible repeat (first | refine blk_drewN ?_ _ | refine blk_drew ?_ | refine blk_alloc ?_ _)); exact BK478.out⟩, ⟨by repeat (first | (with_reducible first | exact HB.out | apply below_alloc | apply pw_below_drewN | apply below_drew1 | refine below_set ?_ GE478.out) | exact HB.out)⟩⟩
  case rest =>
    clear HC5
    try clear c1
    try clear c2
    try clear p2
    try clear c9
    try clear c11
    try clear c11b0
    try clear c11b1
    try clear c14
    try clear c14b0
    try clear c14b1
    try clear hcz10_0
    try clear hcz10_1
    try clear hcz18_0
    try clear hcz18_1
    try clear hcz7_0
    try clear hcz7_1
    try clear hfz10_0
    try clear hfz10_1
    try clear hfz18_0
    try clear hfz18_1
    try clear hfz7_0
    try clear hfz7_1
    obtain ⟨kq, x30_4, rfl, HA, HJ4, HO_1, BK478, HB⟩ := hcut
    cases kq with
    | zero => exact absurd HA.out (by simp [tattlelaw08_TurnOnce.j0])
    | succ kj4 =>
      have H := HA.out
      clear HA
      simp only [tattlelaw08_TurnOnce.j0] at H
      by_cases c22 : x30_4 = true
      · subst c22
        have H1 : ((tattlelaw08_awakeT.f).bind fun t486 => (some t486)) = some r := by rw [if_pos rfl] at H; exact H
        clear H
        have H := H1
        clear H1
        replace H := Option.bind_eq_some_iff.mp H
        obtain ⟨t486, A230, H⟩ := H
        replace H : (some t486) = some r := H
        have A23 := Aside0.mk A230
        clear A230
        obtain rfl := Option.some.inj H
        go_wp2_with (first | ((with_reducible refine gate_callee (f := 30) rfl ?_); refine goesL_ (some 31) rfl rfl Try.func30 (by kernel_rfl) rfl #[] rfl (by (try simp only [List.map_toArray, List.map_cons, List.map_nil]); first | done | rfl | (simp only [List.length_drop, List.length_take]; rfl)) ?_; (with_reducible refine (tattlelaw08_awakeT.calls  t486 _ A23.out).mono ?_); rintro e w24 ⟨rfl, hb⟩; refine ⟨_, rfl, ?_⟩; have n0_ := Aside0.mk (blk_below (g := gb478) (o := .cells #[.string t479, .int .i64 t480] 23 (0, 0)) (by (with_reducible repeat (first | refine blk_drewN ?_ _ | refine blk_drew ?_ | refine blk_alloc ?_ _)); exact BK478.out) hb); have n1_ := Aside0.mk (below_step (by repeat (first | (with_reducible first | exact HB.out | apply below_alloc | apply pw_below_drewN | apply below_drew1 | refine below_set ?_ GE478.out) | exact HB.out)) hb); clear BK478; clear HB; have BK478 := n0_; have HB := n1_; clear n0_ n1_; (try clear hb); (try clear hb2); (try clear hk); (try clear hi)))
        go_ret
        exact ⟨by first | rfl | (simp [errW_none, errW_some] <;> rfl) | (simp [*, errW_none, errW_some] <;> rfl), by repeat (first | (with_reducible first | exact HB.out | apply below_alloc | apply pw_below_drewN | apply below_drew1 | refine below_set ?_ GE478.out) | exact HB.out)⟩
      · replace c22 := Bool.eq_false_iff.mpr c22
        subst c22
        have H1 : (tattlelaw08_TurnOnce.l0 kj4 t481 0 t479 t480 ([] : List Int) 0) = some r := by rw [if_neg (show ¬ (false = true) by decide)] at H; exact H
        clear H
        have H := H1
        clear H1
        have H' := Aside0.mk H
        clear H
        go_wp2_with (first | ((with_reducible refine gate_dst (N := 5) rfl ?_); refine box_event ?hg (N := 5) ?hd (cs := #[.slice none 0 0, .int .i64 0]) (t := 49) ?hr ?_; (case hd => rfl); (case hg => rfl); (case hr => first | (go_simp; done) | (go_simp; rfl)); intro gb487 hg w25 hbox hb; have n0_ := Aside0.mk (Kd.V_below (Kd.V_elderB (by (with_reducible repeat (first | apply Kd.V_alloc | apply Kd.V_drewN | apply Kd.V_drew)); exact HO_1.out) gb487 (Nat.le_of_eq hg.symm)) hb); have n1_ := Aside0.mk (blk_below (g := gb478) (o := .cells #[.string t479, .int .i64 t480] 23 (0, 0)) (by (with_reducible repeat (first | refine blk_drewN ?_ _ | refine blk_drew ?_ | refine blk_alloc ?_ _)); exact BK478.out) hb); have n2_ := Aside0.mk (below_step (by repeat (first | (with_reducible first | exact HB.out | apply below_alloc | apply pw_below_drewN | apply below_drew1 | refine below_set ?_ GE478.out) | exact HB.out)) hb); have n3_ := Aside0.mk (hbox); have n4_ := Aside0.mk ((by rw [hg]; exact (below_size (by repeat (first | (with_reducible first | exact HB.out | apply below_alloc | apply pw_below_drewN | apply below_drew1 | refine below_set ?_ GE478.out) | exact HB.out))) : w.heap.size ≤ gb487)); have n5_ := Aside0.mk ((by rw [hg]; exact (below_size (by repeat (first | (with_reducible first | exact HB.out | apply below_alloc | apply pw_below_drewN | apply below_drew1 | refine below_set ?_ GE478.out) | exact HB.out))) : w.heap.size ≤ gb487)); have n6_ := Aside0.mk ((by rw [hg]; exact Nat.ne_of_lt (blk_lt (g := gb478) (o := .cells #[.string t479, .int .i64 t480] 23 (0, 0)) (by (with_reducible repeat (first | refine blk_drewN ?_ _ | refine blk_drew ?_ | refine blk_alloc ?_ _)); exact BK478.out)) : gb478 ≠ gb487)); have n7_ := Aside0.mk ((by rw [hg]; exact Nat.ne_of_gt (blk_lt (g := gb478) (o := .cells #[.string t479, .int .i64 t480] 23 (0, 0)) (by (with_reducible repeat (first | refine blk_drewN ?_ _ | refine blk_drew ?_ | refine blk_alloc ?_ _)); exact BK478.out)) : gb487 ≠ gb478)); clear HO_1; clear BK478; clear HB; have HO_1 := n0_; have BK478 := n1_; have HB := n2_; have BK487 := n3_; have GW487 := n4_; have GE487 := n5_; have NB478_487 := n6_; have NB487_478 := n7_; clear n0_ n1_ n2_ n3_ n4_ n5_ n6_ n7_; clear hb hbox hg; have hnb26 := NB487_478.out; have hnc26 := NB478_487.out; have hcz27_0 : w25.cell? ⟨gb487, 0, none⟩ = some (.slice none 0 0) := (blk_cell BK487.out 0).trans rfl; have hcz27_1 : w25.cell? ⟨gb487, 1, none⟩ = some (.int .i64 0) := (blk_cell BK487.out 1).trans rfl; have hfz27_0 := blk_frozen BK487.out 0; have hfz27_1 := blk_frozen BK487.out 1))
        go_loopg [6] kj4 (fun kq v6 w' => ∃ (x6_2 : Int) (x479000_2 : ByteArray) (x479001_2 : Int) (x488000_2 : List Int) (x488001_2 : Int) (u488000 : Value), v6 = .int .i64 x6_2 ∧ Aside0 (tattlelaw08_TurnOnce.l0 kq t481 x6_2 x479000_2 x479001_2 x488000_2 x488001_2 = some r) ∧ Aside0 (kq ≤ kj4) ∧ Aside0 (Kd.V (Kd.int .i64) 3 w' w.heap.size (fun k_ => k_ ≠ gb478 ∧ k_ ≠ gb487) v482 t481) ∧ Aside0 (Kd.V (Kd.int .i64) 3 w' w.heap.size (fun k_ => k_ ≠ gb478 ∧ k_ ≠ gb487) u488000 x488000_2) ∧ Aside0 (w'.heap[gb478]? = some (.cells #[.string x479000_2, .int .i64 x479001_2] 23 (0, 0))) ∧ Aside0 (w'.heap[gb487]? = some (.cells #[u488000, .int .i64 x488001_2] 49 (0, 0))) ∧ Aside0 (Below w.heap.size w w'))
        case atStart => exact ⟨(0), (t479), (t480), (([] : List Int)), (0), (.slice none 0 0), (by first | rfl | (simp; done) | (simp [*]; done)), H', ⟨Nat.le_refl _⟩, ⟨by (with_reducible repeat (first | apply Kd.V_alloc | apply Kd.V_drewN | apply Kd.V_drew)); exact Kd.V_mono (Kd.V_far (p := ⟨gb487, 1, none⟩) (Kd.V_far (p := ⟨gb487, 0, none⟩) (Kd.V_mono HO_1.out (fun k_ hk => (⟨hk, hk.2⟩ : _ ∧ k_ ≠ gb487))) (fun _ hk => hk.2) (.slice none 0 0)) (fun _ hk => hk.2) (.int .i64 0)) (fun _ hk => ⟨hk.1.1, hk.1.2⟩)⟩, ⟨Kd.R_V (base := 0) (by first | exact Kd.R_nil _ _ _ _ _ | exact Kd.N_nil _ _ _ _ _ | exact Kd.V_nil _ _ _ _ _ | exact Kd.Q_nil _ _ _ _ _ | exact Kd.S_nil _ _ _ _ _)⟩, ⟨by (with_reducible repeat (first | refine blk_drewN ?_ _ | refine blk_drew ?_ | refine blk_alloc ?_ _)); refine blk_far ?_ NB478_487.out _; (with_reducible repeat (first | refine blk_drewN ?_ _ | refine blk_drew ?_ | refine blk_alloc ?_ _)); refine blk_far ?_ NB478_487.out _; (with_reducible repeat (first | refine blk_drewN ?_ _ | refine blk_drew ?_ | refine blk_alloc ?_ _)); exact BK478.out⟩, ⟨by (with_reducible repeat (first | refine blk_drewN ?_ _ | refine blk_drew ?_ | refine blk_alloc ?_ _)); refine blk_put (cs := #[.slice none 0 0, .int .i64 0]) ?_ 1 _ rfl; (with_reducible repeat (first | refine blk_drewN ?_ _ | refine blk_drew ?_ | refine blk_alloc ?_ _)); refine blk_put (cs := #[.slice none 0 0, .int .i64 0]) ?_ 0 _ rfl; (with_reducible repeat (first | refine blk_drewN ?_ _ | refine blk_drew ?_ | refine blk_alloc ?_ _)); exact BK487.out⟩, ⟨by repeat (first | (with_reducible first | exact HB.out | apply below_alloc | apply pw_below_drewN | apply below_drew1 | refine below_set ?_ GE478.out | refine below_set ?_ GE487.out) | exact HB.out)⟩⟩
        case round =>
          clear H'
          try clear c1
          try clear c2
          try clear p2
          try clear c3
          try clear c9
          try clear c11
          try clear c11b0
          try clear c11b1
          try clear c14
          try clear c14b0
          try clear c14b1
          try clear c22
          try clear c26
          try clear c27
          try clear hcz10_0
          try clear hcz10_1
          try clear hcz18_0
          try clear hcz18_1
          try clear hcz27_0
          try clear hcz27_1
          try clear hcz7_0
          try clear hcz7_1
          try clear hfz10_0
          try clear hfz10_1
          try clear hfz18_0
          try clear hfz18_1
          try clear hfz27_0
          try clear hfz27_1
          try clear hfz7_0
          try clear hfz7_1
          try clear p2
          obtain ⟨x6_2, x479000_2, x479001_2, x488000_2, x488001_2, u488000, rfl, HA, HK2, HO_1, HO_488000, BK478, BK487, HB⟩ := hrel
          cases gk with
          | zero => exact absurd HA.out (by simp [tattlelaw08_TurnOnce.l0])
          | succ k2 =>
            have H := HA.out
            clear HA
            simp only [tattlelaw08_TurnOnce.l0] at H
            by_cases c28 : x6_2 < 3
            · rw [if_pos c28] at H
              have c28b0 : decide (x6_2 < 3) = true := decide_eq_true c28
              clear c28
              have H' := Aside0.mk H
              clear H
              go_wp2
              go_loopg [7, 8] k2 (fun kq v7 v8 w' => ∃ (x7_3 : List Int) (x8_3 : Int) (x479000_3 : ByteArray) (x479001_3 : Int) (x488000_3 : List Int) (x488001_3 : Int) (u488000 : Value), v8 = .int .i64 x8_3 ∧ Aside0 (tattlelaw08_TurnOnce.l1 kq t481 x6_2 x7_3 x8_3 x479000_3 x479001_3 x488000_3 x488001_3 = some r) ∧ Aside0 (kq ≤ k2) ∧ Aside0 (Kd.V (Kd.int .i64) 3 w' w.heap.size (fun k_ => some k_ ≠ (v7 : Value).ownBlock ∧ k_ ≠ gb478 ∧ k_ ≠ gb487) v482 t481) ∧ Aside0 (Kd.R (Kd.int .i64) 3 w' w.heap.size (fun _ => True) v7 x7_3) ∧ Aside0 (Kd.V (Kd.int .i64) 3 w' w.heap.size (fun k_ => some k_ ≠ (v7 : Value).ownBlock ∧ k_ ≠ gb478 ∧ k_ ≠ gb487) u488000 x488000_3) ∧ Aside0 (w'.heap[gb478]? = some (.cells #[.string x479000_3, .int .i64 x479001_3] 23 (0, 0))) ∧ Aside0 (w'.heap[gb487]? = some (.cells #[u488000, .int .i64 x488001_3] 49 (0, 0))) ∧ Aside0 (Below w.heap.size w w'))
              case atStart => exact ⟨(([] : List Int)), (0), (x479000_2), (x479001_2), (x488000_2), (x488001_2), (u488000), (by first | rfl | (simp; done) | (simp [*]; done)), H', ⟨Nat.le_refl _⟩, ⟨by (with_reducible repeat (first | apply Kd.V_alloc | apply Kd.V_drewN | apply Kd.V_drew)); exact Kd.V_mono HO_1.out (fun _ hk => ⟨(by simp [Value.ownBlock]), ⟨hk.1, hk.2⟩⟩)⟩, ⟨by first | exact Kd.R_nil _ _ _ _ _ | exact Kd.N_nil _ _ _ _ _ | exact Kd.V_nil _ _ _ _ _ | exact Kd.Q_nil _ _ _ _ _ | exact Kd.S_nil _ _ _ _ _⟩, ⟨by (with_reducible repeat (first | apply Kd.V_alloc | apply Kd.V_drewN | apply Kd.V_drew)); exact Kd.V_mono HO_488000.out (fun _ hk => ⟨(by simp [Value.ownBlock]), ⟨hk.1, hk.2⟩⟩)⟩, ⟨by (with_reducible repeat (first | refine blk_drewN ?_ _ | refine blk_drew ?_ | refine blk_alloc ?_ _)); exact BK478.out⟩, ⟨by (with_reducible repeat (first | refine blk_drewN ?_ _ | refine blk_drew ?_ | refine blk_alloc ?_ _)); exact BK487.out⟩, ⟨by repeat (first | (with_reducible first | exact HB.out | apply below_alloc | apply pw_below_drewN | apply below_drew1 | refine below_set ?_ GE478.out | refine below_set ?_ GE487.out) | exact HB.out)⟩⟩
              case round =>
                clear H'
                try clear c1
                try clear c2
                try clear p2
                try clear c3
                try clear c9
                try clear c11
                try clear c11b0
                try clear c11b1
                try clear c14
                try clear c14b0
                try clear c14b1
                try clear c22
                try clear c26
                try clear c27
                try clear c28
                try clear c28b0
                try clear hcz10_0
                try clear hcz10_1
                try clear hcz18_0
                try clear hcz18_1
                try clear hcz27_0
                try clear hcz27_1
                try clear hcz7_0
                try clear hcz7_1
                try clear hfz10_0
                try clear hfz10_1
                try clear hfz18_0
                try clear hfz18_1
                try clear hfz27_0
                try clear hfz27_1
                try clear hfz7_0
                try clear hfz7_1
                try clear p2
                obtain ⟨x7_3, x8_3, x479000_3, x479001_3, x488000_3, x488001_3, u488000, rfl, HA, HK3, HO_1, HO_7, HO_488000, BK478, BK487, HB⟩ := hrel
                cases gk with
                | zero => exact absurd HA.out (by simp [tattlelaw08_TurnOnce.l1])
                | succ k3 =>
                  have H := HA.out
                  clear HA
                  simp only [tattlelaw08_TurnOnce.l1] at H
                  by_cases c29 : x8_3 < (t481.length : Int)
                  · rw [if_pos c29] at H
                    have c29b0 : decide (x8_3 < (t481.length : Int)) = true := decide_eq_true c29
                    clear c29
                    replace H := Option.bind_eq_some_iff.mp H
                    obtain ⟨⟨t489, t490, t493, t494, t495, t496⟩, A300, H⟩ := H
                    replace H : (if t496 = 0 then (if x7_3.length < 17592186044416 then (tattlelaw08_TurnOnce.l1 k3 t481 x6_2 (x7_3 ++ [t489]) (wrap64 (x8_3 + 1)) t494 t495 t490 t493) else (none)) else (some false)) = some r := H
                    have A30 := Aside0.mk A300
                    clear A300
                    by_cases c31 : t496 = 0
                    · rw [if_pos c31] at H
                      have c31b0 : (t496 == 0) = true := beq_iff_eq.mpr c31
                      have c31b1 : (t496 != 0) = false := bne_eq_false_iff_eq.mpr c31
                      clear c31
                      by_cases c32 : x7_3.length < 17592186044416
                      · rw [if_pos c32] at H
                        have LMc32 := Aside0.mk c32
                        clear c32
                        obtain ⟨y499, hy499⟩ : ∃ y_ : List Int, y_ = (x7_3 ++ [t489]) := ⟨_, rfl⟩
                        replace H : (tattlelaw08_TurnOnce.l1 k3 t481 x6_2 y499 (wrap64 (x8_3 + 1)) t494 t495 t490 t493) = some r := by first | (rw [hy499]; with_reducible exact H) | (have H2_ := (Option.bind_some _ _).symm.trans H; rw [hy499]; with_reducible exact H2_) | (have H2_ := (Option.bind_some _ _).symm.trans H; with_reducible exact H2_) | with_reducible exact H | (rw [hy499]; exact H) | exact H
                        have Ny499 := Aside0.mk hy499
                        clear hy499
                        have H' := Aside0.mk H
                        clear H
                        obtain ⟨Ao33, co33, eo33⟩ := Kd.V_slice HO_1.out
                        subst eo33
                        have hnb34 := NB487_478.out
                        have hnc34 := NB478_487.out
                        have hcz35_0 : wr.cell? ⟨gb487, 0, none⟩ = some (u488000) := (blk_cell BK487.out 0).trans rfl
                        have hcz35_1 : wr.cell? ⟨gb487, 1, none⟩ = some (.int .i64 x488001_3) := (blk_cell BK487.out 1).trans rfl
                        have hfz35_0 := blk_frozen BK487.out 0
                        have hfz35_1 := blk_frozen BK487.out 1
                        have hcz36_0 : wr.cell? ⟨gb478, 0, none⟩ = some (.string x479000_3) := (blk_cell BK478.out 0).trans rfl
                        have hcz36_1 : wr.cell? ⟨gb478, 1, none⟩ = some (.int .i64 x479001_3) := (blk_cell BK478.out 1).trans rfl
                        have hfz36_0 := blk_frozen BK478.out 0
                        have hfz36_1 := blk_frozen BK478.out 1
                        obtain ⟨Ao37, co37, eo37⟩ := Kd.V_slice HO_488000.out
                        subst eo37
                        try go_wp2_with (first | ((with_reducible refine gate_callee (f := 31) rfl ?_); refine goesL_ (some 47) rfl rfl Try.func31 (by kernel_rfl) rfl #[.agg #[.slice Ao37 x488000_3.length co37, .int .i64 x488001_3], .agg #[.string x479000_3, .int .i64 x479001_3], .slice Ao33 t481.length co33] rfl (by (try simp only [List.map_toArray, List.map_cons, List.map_nil]); first | done | rfl | (simp only [List.length_drop, List.length_take]; rfl)) ?_; (with_reducible refine (turn_Next.calls k3 (fun k_ => (some k_ ≠ (u7 : Value).ownBlock ∧ (k_ ≠ gb478 ∧ k_ ≠ gb487))) _ _ x488000_3 x488001_3 x479000_3 x479001_3 _ _ t481 t489 t490 t493 t494 t495 t496 _ ?side1 ?side2 ?side3 A30.out).mono ?_); (case side1 => exact HO_488000.out); (case side2 => repeat (first | exact (Kd.V_reads' HO_1.out).2.2 | (with_reducible refine Kd.C_alloc ?_ _) | (with_reducible refine Kd.C_drewN ?_ _) | (with_reducible refine Kd.C_drew ?_))); (case side3 => exact (Kd.V_reads' HO_1.out).2.1); rintro e w38 ⟨v491, rfl, ho0, hb⟩; refine ⟨_, rfl, ?_⟩; have n0_ := Aside0.mk (Kd.V_below (by (with_reducible repeat (first | apply Kd.V_alloc | apply Kd.V_drewN | apply Kd.V_drew)); exact HO_1.out) hb); have n1_ := Aside0.mk (Kd.R_below (by (with_reducible repeat (first | apply Kd.R_alloc | apply Kd.R_drewN | apply Kd.R_drew)); exact HO_7.out) hb); have n2_ := Aside0.mk (Kd.V_below (by (with_reducible repeat (first | apply Kd.V_alloc | apply Kd.V_drewN | apply Kd.V_drew)); exact HO_488000.out) hb); have n3_ := Aside0.mk (Kd.V_lower (Kd.V_mono (ok' := fun k_ => some k_ ≠ (u7 : Value).ownBlock ∧ k_ ≠ gb478 ∧ k_ ≠ gb487) ho0 (fun k_ hk_ => ⟨Or.elim hk_ (fun hs_ => hs_.1) (fun hn_ => (Kd.fresh' (Kd.R_lt (by (with_reducible repeat (first | apply Kd.R_alloc | apply Kd.R_drewN | apply Kd.R_drew)); exact HO_7.out)) k_ hn_)), Or.elim hk_ (fun hs_ => hs_.2.1) (fun hn_ => (Kd.freshB (g := gb478) (o := .cells #[.string x479000_3, .int .i64 x479001_3] 23 (0, 0)) (by (with_reducible repeat (first | refine blk_drewN ?_ _ | refine blk_drew ?_ | refine blk_alloc ?_ _)); exact BK478.out) k_ hn_)), Or.elim hk_ (fun hs_ => hs_.2.2) (fun hn_ => (Kd.freshB (g := gb487) (o := .cells #[.slice Ao37 x488000_3.length co37, .int .i64 x488001_3] 49 (0, 0)) (by (with_reducible repeat (first | refine blk_drewN ?_ _ | refine blk_drew ?_ | refine blk_alloc ?_ _)); exact BK487.out) k_ hn_))⟩)) (below_size (by repeat (first | (with_reducible first | exact HB.out | apply below_alloc | apply pw_below_drewN | apply below_drew1 | refine below_set ?_ GE478.out | refine below_set ?_ GE487.out) | exact HB.out)))); have n4_ := Aside0.mk (blk_below (g := gb478) (o := .cells #[.string x479000_3, .int .i64 x479001_3] 23 (0, 0)) (by (with_reducible repeat (first | refine blk_drewN ?_ _ | refine blk_drew ?_ | refine blk_alloc ?_ _)); exact BK478.out) hb); have n5_ := Aside0.mk (blk_below (g := gb487) (o := .cells #[.slice Ao37 x488000_3.length co37, .int .i64 x488001_3] 49 (0, 0)) (by (with_reducible repeat (first | refine blk_drewN ?_ _ | refine blk_drew ?_ | refine blk_alloc ?_ _)); exact BK487.out) hb); have n6_ := Aside0.mk (below_step (by repeat (first | (with_reducible first | exact HB.out | apply below_alloc | apply pw_below_drewN | apply below_drew1 | refine below_set ?_ GE478.out | refine below_set ?_ GE487.out) | exact HB.out)) hb); clear HO_1; clear HO_7; clear HO_488000; clear BK478; clear BK487; clear HB; have HO_1 := n0_; have HO_7 := n1_; have HO_488000 := n2_; have HO492 := n3_; have BK478 := n4_; have BK487 := n5_; have HB := n6_; clear n0_ n1_ n2_ n3_ n4_ n5_ n6_; (try clear hb); (try clear hb2); (try clear hk); (try clear hi); (try clear ho0)) | ((with_reducible refine gate_dst (N := 10) rfl ?_); refine box_event ?hg (N := 10) ?hd (cs := #[.slice none 0 0, .int .i64 0]) (t := 49) ?hr ?_; (case hd => rfl); (case hg => rfl); (case hr => first | (go_simp; done) | (go_simp; rfl)); intro gb497 hg w39 hbox hb; have n0_ := Aside0.mk (Kd.V_below (Kd.V_elderB (by (with_reducible repeat (first | apply Kd.V_alloc | apply Kd.V_drewN | apply Kd.V_drew)); exact HO_1.out) gb497 (Nat.le_of_eq hg.symm)) hb); have n1_ := Aside0.mk (Kd.R_below (by (with_reducible repeat (first | apply Kd.R_alloc | apply Kd.R_drewN | apply Kd.R_drew)); exact HO_7.out) hb); have n2_ := Aside0.mk (Kd.V_below (Kd.V_elderB (by (with_reducible repeat (first | apply Kd.V_alloc | apply Kd.V_drewN | apply Kd.V_drew)); exact HO_488000.out) gb497 (Nat.le_of_eq hg.symm)) hb); have n3_ := Aside0.mk (Kd.V_below (Kd.V_elderB (by (with_reducible repeat (first | apply Kd.V_alloc | apply Kd.V_drewN | apply Kd.V_drew)); exact HO492.out) gb497 (Nat.le_of_eq hg.symm)) hb); have n4_ := Aside0.mk (blk_below (g := gb478) (o := .cells #[.string x479000_3, .int .i64 x479001_3] 23 (0, 0)) (by (with_reducible repeat (first | refine blk_drewN ?_ _ | refine blk_drew ?_ | refine blk_alloc ?_ _)); exact BK478.out) hb); have n5_ := Aside0.mk (blk_below (g := gb487) (o := .cells #[.slice Ao37 x488000_3.length co37, .int .i64 x488001_3] 49 (0, 0)) (by (with_reducible repeat (first | refine blk_drewN ?_ _ | refine blk_drew ?_ | refine blk_alloc ?_ _)); exact BK487.out) hb); have n6_ := Aside0.mk (below_step (by repeat (first | (with_reducible first | exact HB.out | apply below_alloc | apply pw_below_drewN | apply below_drew1 | refine below_set ?_ GE478.out | refine below_set ?_ GE487.out) | exact HB.out)) hb); have n7_ := Aside0.mk (hbox); have n8_ := Aside0.mk ((by rw [hg]; exact (below_size (by repeat (first | (with_reducible first | exact HB.out | apply below_alloc | apply pw_below_drewN | apply below_drew1 | refine below_set ?_ GE478.out | refine below_set ?_ GE487.out) | exact HB.out))) : w.heap.size ≤ gb497)); have n9_ := Aside0.mk ((by rw [hg]; exact (below_size (by repeat (first | (with_reducible first | exact HB.out | apply below_alloc | apply pw_below_drewN | apply below_drew1 | refine below_set ?_ GE478.out | refine below_set ?_ GE487.out) | exact HB.out))) : w.heap.size ≤ gb497)); have n10_ := Aside0.mk ((by rw [hg]; exact Nat.ne_of_lt (blk_lt (g := gb478) (o := .cells #[.string x479000_3, .int .i64 x479001_3] 23 (0, 0)) (by (with_reducible repeat (first | refine blk_drewN ?_ _ | refine blk_drew ?_ | refine blk_alloc ?_ _)); exact BK478.out)) : gb478 ≠ gb497)); have n11_ := Aside0.mk ((by rw [hg]; exact Nat.ne_of_gt (blk_lt (g := gb478) (o := .cells #[.string x479000_3, .int .i64 x479001_3] 23 (0, 0)) (by (with_reducible repeat (first | refine blk_drewN ?_ _ | refine blk_drew ?_ | refine blk_alloc ?_ _)); exact BK478.out)) : gb497 ≠ gb478)); have n12_ := Aside0.mk ((by rw [hg]; exact Nat.ne_of_lt (blk_lt (g := gb487) (o := .cells #[.slice Ao37 x488000_3.length co37, .int .i64 x488001_3] 49 (0, 0)) (by (with_reducible repeat (first | refine blk_drewN ?_ _ | refine blk_drew ?_ | refine blk_alloc ?_ _)); exact BK487.out)) : gb487 ≠ gb497)); have n13_ := Aside0.mk ((by rw [hg]; exact Nat.ne_of_gt (blk_lt (g := gb487) (o := .cells #[.slice Ao37 x488000_3.length co37, .int .i64 x488001_3] 49 (0, 0)) (by (with_reducible repeat (first | refine blk_drewN ?_ _ | refine blk_drew ?_ | refine blk_alloc ?_ _)); exact BK487.out)) : gb497 ≠ gb487)); clear HO_1; clear HO_7; clear HO_488000; clear HO492; clear BK478; clear BK487; clear HB; have HO_1 := n0_; have HO_7 := n1_; have HO_488000 := n2_; have HO492 := n3_; have BK478 := n4_; have BK487 := n5_; have HB := n6_; have BK497 := n7_; have GW497 := n8_; have GE497 := n9_; have NB478_497 := n10_; have NB497_478 := n11_; have NB487_497 := n12_; have NB497_487 := n13_; clear n0_ n1_ n2_ n3_ n4_ n5_ n6_ n7_ n8_ n9_ n10_ n11_ n12_ n13_; clear hb hbox hg) | ((with_reducible refine gate_dst (N := 11) rfl ?_); refine box_event ?hg (N := 11) ?hd (cs := #[.string (⟨#[]⟩ : ByteArray), .int .i64 0]) (t := 23) ?hr ?_; (case hd => rfl); (case hg => rfl); (case hr => first | (go_simp; done) | (go_simp; rfl)); intro gb498 hg w40 hbox hb; have n0_ := Aside0.mk (Kd.V_below (Kd.V_elderB (by (with_reducible repeat (first | apply Kd.V_alloc | apply Kd.V_drewN | apply Kd.V_drew)); exact HO_1.out) gb498 (Nat.le_of_eq hg.symm)) hb); have n1_ := Aside0.mk (Kd.R_below (by (with_reducible repeat (first | apply Kd.R_alloc | apply Kd.R_drewN | apply Kd.R_drew)); exact HO_7.out) hb); have n2_ := Aside0.mk (Kd.V_below (Kd.V_elderB (by (with_reducible repeat (first | apply Kd.V_alloc | apply Kd.V_drewN | apply Kd.V_drew)); exact HO_488000.out) gb498 (Nat.le_of_eq hg.symm)) hb); have n3_ := Aside0.mk (Kd.V_below (Kd.V_elderB (by (with_reducible repeat (first | apply Kd.V_alloc | apply Kd.V_drewN | apply Kd.V_drew)); exact HO492.out) gb498 (Nat.le_of_eq hg.symm)) hb); have n4_ := Aside0.mk (blk_below (g := gb478) (o := .cells #[.string x479000_3, .int .i64 x479001_3] 23 (0, 0)) (by (with_reducible repeat (first | refine blk_drewN ?_ _ | refine blk_drew ?_ | refine blk_alloc ?_ _)); exact BK478.out) hb); have n5_ := Aside0.mk (blk_below (g := gb487) (o := .cells #[.slice Ao37 x488000_3.length co37, .int .i64 x488001_3] 49 (0, 0)) (by (with_reducible repeat (first | refine blk_drewN ?_ _ | refine blk_drew ?_ | refine blk_alloc ?_ _)); exact BK487.out) hb); have n6_ := Aside0.mk (blk_below (g := gb497) (o := .cells #[.slice none 0 0, .int .i64 0] 49 (0, 0)) (by (with_reducible repeat (first | refine blk_drewN ?_ _ | refine blk_drew ?_ | refine blk_alloc ?_ _)); exact BK497.out) hb); have n7_ := Aside0.mk (below_step (by repeat (first | (with_reducible first | exact HB.out | apply below_alloc | apply pw_below_drewN | apply below_drew1 | refine below_set ?_ GE478.out | refine below_set ?_ GE487.out | refine below_set ?_ GE497.out) | exact HB.out)) hb); have n8_ := Aside0.mk (hbox); have n9_ := Aside0.mk ((by rw [hg]; exact (below_size (by repeat (first | (with_reducible first | exact HB.out | apply below_alloc | apply pw_below_drewN | apply below_drew1 | refine below_set ?_ GE478.out | refine below_set ?_ GE487.out | refine below_set ?_ GE497.out) | exact HB.out))) : w.heap.size ≤ gb498)); have n10_ := Aside0.mk ((by rw [hg]; exact (below_size (by repeat (first | (with_reducible first | exact HB.out | apply below_alloc | apply pw_below_drewN | apply below_drew1 | refine below_set ?_ GE478.out | refine below_set ?_ GE487.out | refine below_set ?_ GE497.out) | exact HB.out))) : w.heap.size ≤ gb498)); have n11_ := Aside0.mk ((by rw [hg]; exact Nat.ne_of_lt (blk_lt (g := gb478) (o := .cells #[.string x479000_3, .int .i64 x479001_3] 23 (0, 0)) (by (with_reducible repeat (first | refine blk_drewN ?_ _ | refine blk_drew ?_ | refine blk_alloc ?_ _)); exact BK478.out)) : gb478 ≠ gb498)); have n12_ := Aside0.mk ((by rw [hg]; exact Nat.ne_of_gt (blk_lt (g := gb478) (o := .cells #[.string x479000_3, .int .i64 x479001_3] 23 (0, 0)) (by (with_reducible repeat (first | refine blk_drewN ?_ _ | refine blk_drew ?_ | refine blk_alloc ?_ _)); exact BK478.out)) : gb498 ≠ gb478)); have n13_ := Aside0.mk ((by rw [hg]; exact Nat.ne_of_lt (blk_lt (g := gb487) (o := .cells #[.slice Ao37 x488000_3.length co37, .int .i64 x488001_3] 49 (0, 0)) (by (with_reducible repeat (first | refine blk_drewN ?_ _ | refine blk_drew ?_ | refine blk_alloc ?_ _)); exact BK487.out)) : gb487 ≠ gb498)); have n14_ := Aside0.mk ((by rw [hg]; exact Nat.ne_of_gt (blk_lt (g := gb487) (o := .cells #[.slice Ao37 x488000_3.length co37, .int .i64 x488001_3] 49 (0, 0)) (by (with_reducible repeat (first | refine blk_drewN ?_ _ | refine blk_drew ?_ | refine blk_alloc ?_ _)); exact BK487.out)) : gb498 ≠ gb487)); have n15_ := Aside0.mk ((by rw [hg]; exact Nat.ne_of_lt (blk_lt (g := gb497) (o := .cells #[.slice none 0 0, .int .i64 0] 49 (0, 0)) (by (with_reducible repeat (first | refine blk_drewN ?_ _ | refine blk_drew ?_ | refine blk_alloc ?_ _)); exact BK497.out)) : gb497 ≠ gb498)); have n16_ := Aside0.mk ((by rw [hg]; exact Nat.ne_of_gt (blk_lt (g := gb497) (o := .cells #[.slice none 0 0, .int .i64 0] 49 (0, 0)) (by (with_reducible repeat (first | refine blk_drewN ?_ _ | refine blk_drew ?_ | refine blk_alloc ?_ _)); exact BK497.out)) : gb498 ≠ gb497)); clear HO_1; clear HO_7; clear HO_488000; clear HO492; clear BK478; clear BK487; clear BK497; clear HB; have HO_1 := n0_; have HO_7 := n1_; have HO_488000 := n2_; have HO492 := n3_; have BK478 := n4_; have BK487 := n5_; have BK497 := n6_; have HB := n7_; have BK498 := n8_; have GW498 := n9_; have GE498 := n10_; have NB478_498 := n11_; have NB498_478 := n12_; have NB487_498 := n13_; have NB498_487 := n14_; have NB497_498 := n15_; have NB498_497 := n16_; clear n0_ n1_ n2_ n3_ n4_ n5_ n6_ n7_ n8_ n9_ n10_ n11_ n12_ n13_ n14_ n15_ n16_; clear hb hbox hg; obtain ⟨Ao41, co41, eo41⟩ := Kd.V_slice HO492.out; subst eo41; have hnb42 := NB497_478.out; have hnc42 := NB478_497.out; have hnb43 := NB497_487.out; have hnc43 := NB487_497.out; have hnb44 := NB497_498.out; have hnc44 := NB498_497.out; have hcz45_0 : w40.cell? ⟨gb497, 0, none⟩ = some (.slice none 0 0) := (blk_cell BK497.out 0).trans rfl; have hcz45_1 : w40.cell? ⟨gb497, 1, none⟩ = some (.int .i64 0) := (blk_cell BK497.out 1).trans rfl; have hfz45_0 := blk_frozen BK497.out 0; have hfz45_1 := blk_frozen BK497.out 1; have hnb46 := NB498_478.out; have hnc46 := NB478_498.out; have hnb47 := NB498_487.out; have hnc47 := NB487_498.out; have hcz48_0 : w40.cell? ⟨gb498, 0, none⟩ = some (.string (⟨#[]⟩ : ByteArray)) := (blk_cell BK498.out 0).trans rfl; have hcz48_1 : w40.cell? ⟨gb498, 1, none⟩ = some (.int .i64 0) := (blk_cell BK498.out 1).trans rfl; have hfz48_0 := blk_frozen BK498.out 0; have hfz48_1 := blk_frozen BK498.out 1) | ((with_reducible refine gate_builtin (b := .append) (xs := #[.tmp 54, .tmp 56]) rfl ?_); at_builtin; refine Kd.R_append (Kd.int .i64) (w0 := w) w.heap.size rfl (.tmp 54) (.tmp 56) 24 3 (.int .i64 0) 8 rfl Try.underlying24 info3 rfl (by decide) (by omega) u7 x7_3 t489 [.int .i64 t489] (fun _ => True) (fun _ => False) rfl (by first | (go_simp; done) | (go_simp; rfl)) ?aP (fun _ hk => hk.elim) ?aF ?aO ?aB ?aS ?aL ?_; (case aP => exact rfl); (case aB => exact (by repeat (first | (with_reducible first | exact HB.out | apply below_alloc | apply pw_below_drewN | apply below_drew1 | refine below_set ?_ GE478.out | refine below_set ?_ GE487.out | refine below_set ?_ GE497.out | refine below_set ?_ GE498.out) | exact HB.out))); (case aF => exact (fun _ _ => trivial)); (case aO => exact (by (with_reducible repeat (first | apply Kd.R_alloc | apply Kd.R_drewN | apply Kd.R_drew)); exact Kd.R_mono (Kd.R_far (p := ⟨gb498, 1, none⟩) (Kd.R_far (p := ⟨gb498, 0, none⟩) (Kd.R_far (p := ⟨gb497, 1, none⟩) (Kd.R_far (p := ⟨gb497, 0, none⟩) (Kd.R_types (Kd.R_types HO_7.out BK497.out (by decide)) BK498.out (by decide)) (fun _ hk => hk.1.2) (.slice Ao41 t490.length co41)) (fun _ hk => hk.1.2) (.int .i64 t493)) (fun _ hk => hk.2) (.string t494)) (fun _ hk => hk.2) (.int .i64 t495)) (fun _ hk => trivial))); (case aS => exact (below_size (by repeat (first | (with_reducible first | exact HB.out | apply below_alloc | apply pw_below_drewN | apply below_drew1 | refine below_set ?_ GE478.out | refine below_set ?_ GE487.out | refine below_set ?_ GE497.out | refine below_set ?_ GE498.out) | exact HB.out)))); (case aL => have := LMc32.out; omega); intro v500 w49 ho hb hg hat; rw [← Ny499.out] at ho; have n0_ := Aside0.mk (Kd.V_afterv (ok := (fun k_ => k_ ≠ gb478 ∧ k_ ≠ gb487 ∧ k_ ≠ gb497 ∧ k_ ≠ gb498)) (by (with_reducible repeat (first | apply Kd.V_alloc | apply Kd.V_drewN | apply Kd.V_drew)); exact Kd.V_mono (Kd.V_far (p := ⟨gb498, 1, none⟩) (Kd.V_far (p := ⟨gb498, 0, none⟩) (Kd.V_far (p := ⟨gb497, 1, none⟩) (Kd.V_far (p := ⟨gb497, 0, none⟩) (Kd.V_mono (Kd.V_mono HO_1.out (fun k_ hk => (⟨hk, hk.1.2⟩ : _ ∧ k_ ≠ gb497))) (fun k_ hk => (⟨hk, hk.1.2⟩ : _ ∧ k_ ≠ gb498))) (fun _ hk => hk.1.2) (.slice Ao41 t490.length co41)) (fun _ hk => hk.1.2) (.int .i64 t493)) (fun _ hk => hk.2) (.string t494)) (fun _ hk => hk.2) (.int .i64 t495)) (fun _ hk => ⟨⟨hk.1.1.1.1.2.1, ⟨hk.1.1.1.1.2.2, ⟨hk.1.1.1.2, hk.1.1.2⟩⟩⟩, hk.1.1.1.1.1⟩)) hg hat); have n1_ := Aside0.mk (Kd.V_afterv (ok := (fun k_ => k_ ≠ gb478 ∧ k_ ≠ gb487 ∧ k_ ≠ gb497 ∧ k_ ≠ gb498)) (by (with_reducible repeat (first | apply Kd.V_alloc | apply Kd.V_drewN | apply Kd.V_drew)); exact Kd.V_mono (Kd.V_far (p := ⟨gb498, 1, none⟩) (Kd.V_far (p := ⟨gb498, 0, none⟩) (Kd.V_far (p := ⟨gb497, 1, none⟩) (Kd.V_far (p := ⟨gb497, 0, none⟩) (Kd.V_mono (Kd.V_mono HO_488000.out (fun k_ hk => (⟨hk, hk.1.2⟩ : _ ∧ k_ ≠ gb497))) (fun k_ hk => (⟨hk, hk.1.2⟩ : _ ∧ k_ ≠ gb498))) (fun _ hk => hk.1.2) (.slice Ao41 t490.length co41)) (fun _ hk => hk.1.2) (.int .i64 t493)) (fun _ hk => hk.2) (.string t494)) (fun _ hk => hk.2) (.int .i64 t495)) (fun _ hk => ⟨⟨hk.1.1.1.1.2.1, ⟨hk.1.1.1.1.2.2, ⟨hk.1.1.1.2, hk.1.1.2⟩⟩⟩, hk.1.1.1.1.1⟩)) hg hat); have n2_ := Aside0.mk (blk_grown (g := gb478) (o := .cells #[.string x479000_3, .int .i64 x479001_3] 23 (0, 0)) (by (with_reducible repeat (first | refine blk_drewN ?_ _ | refine blk_drew ?_ | refine blk_alloc ?_ _)); refine blk_far ?_ NB478_498.out _; (with_reducible repeat (first | refine blk_drewN ?_ _ | refine blk_drew ?_ | refine blk_alloc ?_ _)); refine blk_far ?_ NB478_498.out _; (with_reducible repeat (first | refine blk_drewN ?_ _ | refine blk_drew ?_ | refine blk_alloc ?_ _)); refine blk_far ?_ NB478_497.out _; (with_reducible repeat (first | refine blk_drewN ?_ _ | refine blk_drew ?_ | refine blk_alloc ?_ _)); refine blk_far ?_ NB478_497.out _; (with_reducible repeat (first | refine blk_drewN ?_ _ | refine blk_drew ?_ | refine blk_alloc ?_ _)); exact BK478.out) hg (Kd.R_ne HO_7.out BK478.out (by decide))); have n3_ := Aside0.mk (blk_grown (g := gb487) (o := .cells #[.slice Ao37 x488000_3.length co37, .int .i64 x488001_3] 49 (0, 0)) (by (with_reducible repeat (first | refine blk_drewN ?_ _ | refine blk_drew ?_ | refine blk_alloc ?_ _)); refine blk_far ?_ NB487_498.out _; (with_reducible repeat (first | refine blk_drewN ?_ _ | refine blk_drew ?_ | refine blk_alloc ?_ _)); refine blk_far ?_ NB487_498.out _; (with_reducible repeat (first | refine blk_drewN ?_ _ | refine blk_drew ?_ | refine blk_alloc ?_ _)); refine blk_far ?_ NB487_497.out _; (with_reducible repeat (first | refine blk_drewN ?_ _ | refine blk_drew ?_ | refine blk_alloc ?_ _)); refine blk_far ?_ NB487_497.out _; (with_reducible repeat (first | refine blk_drewN ?_ _ | refine blk_drew ?_ | refine blk_alloc ?_ _)); exact BK487.out) hg (Kd.R_ne HO_7.out BK487.out (by decide))); have n4_ := Aside0.mk (Kd.V_afterv (ok := (fun k_ => k_ ≠ gb478 ∧ k_ ≠ gb487 ∧ k_ ≠ gb497 ∧ k_ ≠ gb498)) (by (with_reducible repeat (first | apply Kd.V_alloc | apply Kd.V_drewN | apply Kd.V_drew)); exact Kd.V_mono (Kd.V_far (p := ⟨gb498, 1, none⟩) (Kd.V_far (p := ⟨gb498, 0, none⟩) (Kd.V_far (p := ⟨gb497, 1, none⟩) (Kd.V_far (p := ⟨gb497, 0, none⟩) (Kd.V_mono (Kd.V_mono HO492.out (fun k_ hk => (⟨hk, hk.1.2⟩ : _ ∧ k_ ≠ gb497))) (fun k_ hk => (⟨hk, hk.1.2⟩ : _ ∧ k_ ≠ gb498))) (fun _ hk => hk.1.2) (.slice Ao41 t490.length co41)) (fun _ hk => hk.1.2) (.int .i64 t493)) (fun _ hk => hk.2) (.string t494)) (fun _ hk => hk.2) (.int .i64 t495)) (fun _ hk => ⟨⟨hk.1.1.1.1.2.1, ⟨hk.1.1.1.1.2.2, ⟨hk.1.1.1.2, hk.1.1.2⟩⟩⟩, hk.1.1.1.1.1⟩)) hg hat); have n5_ := Aside0.mk (blk_grown (g := gb497) (o := .cells #[.slice Ao41 t490.length co41, .int .i64 t493] 49 (0, 0)) (by (with_reducible repeat (first | refine blk_drewN ?_ _ | refine blk_drew ?_ | refine blk_alloc ?_ _)); refine blk_far ?_ NB497_498.out _; (with_reducible repeat (first | refine blk_drewN ?_ _ | refine blk_drew ?_ | refine blk_alloc ?_ _)); refine blk_far ?_ NB497_498.out _; (with_reducible repeat (first | refine blk_drewN ?_ _ | refine blk_drew ?_ | refine blk_alloc ?_ _)); refine blk_put (cs := #[.slice Ao41 t490.length co41, .int .i64 0]) ?_ 1 _ rfl; (with_reducible repeat (first | refine blk_drewN ?_ _ | refine blk_drew ?_ | refine blk_alloc ?_ _)); refine blk_put (cs := #[.slice none 0 0, .int .i64 0]) ?_ 0 _ rfl; (with_reducible repeat (first | refine blk_drewN ?_ _ | refine blk_drew ?_ | refine blk_alloc ?_ _)); exact BK497.out) hg (Kd.R_ne HO_7.out BK497.out (by decide))); have n6_ := Aside0.mk (blk_grown (g := gb498) (o := .cells #[.string t494, .int .i64 t495] 23 (0, 0)) (by (with_reducible repeat (first | refine blk_drewN ?_ _ | refine blk_drew ?_ | refine blk_alloc ?_ _)); refine blk_put (cs := #[.string t494, .int .i64 0]) ?_ 1 _ rfl; (with_reducible repeat (first | refine blk_drewN ?_ _ | refine blk_drew ?_ | refine blk_alloc ?_ _)); refine blk_put (cs := #[.string (⟨#[]⟩ : ByteArray), .int .i64 0]) ?_ 0 _ rfl; (with_reducible repeat (first | refine blk_drewN ?_ _ | refine blk_drew ?_ | refine blk_alloc ?_ _)); refine blk_far ?_ NB498_497.out _; (with_reducible repeat (first | refine blk_drewN ?_ _ | refine blk_drew ?_ | refine blk_alloc ?_ _)); refine blk_far ?_ NB498_497.out _; (with_reducible repeat (first | refine blk_drewN ?_ _ | refine blk_drew ?_ | refine blk_alloc ?_ _)); exact BK498.out) hg (Kd.R_ne HO_7.out BK498.out (by decide))); have n7_ := Aside0.mk (hb); have n8_ := Aside0.mk (ho); clear HO_1; clear HO_488000; clear BK478; clear BK487; clear HO492; clear BK497; clear BK498; clear HB; clear HO_7; have HO_1 := n0_; have HO_488000 := n1_; have BK478 := n2_; have BK487 := n3_; have HO492 := n4_; have BK497 := n5_; have BK498 := n6_; have HB := n7_; have HO501 := n8_; clear n0_ n1_ n2_ n3_ n4_ n5_ n6_ n7_ n8_; clear ho hb hg hat))
                        have n0_ := Aside0.mk (Kd.V_drew HO_1.out)
                        have n1_ := Aside0.mk (Kd.V_drew HO_488000.out)
                        have n2_ := Aside0.mk (Kd.V_drew HO492.out)
                        have n3_ := Aside0.mk (Kd.R_drew HO501.out)
                        have n4_ := Aside0.mk (blk_drew BK478.out)
                        have n5_ := Aside0.mk (blk_drew BK487.out)
                        have n6_ := Aside0.mk (blk_drew BK497.out)
                        have n7_ := Aside0.mk (blk_drew BK498.out)
                        have n8_ := Aside0.mk (below_drew1 HB.out)
                        clear HO_1
                        clear HO_488000
                        clear HO492
                        clear HO501
                        clear BK478
                        clear BK487
                        clear BK497
                        clear BK498
                        clear HB
                        have HO_1 := n0_
                        have HO_488000 := n1_
                        have HO492 := n2_
                        have HO501 := n3_
                        have BK478 := n4_
                        have BK487 := n5_
                        have BK497 := n6_
                        have BK498 := n7_
                        have HB := n8_
                        clear n0_ n1_ n2_ n3_ n4_ n5_ n6_ n7_ n8_
                        refine start_ (n := 4) (S := fun w' => w'.cell? ⟨gb497, 0, none⟩ = some (.slice Ao41 t490.length co41) ∧ w'.cell? ⟨gb497, 1, none⟩ = some (.int .i64 t493) ∧ w'.cell? ⟨gb498, 0, none⟩ = some (.string t494) ∧ w'.cell? ⟨gb498, 1, none⟩ = some (.int .i64 t495)) (ds := []) #[false, false, false, false] (by kernel_rfl) rfl rfl ⟨(blk_cell BK497.out 0).trans rfl, (blk_cell BK497.out 1).trans rfl, (blk_cell BK498.out 0).trans rfl, (blk_cell BK498.out 1).trans rfl⟩ (fun hHeld => ?_)
                        generalize w49.drew = w50 at HO_1 HO_488000 HO492 HO501 BK478 BK487 BK497 BK498 HB hHeld ⊢
                        refine take_ (i := 0) (N := some 58) (v := ?_) (a' := ?_) #[true, false, false, false] rfl rfl (by kernel_rfl) (fun _ _ _ h => h) (Or.inl ⟨by rfl, ?_⟩) hHeld ?_ ?_
                        rotate_left
                        · rintro w' ⟨s0, s1, s2, s3⟩
                          go_simp
                          with_reducible rfl
                        rotate_left
                        · simp only [Act.put, List.setIfInBounds_toArray, List.set_cons_zero, List.set_cons_succ, i64_w, i32_w]
                          rfl
                        refine take_ (i := 1) (N := some 59) (v := ?_) (a' := ?_) #[true, true, false, false] rfl rfl (by kernel_rfl) (fun _ _ _ h => h) (Or.inl ⟨by rfl, ?_⟩) hHeld ?_ ?_
                        rotate_left
                        · rintro w' ⟨s0, s1, s2, s3⟩
                          go_simp
                          with_reducible rfl
                        rotate_left
                        · simp only [Act.put, List.setIfInBounds_toArray, List.set_cons_zero, List.set_cons_succ, i64_w, i32_w]
                          rfl
                        refine one_ (i := 2) (N := none) #[true, true, true, false] rfl rfl (by kernel_rfl) (by decide) (fun K hK => ?_)
                        have hs51 : w50.cell? ⟨gb487, 0, none⟩ = some (.slice Ao37 x488000_3.length co37) := (blk_cell BK487.out 0).trans rfl
                        have hfs51 := blk_frozen BK487.out 0
                        have hns51_0 := NB478_487.out
                        have hns51_2 := NB497_487.out
                        have hns51_3 := NB498_487.out
                        have hms51_0 := NB487_478.out
                        have hms51_2 := NB487_497.out
                        have hms51_3 := NB487_498.out
                        have hs52 : w50.cell? ⟨gb487, 1, none⟩ = some (.int .i64 x488001_3) := (blk_cell BK487.out 1).trans rfl
                        have hfs52 := blk_frozen BK487.out 1
                        have hns52_0 := NB478_487.out
                        have hns52_2 := NB497_487.out
                        have hns52_3 := NB498_487.out
                        have hms52_0 := NB487_478.out
                        have hms52_2 := NB487_497.out
                        have hms52_3 := NB487_498.out
                        refine skip_ (w1 := ?_) (by rfl) rfl ?_ ?_
                        rotate_left
                        · go_simp
                          rfl
                        refine hK.out _ _ ⟨((cell_far (p := ⟨gb487, _, none⟩) NB497_487.out _).trans (((cell_far (p := ⟨gb487, _, none⟩) NB497_487.out _).trans (hHeld.1)))), ((cell_far (p := ⟨gb487, _, none⟩) NB497_487.out _).trans (((cell_far (p := ⟨gb487, _, none⟩) NB497_487.out _).trans (hHeld.2.1)))), ((cell_far (p := ⟨gb487, _, none⟩) NB498_487.out _).trans (((cell_far (p := ⟨gb487, _, none⟩) NB498_487.out _).trans (hHeld.2.2.1)))), ((cell_far (p := ⟨gb487, _, none⟩) NB498_487.out _).trans (((cell_far (p := ⟨gb487, _, none⟩) NB498_487.out _).trans (hHeld.2.2.2))))⟩ (fun hHeld => ?_)
                        clear hK K
                        refine one_ (i := 3) (N := none) #[true, true, true, true] rfl rfl (by kernel_rfl) (by decide) (fun K hK => ?_)
                        have hs53 : w50.cell? ⟨gb478, 0, none⟩ = some (.string x479000_3) := (blk_cell BK478.out 0).trans rfl
                        have hfs53 := blk_frozen BK478.out 0
                        have hns53_1 := NB487_478.out
                        have hns53_2 := NB497_478.out
                        have hns53_3 := NB498_478.out
                        have hms53_1 := NB478_487.out
                        have hms53_2 := NB478_497.out
                        have hms53_3 := NB478_498.out
                        have hs54 : w50.cell? ⟨gb478, 1, none⟩ = some (.int .i64 x479001_3) := (blk_cell BK478.out 1).trans rfl
                        have hfs54 := blk_frozen BK478.out 1
                        have hns54_1 := NB487_478.out
                        have hns54_2 := NB497_478.out
                        have hns54_3 := NB498_478.out
                        have hms54_1 := NB478_487.out
                        have hms54_2 := NB478_497.out
                        have hms54_3 := NB478_498.out
                        refine skip_ (w1 := ?_) (by rfl) rfl ?_ ?_
                        rotate_left
                        · go_simp
                          rfl
                        refine hK.out _ _ ⟨((cell_far (p := ⟨gb478, _, none⟩) NB497_478.out _).trans (((cell_far (p := ⟨gb478, _, none⟩) NB497_478.out _).trans (hHeld.1)))), ((cell_far (p := ⟨gb478, _, none⟩) NB497_478.out _).trans (((cell_far (p := ⟨gb478, _, none⟩) NB497_478.out _).trans (hHeld.2.1)))), ((cell_far (p := ⟨gb478, _, none⟩) NB498_478.out _).trans (((cell_far (p := ⟨gb478, _, none⟩) NB498_478.out _).trans (hHeld.2.2.1)))), ((cell_far (p := ⟨gb478, _, none⟩) NB498_478.out _).trans (((cell_far (p := ⟨gb478, _, none⟩) NB498_478.out _).trans (hHeld.2.2.2))))⟩ (fun hHeld => ?_)
                        clear hK K
                        refine done_ (by kernel_rfl) ?_
                        try go_wp2
                        go_roundg k3
                        case measure => have := HJ4.out; have := HK2.out; have := HK3.out; omega
                        case rel => exact ⟨(y499), (wrap64 (x8_3 + 1)), (t494), (t495), (t490), (t493), (.slice Ao41 t490.length co41), (by first | rfl | (simp; done) | (simp [*]; done)), H', ⟨by have := HJ4.out; have := HK2.out; have := HK3.out; omega⟩, ⟨by (with_reducible repeat (first | apply Kd.V_alloc | apply Kd.V_drewN | apply Kd.V_drew)); exact Kd.V_mono (Kd.V_far (p := ⟨gb478, 1, none⟩) (Kd.V_far (p := ⟨gb478, 0, none⟩) (Kd.V_far (p := ⟨gb487, 1, none⟩) (Kd.V_far (p := ⟨gb487, 0, none⟩) (Kd.V_mono (Kd.V_mono HO_1.out (fun k_ hk => (⟨hk, hk.1.2.1⟩ : _ ∧ k_ ≠ gb487))) (fun k_ hk => (⟨hk, hk.1.1.1⟩ : _ ∧ k_ ≠ gb478))) (fun _ hk => hk.1.2) (.slice Ao41 t490.length co41)) (fun _ hk => hk.1.2) (.int .i64 t493)) (fun _ hk => hk.2) (.string t494)) (fun _ hk => hk.2) (.int .i64 t495)) (fun _ hk => ⟨hk.1.1.2, ⟨hk.1.1.1.1, hk.1.1.1.2.1⟩⟩)⟩, ⟨by (with_reducible repeat (first | apply Kd.R_alloc | apply Kd.R_drewN | apply Kd.R_drew)); exact Kd.R_mono (Kd.R_far (p := ⟨gb478, 1, none⟩) (Kd.R_far (p := ⟨gb478, 0, none⟩) (Kd.R_far (p := ⟨gb487, 1, none⟩) (Kd.R_far (p := ⟨gb487, 0, none⟩) (Kd.R_types (Kd.R_types HO501.out BK487.out (by decide)) BK478.out (by decide)) (fun _ hk => hk.1.2) (.slice Ao41 t490.length co41)) (fun _ hk => hk.1.2) (.int .i64 t493)) (fun _ hk => hk.2) (.string t494)) (fun _ hk => hk.2) (.int .i64 t495)) (fun _ hk => trivial)⟩, ⟨by (with_reducible repeat (first | apply Kd.V_alloc | apply Kd.V_drewN | apply Kd.V_drew)); exact Kd.V_mono (Kd.V_far (p := ⟨gb478, 1, none⟩) (Kd.V_far (p := ⟨gb478, 0, none⟩) (Kd.V_far (p := ⟨gb487, 1, none⟩) (Kd.V_far (p := ⟨gb487, 0, none⟩) (Kd.V_mono (Kd.V_mono HO492.out (fun k_ hk => (⟨hk, hk.1.2.1⟩ : _ ∧ k_ ≠ gb487))) (fun k_ hk => (⟨hk, hk.1.1.1⟩ : _ ∧ k_ ≠ gb478))) (fun _ hk => hk.1.2) (.slice Ao41 t490.length co41)) (fun _ hk => hk.1.2) (.int .i64 t493)) (fun _ hk => hk.2) (.string t494)) (fun _ hk => hk.2) (.int .i64 t495)) (fun _ hk => ⟨hk.1.1.2, ⟨hk.1.1.1.1, hk.1.1.1.2.1⟩⟩)⟩, ⟨by (with_reducible repeat (first | refine blk_drewN ?_ _ | refine blk_drew ?_ | refine blk_alloc ?_ _)); refine blk_put (cs := #[.string t494, .int .i64 x479001_3]) ?_ 1 _ rfl; (with_reducible repeat (first | refine blk_drewN ?_ _ | refine blk_drew ?_ | refine blk_alloc ?_ _)); refine blk_put (cs := #[.string x479000_3, .int .i64 x479001_3]) ?_ 0 _ rfl; (with_reducible repeat (first | refine blk_drewN ?_ _ | refine blk_drew ?_ | refine blk_alloc ?_ _)); refine blk_far ?_ NB478_487.out _; (with_reducible repeat (first | refine blk_drewN ?_ _ | refine blk_drew ?_ | refine blk_alloc ?_ _)); refine blk_far ?_ NB478_487.out _; (with_reducible repeat (first | refine blk_drewN ?_ _ | refine blk_drew ?_ | refine blk_alloc ?_ _)); exact BK478.out⟩, ⟨by (with_reducible repeat (first | refine blk_drewN ?_ _ | refine blk_drew ?_ | refine blk_alloc ?_ _)); refine blk_far ?_ NB487_478.out _; (with_reducible repeat (first | refine blk_drewN ?_ _ | refine blk_drew ?_ | refine blk_alloc ?_ _)); refine blk_far ?_ NB487_478.out _; (with_reducible repeat (first | refine blk_drewN ?_ _ | refine blk_drew ?_ | refine blk_alloc ?_ _)); refine blk_put (cs := #[.slice Ao41 t490.length co41, .int .i64 x488001_3]) ?_ 1 _ rfl; (with_reducible repeat (first | refine blk_drewN ?_ _ | refine blk_drew ?_ | refine blk_alloc ?_ _)); refine blk_put (cs := #[.slice Ao37 x488000_3.length co37, .int .i64 x488001_3]) ?_ 0 _ rfl; (with_reducible repeat (first | refine blk_drewN ?_ _ | refine blk_drew ?_ | refine blk_alloc ?_ _)); exact BK487.out⟩, ⟨by repeat (first | (with_reducible first | exact HB.out | apply below_alloc | apply pw_below_drewN | apply below_drew1 | refine below_set ?_ GE478.out | refine below_set ?_ GE487.out | refine below_set ?_ GE497.out | refine below_set ?_ GE498.out) | exact HB.out)⟩⟩
                      · rw [if_neg c32] at H
                        exact absurd H (by simp)
                    · rw [if_neg c31] at H
                      have c31b0 : (t496 == 0) = false := beq_eq_false_iff_ne.mpr c31
                      have c31b1 : (t496 != 0) = true := bne_iff_ne.mpr c31
                      exact absurd ((Option.some.inj H).trans hrt.out) (by decide)
                  · rw [if_neg c29] at H
                    have c29b0 : decide (x8_3 < (t481.length : Int)) = false := decide_eq_false c29
                    clear c29
                    have H' := Aside0.mk H
                    clear H
                    obtain ⟨Ao55, co55, eo55⟩ := Kd.V_slice HO_1.out
                    subst eo55
                    go_wp2
                    go_loopg [13] k3 (fun kq v13 w' => ∃ (x13_4 : Int), v13 = .int .i64 x13_4 ∧ Aside0 (tattlelaw08_TurnOnce.l2 kq t481 x6_2 x7_3 x13_4 x479000_3 x479001_3 x488000_3 x488001_3 = some r) ∧ Aside0 (kq ≤ k3) ∧ Aside0 (Kd.V (Kd.int .i64) 3 w' w.heap.size (fun k_ => some k_ ≠ (u7 : Value).ownBlock ∧ k_ ≠ gb478 ∧ k_ ≠ gb487) (.slice Ao55 t481.length co55) t481) ∧ Aside0 (Kd.R (Kd.int .i64) 3 w' w.heap.size (fun _ => True) u7 x7_3) ∧ Aside0 (Kd.V (Kd.int .i64) 3 w' w.heap.size (fun k_ => some k_ ≠ (u7 : Value).ownBlock ∧ k_ ≠ gb478 ∧ k_ ≠ gb487) u488000 x488000_3) ∧ Aside0 (w'.heap[gb478]? = some (.cells #[.string x479000_3, .int .i64 x479001_3] 23 (0, 0))) ∧ Aside0 (w'.heap[gb487]? = some (.cells #[u488000, .int .i64 x488001_3] 49 (0, 0))) ∧ Aside0 (Below w.heap.size w w'))
                    case atStart => exact ⟨(0), (by first | rfl | (simp; done) | (simp [*]; done)), H', ⟨Nat.le_refl _⟩, ⟨by (with_reducible repeat (first | apply Kd.V_alloc | apply Kd.V_drewN | apply Kd.V_drew)); exact HO_1.out⟩, ⟨by (with_reducible repeat (first | apply Kd.R_alloc | apply Kd.R_drewN | apply Kd.R_drew)); exact HO_7.out⟩, ⟨by (with_reducible repeat (first | apply Kd.V_alloc | apply Kd.V_drewN | apply Kd.V_drew)); exact HO_488000.out⟩, ⟨by (with_reducible repeat (first | refine blk_drewN ?_ _ | refine blk_drew ?_ | refine blk_alloc ?_ _)); exact BK478.out⟩, ⟨by (with_reducible repeat (first | refine blk_drewN ?_ _ | refine blk_drew ?_ | refine blk_alloc ?_ _)); exact BK487.out⟩, ⟨by repeat (first | (with_reducible first | exact HB.out | apply below_alloc | apply pw_below_drewN | apply below_drew1 | refine below_set ?_ GE478.out | refine below_set ?_ GE487.out) | exact HB.out)⟩⟩
                    case round =>
                      clear H'
                      try clear c1
                      try clear c2
                      try clear p2
                      try clear c3
                      try clear c4
                      try clear p6
                      try clear c9
                      try clear c11
                      try clear c11b0
                      try clear c11b1
                      try clear c14
                      try clear c14b0
                      try clear c14b1
                      try clear c22
                      try clear c26
                      try clear c27
                      try clear c28
                      try clear c28b0
                      try clear c29
                      try clear c29b0
                      try clear c30
                      try clear c31
                      try clear c31b0
                      try clear c31b1
                      try clear c32
                      try clear c34
                      try clear c42
                      try clear c43
                      try clear c44
                      try clear c46
                      try clear c47
                      try clear hcz10_0
                      try clear hcz10_1
                      try clear hcz18_0
                      try clear hcz18_1
                      try clear hcz27_0
                      try clear hcz27_1
                      try clear hcz35_0
                      try clear hcz35_1
                      try clear hcz36_0
                      try clear hcz36_1
                      try clear hcz45_0
                      try clear hcz45_1
                      try clear hcz48_0
                      try clear hcz48_1
                      try clear hcz7_0
                      try clear hcz7_1
                      try clear hfz10_0
                      try clear hfz10_1
                      try clear hfz18_0
                      try clear hfz18_1
                      try clear hfz27_0
                      try clear hfz27_1
                      try clear hfz35_0
                      try clear hfz35_1
                      try clear hfz36_0
                      try clear hfz36_1
                      try clear hfz45_0
                      try clear hfz45_1
                      try clear hfz48_0
                      try clear hfz48_1
                      try clear hfz7_0
                      try clear hfz7_1
                      try clear p2
                      obtain ⟨x13_4, rfl, HA, HK4, HO_1, HO_7, HO_488000, BK478, BK487, HB⟩ := hrel
                      cases gk with
                      | zero => exact absurd HA.out (by simp [tattlelaw08_TurnOnce.l2])
                      | succ k4 =>
                        have H := HA.out
                        clear HA
                        simp only [tattlelaw08_TurnOnce.l2] at H
                        by_cases c56 : x13_4 < (t481.length : Int)
                        · rw [if_pos c56] at H
                          have c56b0 : decide (x13_4 < (t481.length : Int)) = true := decide_eq_true c56
                          clear c56
                          by_cases c57 : 0 ≤ x13_4
                          · rw [if_pos c57] at H
                            have c57b0 : decide (0 ≤ x13_4) = true := decide_eq_true c57
                            clear c57
                            replace H := Option.bind_eq_some_iff.mp H
                            obtain ⟨t503, A580, H⟩ := H
                            replace H : (if t503 = 1 then (tattlelaw08_TurnOnce.l2 k4 t481 x6_2 x7_3 (wrap64 (x13_4 + 1)) x479000_3 x479001_3 x488000_3 x488001_3) else (some false)) = some r := H
                            have A58 := Aside0.mk A580
                            clear A580
                            by_cases c59 : t503 = 1
                            · rw [if_pos c59] at H
                              have c59b0 : (t503 == 1) = true := beq_iff_eq.mpr c59
                              have c59b1 : (t503 != 1) = false := bne_eq_false_iff_eq.mpr c59
                              clear c59
                              have H' := Aside0.mk H
                              clear H
                              have p502 : 0 ≤ (x13_4 : Int) := of_decide_eq_true (by first | (with_reducible assumption) | assumption)
                              have q502 : x13_4 < (t481.length : Int) := of_decide_eq_true (by first | (with_reducible assumption) | assumption)
                              obtain ⟨ad502, e502, hx502_0⟩ := Kd.at_int (Kd.V_reads' HO_1.out).2.2 x13_4 p502 q502
                              cases e502
                              replace p502 := eq_true p502
                              replace q502 := eq_true q502
                              obtain ⟨Ao60, co60, eo60⟩ := Kd.R_slice HO_7.out
                              subst eo60
                              go_wp2_with (first | ((with_reducible refine gate_callee (f := 26) rfl ?_); refine goesL_ (some 71) rfl rfl Try.func26 (by kernel_rfl) rfl #[.slice Ao60 x7_3.length co60, .int .i64 (rd t481 x13_4)] rfl (by (try simp only [List.map_toArray, List.map_cons, List.map_nil]); first | done | rfl | (simp only [List.length_drop, List.length_take]; rfl)) ?_; (with_reducible refine (tattleref02_Many.calls k4 _ _ x7_3 (rd t481 x13_4) t503 _ ?side1 ?side2 A58.out).mono ?_); (case side1 => repeat (first | exact (Kd.R_reads' HO_7.out).2.2 | (with_reducible refine Kd.C_alloc ?_ _) | (with_reducible refine Kd.C_drewN ?_ _) | (with_reducible refine Kd.C_drew ?_))); (case side2 => exact (Kd.R_reads' HO_7.out).2.1); rintro e w' ⟨rfl, ⟨nd, rfl⟩⟩; refine ⟨_, rfl, ?_⟩))
                              go_roundg k4
                              case measure => have := HJ4.out; have := HK2.out; have := HK3.out; have := HK4.out; omega
                              case rel => exact ⟨(wrap64 (x13_4 + 1)), (by first | rfl | (simp; done) | (simp [*]; done)), H', ⟨by have := HJ4.out; have := HK2.out; have := HK3.out; have := HK4.out; omega⟩, ⟨by (with_reducible repeat (first | apply Kd.V_alloc | apply Kd.V_drewN | apply Kd.V_drew)); exact HO_1.out⟩, ⟨by (with_reducible repeat (first | apply Kd.R_alloc | apply Kd.R_drewN | apply Kd.R_drew)); exact HO_7.out⟩, ⟨by (with_reducible repeat (first | apply Kd.V_alloc | apply Kd.V_drewN | apply Kd.V_drew)); exact HO_488000.out⟩, ⟨by (with_reducible repeat (first | refine blk_drewN ?_ _ | refine blk_drew ?_ | refine blk_alloc ?_ _)); exact BK478.out⟩, ⟨by (with_reducible repeat (first | refine blk_drewN ?_ _ | refine blk_drew ?_ | refine blk_alloc ?_ _)); exact BK487.out⟩, ⟨by repeat (first | (with_reducible first | exact HB.out | apply below_alloc | apply pw_below_drewN | apply below_drew1 | refine below_set ?_ GE478.out | refine below_set ?_ GE487.out) | exact HB.out)⟩⟩
                            · rw [if_neg c59] at H
                              have c59b0 : (t503 == 1) = false := beq_eq_false_iff_ne.mpr c59
                              have c59b1 : (t503 != 1) = true := bne_iff_ne.mpr c59
                              exact absurd ((Option.some.inj H).trans hrt.out) (by decide)
                          · rw [if_neg c57] at H
                            exact absurd H (by simp)
                        · rw [if_neg c56] at H
                          have c56b0 : decide (x13_4 < (t481.length : Int)) = false := decide_eq_false c56
                          clear c56
                          by_cases c61 : x488001_3 = (t481.length : Int)
                          · rw [if_pos c61] at H
                            have c61b0 : (x488001_3 == (t481.length : Int)) = true := beq_iff_eq.mpr c61
                            have c61b1 : (x488001_3 != (t481.length : Int)) = false := bne_eq_false_iff_eq.mpr c61
                            clear c61
                            have H' := Aside0.mk H
                            clear H
                            have hnb62 := NB487_478.out
                            have hnc62 := NB478_487.out
                            have hcz63_0 : wr.cell? ⟨gb487, 0, none⟩ = some (u488000) := (blk_cell BK487.out 0).trans rfl
                            have hcz63_1 : wr.cell? ⟨gb487, 1, none⟩ = some (.int .i64 x488001_3) := (blk_cell BK487.out 1).trans rfl
                            have hfz63_0 := blk_frozen BK487.out 0
                            have hfz63_1 := blk_frozen BK487.out 1
                            go_wp2
                            go_roundg k4
                            case measure => have := HJ4.out; have := HK2.out; have := HK3.out; have := HK4.out; omega
                            case rel => exact ⟨(wrap64 (x6_2 + 1)), (x479000_3), (x479001_3), (x488000_3), (x488001_3), (u488000), (by first | rfl | (simp; done) | (simp [*]; done)), H', ⟨by have := HJ4.out; have := HK2.out; have := HK3.out; have := HK4.out; omega⟩, ⟨by (with_reducible repeat (first | apply Kd.V_alloc | apply Kd.V_drewN | apply Kd.V_drew)); exact Kd.V_mono HO_1.out (fun _ hk => ⟨hk.2.1, hk.2.2⟩)⟩, ⟨by (with_reducible repeat (first | apply Kd.V_alloc | apply Kd.V_drewN | apply Kd.V_drew)); exact Kd.V_mono HO_488000.out (fun _ hk => ⟨hk.2.1, hk.2.2⟩)⟩, ⟨by (with_reducible repeat (first | refine blk_drewN ?_ _ | refine blk_drew ?_ | refine blk_alloc ?_ _)); exact BK478.out⟩, ⟨by (with_reducible repeat (first | refine blk_drewN ?_ _ | refine blk_drew ?_ | refine blk_alloc ?_ _)); exact BK487.out⟩, ⟨by repeat (first | (with_reducible first | exact HB.out | apply below_alloc | apply pw_below_drewN | apply below_drew1 | refine below_set ?_ GE478.out | refine below_set ?_ GE487.out) | exact HB.out)⟩⟩
                          · rw [if_neg c61] at H
                            have c61b0 : (x488001_3 == (t481.length : Int)) = false := beq_eq_false_iff_ne.mpr c61
                            have c61b1 : (x488001_3 != (t481.length : Int)) = true := bne_iff_ne.mpr c61
                            exact absurd ((Option.some.inj H).trans hrt.out) (by decide)
            · rw [if_neg c28] at H
              have c28b0 : decide (x6_2 < 3) = false := decide_eq_false c28
              clear c28
              replace H := Option.bind_eq_some_iff.mp H
              obtain ⟨t488, A640, H⟩ := H
              replace H : (some t488) = some r := H
              have A64 := Aside0.mk A640
              clear A640
              obtain rfl := Option.some.inj H
              go_wp2_with (first | ((with_reducible refine gate_callee (f := 30) rfl ?_); refine goesL_ (some 78) rfl rfl Try.func30 (by kernel_rfl) rfl #[] rfl (by (try simp only [List.map_toArray, List.map_cons, List.map_nil]); first | done | rfl | (simp only [List.length_drop, List.length_take]; rfl)) ?_; (with_reducible refine (tattlelaw08_awakeT.calls  t488 _ A64.out).mono ?_); rintro e w65 ⟨rfl, hb⟩; refine ⟨_, rfl, ?_⟩; have n0_ := Aside0.mk (Kd.V_below (by (with_reducible repeat (first | apply Kd.V_alloc | apply Kd.V_drewN | apply Kd.V_drew)); exact HO_488000.out) hb); have n1_ := Aside0.mk (blk_below (g := gb478) (o := .cells #[.string x479000_2, .int .i64 x479001_2] 23 (0, 0)) (by (with_reducible repeat (first | refine blk_drewN ?_ _ | refine blk_drew ?_ | refine blk_alloc ?_ _)); exact BK478.out) hb); have n2_ := Aside0.mk (blk_below (g := gb487) (o := .cells #[u488000, .int .i64 x488001_2] 49 (0, 0)) (by (with_reducible repeat (first | refine blk_drewN ?_ _ | refine blk_drew ?_ | refine blk_alloc ?_ _)); exact BK487.out) hb); have n3_ := Aside0.mk (below_step (by repeat (first | (with_reducible first | exact HB.out | apply below_alloc | apply pw_below_drewN | apply below_drew1 | refine below_set ?_ GE478.out | refine below_set ?_ GE487.out) | exact HB.out)) hb); clear HO_488000; clear BK478; clear BK487; clear HB; have HO_488000 := n0_; have BK478 := n1_; have BK487 := n2_; have HB := n3_; clear n0_ n1_ n2_ n3_; (try clear hb); (try clear hb2); (try clear hk); (try clear hi)))
              go_ret
              exact ⟨by first | rfl | (simp [errW_none, errW_some] <;> rfl) | (simp [*, errW_none, errW_some] <;> rfl), by repeat (first | (with_reducible first | exact HB.out | apply below_alloc | apply pw_below_drewN | apply below_drew1 | refine below_set ?_ GE478.out | refine below_set ?_ GE487.out) | exact HB.out)⟩

-- NOT PRINTED: function 10 (tattlelaw08_TurnGone)

end Go.Proofs.Ytlanodnbdgiihaa.Fn
