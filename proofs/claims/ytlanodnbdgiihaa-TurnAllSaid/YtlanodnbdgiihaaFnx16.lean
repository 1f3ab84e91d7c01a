-- Written by program (a turned copy of the kit's print) for this seat: functions, contracts. Lean checks it.
import Derived.Test.YtlanodnbdgiihaaFnx0
import Derived.Test.YtlanodnbdgiihaaFnx2
import Derived.Test.YtlanodnbdgiihaaFnx8
import Derived.Test.YtlanodnbdgiihaaFnx13
import Derived.Test.YtlanodnbdgiihaaFnx14
import Derived.Test.YtlanodnbdgiihaaAw30
namespace Go.Proofs.Ytlanodnbdgiihaa.Fn
open Go.RowKit Go.Proofs.YtlanodnbdgiihaaW.PrintWords Go.Proofs.YtlanodnbdgiihaaW.PrintLast Go.Proofs.YtlanodnbdgiihaaW.PrintMore
attribute [local go_sem] max2_int min2_int max_two min_two max_three min_three max_four min_four   -- for this text's walks alone
set_option linter.unusedVariables false
set_option linter.unusedSimpArgs false

/-! ### tattlelaw08_TurnAll: function 8 -/
mutual
def tattlelaw08_TurnAll.j0 : Nat → List Int → Bool → List Int → Int → ByteArray → Int → Option (Bool)
  | 0, _, _, _, _, _, _ => none
  | k + 1, x2, x46, x444000, x444001, x445000, x445001 => if x46 = true then ((tattlelaw08_awakeT.f).bind fun t456 => (some t456)) else (tattlelaw08_TurnAll.l0 k x2 ([] : List Int) 0 x444000 x444001 x445000 x445001)
def tattlelaw08_TurnAll.l0 : Nat → List Int → List Int → Int → List Int → Int → ByteArray → Int → Option (Bool)
  | 0, _, _, _, _, _, _, _ => none
  | k + 1, x2, x7, x8, x444000, x444001, x445000, x445001 => if x8 < (wrap64 (6 * (x2.length : Int))) then ((turn_Next.f k x444000 x444001 x445000 x445001 x2).bind fun bt457 => (if bt457.2.2.2.2.2 = 0 then ((tattleref02_Many.f k x2 bt457.1).bind fun t467 => (if t467 = 1 then (if x7.length < 17592186044416 then (tattlelaw08_TurnAll.l0 k x2 (x7 ++ [bt457.1]) (wrap64 (x8 + 1)) bt457.2.1 bt457.2.2.1 bt457.2.2.2.1 bt457.2.2.2.2.1) else (none)) else (some false))) else (some false))) else (tattlelaw08_TurnAll.l1 k x2 x7 (wrap64 ((wrap64 (2 * (x2.length : Int))) - 1)) 0)
def tattlelaw08_TurnAll.l1 : Nat → List Int → List Int → Int → Int → Option (Bool)
  | 0, _, _, _, _ => none
  | k + 1, x2, x7, x13, x14 => if (wrap64 (x14 + x13)) ≤ (x7.length : Int) then (tattlelaw08_TurnAll.l2 k x2 x7 x13 x14 0) else ((tattlelaw08_awakeT.f).bind fun t471 => (some t471))
def tattlelaw08_TurnAll.l2 : Nat → List Int → List Int → Int → Int → Int → Option (Bool)
  | 0, _, _, _, _, _ => none
  | k + 1, x2, x7, x13, x14, x15 => if x15 < (x2.length : Int) then (if 0 ≤ x14 then (if x14 ≤ (wrap64 (x14 + x13)) then (if (wrap64 (x14 + x13)) ≤ (x7.length : Int) then (if 0 ≤ x15 then ((tattleref02_Many.f k ((x7.take ((wrap64 (x14 + x13)) : Int).toNat).drop (x14 : Int).toNat) (rd x2 x15)).bind fun t477 => (if t477 = 0 then (some false) else (tattlelaw08_TurnAll.l2 k x2 x7 x13 x14 (wrap64 (x15 + 1))))) else (none)) else (none)) else (none)) else (none)) else (tattlelaw08_TurnAll.l1 k x2 x7 x13 (wrap64 (x14 + 1)))
end
def tattlelaw08_TurnAll.f (k : Nat) (l0_0 : List Int) (a0_1 : Int) (a1_0 : ByteArray) (a1_1 : Int) (l2 : List Int) : Option (Bool) := (tattlelaw08_Few.f l0_0).bind fun t445 => ((tattlelaw02_Few.f a1_0 a1_1).bind fun bt448 => ((tattlelaw08_Few.f l2).bind fun t450 => (if (t450.length : Int) > 10 then (tattlelaw08_TurnAll.j0 k t450 true t445 a0_1 bt448.1 bt448.2) else (if (t450.length : Int) = 0 then (tattlelaw08_TurnAll.j0 k t450 true t445 a0_1 bt448.1 bt448.2) else ((turn_Nodes.f k t450).bind fun t453 => (if t453 = 0 then ((turn_Check.f t445 a0_1).bind fun t454 => (if t454 = 0 then ((tattleref02_May.f bt448.1 bt448.2).bind fun t455 => (tattlelaw08_TurnAll.j0 k t450 (!t455) t445 a0_1 bt448.1 bt448.2)) else (tattlelaw08_TurnAll.j0 k t450 true t445 a0_1 bt448.1 bt448.2))) else (tattlelaw08_TurnAll.j0 k t450 true t445 a0_1 bt448.1 bt448.2)))))))
theorem tattlelaw08_TurnAll.mono_l : ∀ k, (∀ y0 y1 y2 y3 y4 y5, LeO (tattlelaw08_TurnAll.j0 k y0 y1 y2 y3 y4 y5) (tattlelaw08_TurnAll.j0 (k + 1) y0 y1 y2 y3 y4 y5)) ∧ (∀ y0 y1 y2 y3 y4 y5 y6, LeO (tattlelaw08_TurnAll.l0 k y0 y1 y2 y3 y4 y5 y6) (tattlelaw08_TurnAll.l0 (k + 1) y0 y1 y2 y3 y4 y5 y6)) ∧ (∀ y0 y1 y2 y3, LeO (tattlelaw08_TurnAll.l1 k y0 y1 y2 y3) (tattlelaw08_TurnAll.l1 (k + 1) y0 y1 y2 y3)) ∧ (∀ y0 y1 y2 y3 y4, LeO (tattlelaw08_TurnAll.l2 k y0 y1 y2 y3 y4) (tattlelaw08_TurnAll.l2 (k + 1) y0 y1 y2 y3 y4))
  | 0 => ⟨fun _ _ _ _ _ _ r h => by simp [tattlelaw08_TurnAll.j0] at h, fun _ _ _ _ _ _ _ r h => by simp [tattlelaw08_TurnAll.l0] at h, fun _ _ _ _ r h => by simp [tattlelaw08_TurnAll.l1] at h, fun _ _ _ _ _ r h => by simp [tattlelaw08_TurnAll.l2] at h⟩
  | k + 1 => by
    obtain ⟨ih0, ih1, ih2, ih3⟩ := tattlelaw08_TurnAll.mono_l k
    refine ⟨?_, ?_, ?_, ?_⟩
    · intro y0 y1 y2 y3 y4 y5
      unfold tattlelaw08_TurnAll.j0
      repeat' first
      | (with_reducible exact ih0 _ _ _ _ _ _)
      | (with_reducible exact ih1 _ _ _ _ _ _ _)
      | (with_reducible exact ih2 _ _ _ _)
      | (with_reducible exact ih3 _ _ _ _ _)
      | (with_reducible exact tattleref02_Many.mono _ _ _)
      | (with_reducible exact turn_Next.mono _ _ _ _ _ _)
      | (with_reducible exact turn_Nodes.mono _ _)
      | (with_reducible exact LeO.refl _)
      | (with_reducible exact LeO.none _)
      | (with_reducible refine LeO.ite ?_ ?_)
      | (with_reducible refine LeO.bind ?_ (fun _ => ?_))
      | exact ih0 _ _ _ _ _ _
      | exact ih1 _ _ _ _ _ _ _
      | exact ih2 _ _ _ _
      | exact ih3 _ _ _ _ _
      | exact tattleref02_Many.mono _ _ _
      | exact turn_Next.mono _ _ _ _ _ _
      | exact turn_Nodes.mono _ _
      | exact LeO.none _
      | refine LeO.ite ?_ ?_
      | refine LeO.bind ?_ (fun _ => ?_)
    · intro y0 y1 y2 y3 y4 y5 y6
      unfold tattlelaw08_TurnAll.l0
      repeat' first
      | (with_reducible exact ih0 _ _ _ _ _ _)
      | (with_reducible exact ih1 _ _ _ _ _ _ _)
      | (with_reducible exact ih2 _ _ _ _)
      | (with_reducible exact ih3 _ _ _ _ _)
      | (with_reducible exact tattleref02_Many.mono _ _ _)
      | (with_reducible exact turn_Next.mono _ _ _ _ _ _)
      | (with_reducible exact turn_Nodes.mono _ _)
      | (with_reducible exact LeO.refl _)
      | (with_reducible exact LeO.none _)
      | (with_reducible refine LeO.ite ?_ ?_)
      | (with_reducible refine LeO.bind ?_ (fun _ => ?_))
      | exact ih0 _ _ _ _ _ _
      | exact ih1 _ _ _ _ _ _ _
      | exact ih2 _ _ _ _
      | exact ih3 _ _ _ _ _
      | exact tattleref02_Many.mono _ _ _
      | exact turn_Next.mono _ _ _ _ _ _
      | exact turn_Nodes.mono _ _
      | exact LeO.none _
      | refine LeO.ite ?_ ?_
      | refine LeO.bind ?_ (fun _ => ?_)
    · intro y0 y1 y2 y3
      unfold tattlelaw08_TurnAll.l1
      repeat' first
      | (with_reducible exact ih0 _ _ _ _ _ _)
      | (with_reducible exact ih1 _ _ _ _ _ _ _)
      | (with_reducible exact ih2 _ _ _ _)
      | (with_reducible exact ih3 _ _ _ _ _)
      | (with_reducible exact tattleref02_Many.mono _ _ _)
      | (with_reducible exact turn_Next.mono _ _ _ _ _ _)
      | (with_reducible exact turn_Nodes.mono _ _)
      | (with_reducible exact LeO.refl _)
      | (with_reducible exact LeO.none _)
      | (with_reducible refine LeO.ite ?_ ?_)
      | (with_reducible refine LeO.bind ?_ (fun _ => ?_))
      | exact ih0 _ _ _ _ _ _
      | exact ih1 _ _ _ _ _ _ _
      | exact ih2 _ _ _ _
      | exact ih3 _ _ _ _ _
      | exact tattleref02_Many.mono _ _ _
      | exact turn_Next.mono _ _ _ _ _ _
      | exact turn_Nodes.mono _ _
      | exact LeO.none _
      | refine LeO.ite ?_ ?_
      | refine LeO.bind ?_ (fun _ => ?_)
    · intro y0 y1 y2 y3 y4
      unfold tattlelaw08_TurnAll.l2
      repeat' first
      | (with_reducible exact ih0 _ _ _ _ _ _)
      | (with_reducible exact ih1 _ _ _ _ _ _ _)
      | (with_reducible exact ih2 _ _ _ _)
      | (with_reducible exact ih3 _ _ _ _ _)
      | (with_reducible exact tattleref02_Many.mono _ _ _)
      | (with_reducible exact turn_Next.mono _ _ _ _ _ _)
      | (with_reducible exact turn_Nodes.mono _ _)
      | (with_reducible exact LeO.refl _)
      | (with_reducible exact LeO.none _)
      | (with_reducible refine LeO.ite ?_ ?_)
      | (with_reducible refine LeO.bind ?_ (fun _ => ?_))
      | exact ih0 _ _ _ _ _ _
      | exact ih1 _ _ _ _ _ _ _
      | exact ih2 _ _ _ _
      | exact ih3 _ _ _ _ _
      | exact tattleref02_Many.mono _ _ _
      | exact turn_Next.mono _ _ _ _ _ _
      | exact turn_Nodes.mono _ _
      | exact LeO.none _
      | refine LeO.ite ?_ ?_
      | refine LeO.bind ?_ (fun _ => ?_)
theorem tattlelaw08_TurnAll.mono : ∀ a0 a1 a2 a3 a4 k, LeO (tattlelaw08_TurnAll.f k a0 a1 a2 a3 a4) (tattlelaw08_TurnAll.f (k + 1) a0 a1 a2 a3 a4) := by
  intro a0 a1 a2 a3 a4 k
  obtain ⟨ih0, ih1, ih2, ih3⟩ := tattlelaw08_TurnAll.mono_l k
  unfold tattlelaw08_TurnAll.f
  repeat' first
      | (with_reducible exact ih0 _ _ _ _ _ _)
      | (with_reducible exact ih1 _ _ _ _ _ _ _)
      | (with_reducible exact ih2 _ _ _ _)
      | (with_reducible exact ih3 _ _ _ _ _)
      | (with_reducible exact tattleref02_Many.mono _ _ _)
      | (with_reducible exact turn_Next.mono _ _ _ _ _ _)
      | (with_reducible exact turn_Nodes.mono _ _)
      | (with_reducible exact LeO.refl _)
      | (with_reducible exact LeO.none _)
      | (with_reducible refine LeO.ite ?_ ?_)
      | (with_reducible refine LeO.bind ?_ (fun _ => ?_))
      | exact ih0 _ _ _ _ _ _
      | exact ih1 _ _ _ _ _ _ _
      | exact ih2 _ _ _ _
      | exact ih3 _ _ _ _ _
      | exact tattleref02_Many.mono _ _ _
      | exact turn_Next.mono _ _ _ _ _ _
      | exact turn_Nodes.mono _ _
      | exact LeO.none _
      | refine LeO.ite ?_ ?_
      | refine LeO.bind ?_ (fun _ => ?_)
def tattlelaw08_TurnAll.T1 : Bool × List (List Nat × List Nat) := (true, [([], []), ([0], [0]), ([1], [1]), ([], []), ([3, 2], [3]), ([], []), ([5, 4], [5]), ([0, 1, 2], []), ([7, 2, 6, 0, 1, 2], [2, 7]), ([4, 8, 0, 1, 2, 3, 4, 7, 8], [4]), ([6, 9, 0, 1, 2, 3, 4, 5, 6, 7, 8, 9], [5, 6])])
def tattlelaw08_TurnAll.B1 : List Nat := [0, 1, 3, 0, 15, 0, 63, 7, 255, 511, 1023]
theorem tattlelaw08_TurnAll.tab1 : rtab .any (opsOf Try.f8 1) = tattlelaw08_TurnAll.T1 := by kernel_rfl
theorem tattlelaw08_TurnAll.bits1 : waitsOk tattlelaw08_TurnAll.T1.2 tattlelaw08_TurnAll.B1 = true := by kernel_rfl
def tattlelaw08_TurnAll.T20 : Bool × List (List Nat × List Nat) := (true, [([], []), ([], []), ([], []), ([], []), ([2, 3], [2, 3]), ([0, 1, 4], [0, 1, 4]), ([], []), ([], []), ([6, 7], [6, 7]), ([8], [8]), ([5, 9], [5, 9]), ([10], [10])])
def tattlelaw08_TurnAll.B20 : List Nat := [0, 0, 0, 0, 12, 31, 0, 0, 192, 448, 1023, 2047]
theorem tattlelaw08_TurnAll.tab20 : rtab .any (opsOf Try.f8 20) = tattlelaw08_TurnAll.T20 := by kernel_rfl
theorem tattlelaw08_TurnAll.bits20 : waitsOk tattlelaw08_TurnAll.T20.2 tattlelaw08_TurnAll.B20 = true := by kernel_rfl
set_option maxHeartbeats 8000000 in
set_option maxRecDepth 100000 in
theorem tattlelaw08_TurnAll.calls (k : Nat) (A0_0 : Option Addr) (c0_0 : Nat) (l0_0 : List Int) (a0_1 : Int) (a1_0 : ByteArray) (a1_1 : Int) (A2 : Option Addr) (c2 : Nat) (l2 : List Int) (r : Bool) (w : World) (hr0_0 : Kd.C (Kd.int .i64) w A0_0 l0_0.length l0_0) (hc0_0 : l0_0.length ≤ c0_0) (hr2 : Kd.C (Kd.int .i64) w A2 l2.length l2) (hc2 : l2.length ≤ c2) (hrt : Aside0 (r = true)) (h : tattlelaw08_TurnAll.f k l0_0 a0_1 a1_0 a1_1 l2 = some r) :
    Calls Try.prog 8 #[.agg #[.slice A0_0 l0_0.length c0_0, .int .i64 a0_1], .agg #[.string a1_0, .int .i64 a1_1], .slice A2 l2.length c2] w fun e w' => e = .returned (.bool r) ∧ Below w.heap.size w w' := by
  have hu49 := Try.underlying49
  have hu23 := Try.underlying23
  have HR0_0 := Aside0.mk hr0_0
  have HC0_0 := Aside0.mk hc0_0
  clear hr0_0 hc0_0
  have HR2 := Aside0.mk hr2
  have HC2 := Aside0.mk hc2
  clear hr2 hc2
  have HB := Aside0.mk (Below.refl w.heap.size w)
  have H : ((tattlelaw08_Few.f l0_0).bind fun t445 => ((tattlelaw02_Few.f a1_0 a1_1).bind fun bt448 => ((tattlelaw08_Few.f l2).bind fun t450 => (if (t450.length : Int) > 10 then (tattlelaw08_TurnAll.j0 k t450 true t445 a0_1 bt448.1 bt448.2) else (if (t450.length : Int) = 0 then (tattlelaw08_TurnAll.j0 k t450 true t445 a0_1 bt448.1 bt448.2) else ((turn_Nodes.f k t450).bind fun t453 => (if t453 = 0 then ((turn_Check.f t445 a0_1).bind fun t454 => (if t454 = 0 then ((tattleref02_May.f bt448.1 bt448.2).bind fun t455 => (tattlelaw08_TurnAll.j0 k t450 (!t455) t445 a0_1 bt448.1 bt448.2)) else (tattlelaw08_TurnAll.j0 k t450 true t445 a0_1 bt448.1 bt448.2))) else (tattlelaw08_TurnAll.j0 k t450 true t445 a0_1 bt448.1 bt448.2)))))))) = some r := h
  clear h
  replace H := Option.bind_eq_some_iff.mp H
  obtain ⟨t445, A40, H⟩ := H
  replace H : ((tattlelaw02_Few.f a1_0 a1_1).bind fun bt448 => ((tattlelaw08_Few.f l2).bind fun t450 => (if (t450.length : Int) > 10 then (tattlelaw08_TurnAll.j0 k t450 true t445 a0_1 bt448.1 bt448.2) else (if (t450.length : Int) = 0 then (tattlelaw08_TurnAll.j0 k t450 true t445 a0_1 bt448.1 bt448.2) else ((turn_Nodes.f k t450).bind fun t453 => (if t453 = 0 then ((turn_Check.f t445 a0_1).bind fun t454 => (if t454 = 0 then ((tattleref02_May.f bt448.1 bt448.2).bind fun t455 => (tattlelaw08_TurnAll.j0 k t450 (!t455) t445 a0_1 bt448.1 bt448.2)) else (tattlelaw08_TurnAll.j0 k t450 true t445 a0_1 bt448.1 bt448.2))) else (tattlelaw08_TurnAll.j0 k t450 true t445 a0_1 bt448.1 bt448.2))))))) = some r := H
  have A4 := Aside0.mk A40
  clear A40
  replace H := Option.bind_eq_some_iff.mp H
  obtain ⟨⟨t448, t449⟩, A50, H⟩ := H
  replace H : ((tattlelaw08_Few.f l2).bind fun t450 => (if (t450.length : Int) > 10 then (tattlelaw08_TurnAll.j0 k t450 true t445 a0_1 t448 t449) else (if (t450.length : Int) = 0 then (tattlelaw08_TurnAll.j0 k t450 true t445 a0_1 t448 t449) else ((turn_Nodes.f k t450).bind fun t453 => (if t453 = 0 then ((turn_Check.f t445 a0_1).bind fun t454 => (if t454 = 0 then ((tattleref02_May.f t448 t449).bind fun t455 => (tattlelaw08_TurnAll.j0 k t450 (!t455) t445 a0_1 t448 t449)) else (tattlelaw08_TurnAll.j0 k t450 true t445 a0_1 t448 t449))) else (tattlelaw08_TurnAll.j0 k t450 true t445 a0_1 t448 t449)))))) = some r := H
  have A5 := Aside0.mk A50
  clear A50
  replace H := Option.bind_eq_some_iff.mp H
  obtain ⟨t450, A60, H⟩ := H
  replace H : (if (t450.length : Int) > 10 then (tattlelaw08_TurnAll.j0 k t450 true t445 a0_1 t448 t449) else (if (t450.length : Int) = 0 then (tattlelaw08_TurnAll.j0 k t450 true t445 a0_1 t448 t449) else ((turn_Nodes.f k t450).bind fun t453 => (if t453 = 0 then ((turn_Check.f t445 a0_1).bind fun t454 => (if t454 = 0 then ((tattleref02_May.f t448 t449).bind fun t455 => (tattlelaw08_TurnAll.j0 k t450 (!t455) t445 a0_1 t448 t449)) else (tattlelaw08_TurnAll.j0 k t450 true t445 a0_1 t448 t449))) else (tattlelaw08_TurnAll.j0 k t450 true t445 a0_1 t448 t449))))) = some r := H
  have A6 := Aside0.mk A60
  clear A60
  have HC7 := Aside0.mk H
  clear H
  go_enter Try.func8, Try.ntmps8
  try go_wp2_with (first | ((with_reducible refine gate_dst (N := 3) rfl ?_); (try (refine gate_guard (by rfl) ?_; dsimp only)); refine box_event ?hg (N := 3) ?hd (cs := #[.slice A0_0 l0_0.length c0_0, .int .i64 a0_1]) (t := 49) ?hr ?_; (case hd => rfl); (case hg => rfl); (case hr => first | (go_simp; done) | (go_simp; rfl)); intro gb443 hg w8 hbox hb; have n0_ := Aside0.mk (below_step (by repeat (first | (with_reducible first | exact HB.out | apply below_alloc | apply pw_below_drewN | apply below_drew1) | exact HB.out)) hb); have n1_ := Aside0.mk (hbox); have n2_ := Aside0.mk ((by rw [hg]; exact (below_size (by repeat (first | (with_reducible first | exact HB.out | apply below_alloc | apply pw_below_drewN | apply below_drew1) | exact HB.out))) : w.heap.size ≤ gb443)); have n3_ := Aside0.mk ((by rw [hg]; exact (below_size (by repeat (first | (with_reducible first | exact HB.out | apply below_alloc | apply pw_below_drewN | apply below_drew1) | exact HB.out))) : w.heap.size ≤ gb443)); clear HB; have HB := n0_; have BK443 := n1_; have GW443 := n2_; have GE443 := n3_; clear n0_ n1_ n2_ n3_; clear hb hbox hg) | ((with_reducible refine gate_dst (N := 4) rfl ?_); (try (refine gate_guard (by rfl) ?_; dsimp only)); refine box_event ?hg (N := 4) ?hd (cs := #[.string a1_0, .int .i64 a1_1]) (t := 23) ?hr ?_; (case hd => rfl); (case hg => rfl); (case hr => first | (go_simp; done) | (go_simp; rfl)); intro gb444 hg w9 hbox hb; have n0_ := Aside0.mk (blk_below (g := gb443) (o := .cells #[.slice A0_0 l0_0.length c0_0, .int .i64 a0_1] 49 (0, 0)) (by (with_reducible repeat (first | refine blk_drewN ?_ _ | refine blk_drew ?_ | refine blk_alloc ?_ _)); exact BK443.out) hb); have n1_ := Aside0.mk (below_step (by repeat (first | (with_reducible first | exact HB.out | apply below_alloc | apply pw_below_drewN | apply below_drew1 | refine below_set ?_ GE443.out) | exact HB.out)) hb); have n2_ := Aside0.mk (hbox); have n3_ := Aside0.mk ((by rw [hg]; exact (below_size (by repeat (first | (with_reducible first | exact HB.out | apply below_alloc | apply pw_below_drewN | apply below_drew1 | refine below_set ?_ GE443.out) | exact HB.out))) : w.heap.size ≤ gb444)); have n4_ := Aside0.mk ((by rw [hg]; exact (below_size (by repeat (first | (with_reducible first | exact HB.out | apply below_alloc | apply pw_below_drewN | apply below_drew1 | refine below_set ?_ GE443.out) | exact HB.out))) : w.heap.size ≤ gb444)); have n5_ := Aside0.mk ((by rw [hg]; exact Nat.ne_of_lt (blk_lt (g := gb443) (o := .cells #[.slice A0_0 l0_0.length c0_0, .int .i64 a0_1] 49 (0, 0)) (by (with_reducible repeat (first | refine blk_drewN ?_ _ | refine blk_drew ?_ | refine blk_alloc ?_ _)); exact BK443.out)) : gb443 ≠ gb444)); have n6_ := Aside0.mk ((by rw [hg]; exact Nat.ne_of_gt (blk_lt (g := gb443) (o := .cells #[.slice A0_0 l0_0.length c0_0, .int .i64 a0_1] 49 (0, 0)) (by (with_reducible repeat (first | refine blk_drewN ?_ _ | refine blk_drew ?_ | refine blk_alloc ?_ _)); exact BK443.out)) : gb444 ≠ gb443)); clear BK443; clear HB; have BK443 := n0_; have HB := n1_; have BK444 := n2_; have GW444 := n3_; have GE444 := n4_; have NB443_444 := n5_; have NB444_443 := n6_; clear n0_ n1_ n2_ n3_ n4_ n5_ n6_; clear hb hbox hg))
  have n0_ := Aside0.mk (blk_drew BK443.out)
  have n1_ := Aside0.mk (blk_drew BK444.out)
  have n2_ := Aside0.mk (below_drew1 HB.out)
  clear BK443
  clear BK444
  clear HB
  have BK443 := n0_
  have BK444 := n1_
  have HB := n2_
  clear n0_ n1_ n2_
  refine start_ (n := 11) (S := fun w' => w'.cell? ⟨gb443, 0, none⟩ = some (.slice A0_0 l0_0.length c0_0) ∧ w'.cell? ⟨gb443, 1, none⟩ = some (.int .i64 a0_1) ∧ w'.cell? ⟨gb444, 0, none⟩ = some (.string a1_0) ∧ w'.cell? ⟨gb444, 1, none⟩ = some (.int .i64 a1_1)) (ds := [8, 9]) #[false, false, false, false, false, false, false, false, false, false, false] (by kernel_rfl) rfl rfl ⟨(blk_cell BK443.out 0).trans rfl, (blk_cell BK443.out 1).trans rfl, (blk_cell BK444.out 0).trans rfl, (blk_cell BK444.out 1).trans rfl⟩ (fun hHeld => ?_); refine with_tabW tattlelaw08_TurnAll.tab1 tattlelaw08_TurnAll.bits1 (fun HT_ HW_ => ?_)
  generalize w9.drew = w10 at BK443 BK444 HB hHeld ⊢
  refine pure_ (i := 0) (N := some 16) (v := ?_) (a' := ?_) #[true, false, false, false, false, false, false, false, false, false, false] rfl rfl (any_of HT_.out (by kernel_rfl)) (fun _ _ _ h => h) (Or.inl ⟨by rfl, ?_⟩) ?_ ?_
  rotate_left
  · intro w'
    go_simp
    with_reducible rfl
  rotate_left
  · simp only [Act.put, List.setIfInBounds_toArray, List.set_cons_zero, List.set_cons_succ, i64_w, i32_w]
    rfl
  refine pure_ (i := 5) (N := some 21) (v := ?_) (a' := ?_) #[true, false, false, false, false, true, false, false, false, false, false] rfl rfl (any_of HT_.out (by kernel_rfl)) (fun _ _ _ h => h) (Or.inl ⟨by rfl, ?_⟩) ?_ ?_
  rotate_left
  · intro w'
    go_simp
    with_reducible rfl
  rotate_left
  · simp only [Act.put, List.setIfInBounds_toArray, List.set_cons_zero, List.set_cons_succ, i64_w, i32_w]
    rfl
  refine take_ (i := 1) (N := some 17) (v := ?_) (a' := ?_) #[true, true, false, false, false, true, false, false, false, false, false] rfl rfl (take_ofW HT_.out HW_.out (by kernel_rfl)) (fun _ _ _ h => h) (Or.inl ⟨by rfl, ?_⟩) hHeld ?_ ?_
  rotate_left
  · rintro w' ⟨s0, s1, s2, s3⟩
    go_simp
    with_reducible rfl
  rotate_left
  · simp only [Act.put, List.setIfInBounds_toArray, List.set_cons_zero, List.set_cons_succ, i64_w, i32_w]
    rfl
  refine take_ (i := 3) (N := some 19) (v := ?_) (a' := ?_) #[true, true, false, true, false, true, false, false, false, false, false] rfl rfl (take_ofW HT_.out HW_.out (by kernel_rfl)) (fun _ _ _ h => h) (Or.inl ⟨by rfl, ?_⟩) hHeld ?_ ?_
  rotate_left
  · rintro w' ⟨s0, s1, s2, s3⟩
    go_simp
    with_reducible rfl
  rotate_left
  · simp only [Act.put, List.setIfInBounds_toArray, List.set_cons_zero, List.set_cons_succ, i64_w, i32_w]
    rfl
  refine one_ (i := 2) (N := some 18) #[true, true, true, true, false, true, false, false, false, false, false] rfl rfl (one_of HT_.out (by kernel_rfl)) (by decide) (fun K hK => ?_)
  refine goes_ Try.func27 (by kernel_rfl) rfl #[.slice A0_0 l0_0.length c0_0] (by rfl) rfl rfl (by (try simp only [List.map_toArray, List.map_cons, List.map_nil]); first | done | rfl | (simp only [List.length_drop, List.length_take]; rfl)) ?_
  with_reducible refine (tattlelaw08_Few.calls (fun k_ => k_ < w.heap.size) _ _ l0_0 t445 _ ?side1 A4.out).mono ?_
  (case side1 => exact Kd.V_mk HC0_0.out (Kd.F_below (Kd.C_F (Kd.heap_int .i64) HR0_0.out) (by repeat (first | (with_reducible first | exact HB.out | apply below_alloc | apply pw_below_drewN | apply below_drew1 | refine below_set ?_ GE443.out | refine below_set ?_ GE444.out) | exact HB.out))))
  rintro e w11 ⟨v446, rfl, ho0, hb⟩
  refine ⟨_, rfl, ?_⟩
  have n0_ := Aside0.mk (Kd.V_lower (Kd.V_mono (ok' := fun k_ => k_ ≠ gb443 ∧ k_ ≠ gb444) ho0 (fun k_ hk_ => ⟨Or.elim hk_ (fun hs_ => fun e_ => Nat.not_le.2 hs_ (by rw [e_]; exact GW443.out)) (fun hn_ => (Kd.freshB (g := gb443) (o := .cells #[.slice A0_0 l0_0.length c0_0, .int .i64 a0_1] 49 (0, 0)) (by (with_reducible repeat (first | refine blk_drewN ?_ _ | refine blk_drew ?_ | refine blk_alloc ?_ _)); exact BK443.out) k_ hn_)), Or.elim hk_ (fun hs_ => fun e_ => Nat.not_le.2 hs_ (by rw [e_]; exact GW444.out)) (fun hn_ => (Kd.freshB (g := gb444) (o := .cells #[.string a1_0, .int .i64 a1_1] 23 (0, 0)) (by (with_reducible repeat (first | refine blk_drewN ?_ _ | refine blk_drew ?_ | refine blk_alloc ?_ _)); exact BK444.out) k_ hn_))⟩)) (below_size (by repeat (first | (with_reducible first | exact HB.out | apply below_alloc | apply pw_below_drewN | apply below_drew1 | refine below_set ?_ GE443.out | refine below_set ?_ GE444.out) | exact HB.out))))
  have n1_ := Aside0.mk (blk_below (g := gb443) (o := .cells #[.slice A0_0 l0_0.length c0_0, .int .i64 a0_1] 49 (0, 0)) (by (with_reducible repeat (first | refine blk_drewN ?_ _ | refine blk_drew ?_ | refine blk_alloc ?_ _)); exact BK443.out) hb)
  have n2_ := Aside0.mk (blk_below (g := gb444) (o := .cells #[.string a1_0, .int .i64 a1_1] 23 (0, 0)) (by (with_reducible repeat (first | refine blk_drewN ?_ _ | refine blk_drew ?_ | refine blk_alloc ?_ _)); exact BK444.out) hb)
  have n3_ := Aside0.mk (below_step (by repeat (first | (with_reducible first | exact HB.out | apply below_alloc | apply pw_below_drewN | apply below_drew1 | refine below_set ?_ GE443.out | refine below_set ?_ GE444.out) | exact HB.out)) hb)
  clear BK443
  clear BK444
  clear HB
  have HO447 := n0_
  have BK443 := n1_
  have BK444 := n2_
  have HB := n3_
  clear n0_ n1_ n2_ n3_
  (try clear hb)
  (try clear hb2)
  (try clear hk)
  (try clear hi)
  (try clear ho0)
  refine hK.out _ _ ⟨(blk_cell BK443.out 0).trans rfl, (blk_cell BK443.out 1).trans rfl, (blk_cell BK444.out 0).trans rfl, (blk_cell BK444.out 1).trans rfl⟩ (fun hHeld => ?_)
  clear hK K
  refine norm_ (a' := ?_) ?_ ?_
  rotate_left
  · show Act.put _ (some 18) _ = _
    simp only [Act.put, List.setIfInBounds_toArray, List.set_cons_zero, List.set_cons_succ, i64_w, i32_w]
    rfl
  refine pure_ (i := 7) (N := some 23) (v := ?_) (a' := ?_) #[true, true, true, true, false, true, false, true, false, false, false] rfl rfl (any_of HT_.out (by kernel_rfl)) (fun _ _ _ h => h) (Or.inl ⟨by rfl, ?_⟩) ?_ ?_
  rotate_left
  · intro w'
    go_simp
    with_reducible rfl
  rotate_left
  · simp only [Act.put, List.setIfInBounds_toArray, List.set_cons_zero, List.set_cons_succ, i64_w, i32_w]
    rfl
  refine one_ (i := 4) (N := some 20) #[true, true, true, true, true, true, false, true, false, false, false] rfl rfl (one_of HT_.out (by kernel_rfl)) (by decide) (fun K hK => ?_)
  refine goes_ Try.func14 (by kernel_rfl) rfl #[.agg #[.string a1_0, .int .i64 a1_1]] (by rfl) rfl rfl (by (try simp only [List.map_toArray, List.map_cons, List.map_nil]); first | done | rfl | (simp only [List.length_drop, List.length_take]; rfl)) ?_
  with_reducible refine (tattlelaw02_Few.calls a1_0 a1_1 t448 t449 _ A5.out).mono ?_
  rintro e w12 ⟨rfl, hb⟩
  refine ⟨_, rfl, ?_⟩
  have n0_ := Aside0.mk (Kd.V_below (by (with_reducible repeat (first | apply Kd.V_alloc | apply Kd.V_drewN | apply Kd.V_drew)); exact HO447.out) hb)
  have n1_ := Aside0.mk (blk_below (g := gb443) (o := .cells #[.slice A0_0 l0_0.length c0_0, .int .i64 a0_1] 49 (0, 0)) (by (with_reducible repeat (first | refine blk_drewN ?_ _ | refine blk_drew ?_ | refine blk_alloc ?_ _)); exact BK443.out) hb)
  have n2_ := Aside0.mk (blk_below (g := gb444) (o := .cells #[.string a1_0, .int .i64 a1_1] 23 (0, 0)) (by (with_reducible repeat (first | refine blk_drewN ?_ _ | refine blk_drew ?_ | refine blk_alloc ?_ _)); exact BK444.out) hb)
  have n3_ := Aside0.mk (below_step (by repeat (first | (with_reducible first | exact HB.out | apply below_alloc | apply pw_below_drewN | apply below_drew1 | refine below_set ?_ GE443.out | refine below_set ?_ GE444.out) | exact HB.out)) hb)
  clear HO447
  clear BK443
  clear BK444
  clear HB
  have HO447 := n0_
  have BK443 := n1_
  have BK444 := n2_
  have HB := n3_
  clear n0_ n1_ n2_ n3_
  (try clear hb)
  (try clear hb2)
  (try clear hk)
  (try clear hi)
  refine hK.out _ _ ⟨(blk_cell BK443.out 0).trans rfl, (blk_cell BK443.out 1).trans rfl, (blk_cell BK444.out 0).trans rfl, (blk_cell BK444.out 1).trans rfl⟩ (fun hHeld => ?_)
  clear hK K
  refine norm_ (a' := ?_) ?_ ?_
  rotate_left
  · show Act.put _ (some 20) _ = _
    simp only [Act.put, List.setIfInBounds_toArray, List.set_cons_zero, List.set_cons_succ, i64_w, i32_w]
    rfl
  refine one_ (i := 6) (N := some 22) #[true, true, true, true, true, true, true, true, false, false, false] rfl rfl (one_of HT_.out (by kernel_rfl)) (by decide) (fun K hK => ?_)
  refine goes_ Try.func27 (by kernel_rfl) rfl #[.slice A2 l2.length c2] (by rfl) rfl rfl (by (try simp only [List.map_toArray, List.map_cons, List.map_nil]); first | done | rfl | (simp only [List.length_drop, List.length_take]; rfl)) ?_
  with_reducible refine (tattlelaw08_Few.calls (fun k_ => k_ < w.heap.size) _ _ l2 t450 _ ?side1 A6.out).mono ?_
  (case side1 => exact Kd.V_mk HC2.out (Kd.F_below (Kd.C_F (Kd.heap_int .i64) HR2.out) (by repeat (first | (with_reducible first | exact HB.out | apply below_alloc | apply pw_below_drewN | apply below_drew1 | refine below_set ?_ GE443.out | refine below_set ?_ GE444.out) | exact HB.out))))
  rintro e w13 ⟨v451, rfl, ho0, hb⟩
  refine ⟨_, rfl, ?_⟩
  have n0_ := Aside0.mk (Kd.V_below (by (with_reducible repeat (first | apply Kd.V_alloc | apply Kd.V_drewN | apply Kd.V_drew)); exact HO447.out) hb)
  have n1_ := Aside0.mk (Kd.V_lower (Kd.V_mono (ok' := fun k_ => k_ ≠ gb443 ∧ k_ ≠ gb444) ho0 (fun k_ hk_ => ⟨Or.elim hk_ (fun hs_ => fun e_ => Nat.not_le.2 hs_ (by rw [e_]; exact GW443.out)) (fun hn_ => (Kd.freshB (g := gb443) (o := .cells #[.slice A0_0 l0_0.length c0_0, .int .i64 a0_1] 49 (0, 0)) (by (with_reducible repeat (first | refine blk_drewN ?_ _ | refine blk_drew ?_ | refine blk_alloc ?_ _)); exact BK443.out) k_ hn_)), Or.elim hk_ (fun hs_ => fun e_ => Nat.not_le.2 hs_ (by rw [e_]; exact GW444.out)) (fun hn_ => (Kd.freshB (g := gb444) (o := .cells #[.string a1_0, .int .i64 a1_1] 23 (0, 0)) (by (with_reducible repeat (first | refine blk_drewN ?_ _ | refine blk_drew ?_ | refine blk_alloc ?_ _)); exact BK444.out) k_ hn_))⟩)) (below_size (by repeat (first | (with_reducible first | exact HB.out | apply below_alloc | apply pw_below_drewN | apply below_drew1 | refine below_set ?_ GE443.out | refine below_set ?_ GE444.out) | exact HB.out))))
  have n2_ := Aside0.mk (blk_below (g := gb443) (o := .cells #[.slice A0_0 l0_0.length c0_0, .int .i64 a0_1] 49 (0, 0)) (by (with_reducible repeat (first | refine blk_drewN ?_ _ | refine blk_drew ?_ | refine blk_alloc ?_ _)); exact BK443.out) hb)
  have n3_ := Aside0.mk (blk_below (g := gb444) (o := .cells #[.string a1_0, .int .i64 a1_1] 23 (0, 0)) (by (with_reducible repeat (first | refine blk_drewN ?_ _ | refine blk_drew ?_ | refine blk_alloc ?_ _)); exact BK444.out) hb)
  have n4_ := Aside0.mk (below_step (by repeat (first | (with_reducible first | exact HB.out | apply below_alloc | apply pw_below_drewN | apply below_drew1 | refine below_set ?_ GE443.out | refine below_set ?_ GE444.out) | exact HB.out)) hb)
  clear HO447
  clear BK443
  clear BK444
  clear HB
  have HO447 := n0_
  have HO452 := n1_
  have BK443 := n2_
  have BK444 := n3_
  have HB := n4_
  clear n0_ n1_ n2_ n3_ n4_
  (try clear hb)
  (try clear hb2)
  (try clear hk)
  (try clear hi)
  (try clear ho0)
  obtain ⟨Ao14, co14, eo14⟩ := Kd.V_slice HO447.out
  (first | subst eo14 | (injection eo14 with f1_ f2_ f3_; have f4_ := f1_.symm; have f5_ := f3_.symm; clear f1_ f2_ f3_; subst f4_; subst f5_))
  refine hK.out _ _ ⟨(blk_cell BK443.out 0).trans rfl, (blk_cell BK443.out 1).trans rfl, (blk_cell BK444.out 0).trans rfl, (blk_cell BK444.out 1).trans rfl⟩ (fun hHeld => ?_)
  clear hK K
  refine norm_ (a' := ?_) ?_ ?_
  rotate_left
  · show Act.put _ (some 22) _ = _
    simp only [Act.put, List.setIfInBounds_toArray, List.set_cons_zero, List.set_cons_succ, i64_w, i32_w]
    rfl
  refine last_ (i := 8) (N := none) #[true, true, true, true, true, true, true, true, true, false, false] rfl rfl (one_of HT_.out (by kernel_rfl)) (by decide) (fun K hK => ?_)
  have hs15 : w13.cell? ⟨gb443, 0, none⟩ = some (.slice A0_0 l0_0.length c0_0) := (blk_cell BK443.out 0).trans rfl
  have hfs15 := blk_frozen BK443.out 0
  have hns15_1 := NB444_443.out
  have hms15_1 := NB443_444.out
  refine skip_ (w1 := ?_) (by rfl) rfl ?_ ?_
  rotate_left
  · go_simp
    rfl
  refine hK.out _ _ ?_
  clear hK K
  refine last_ (i := 9) (N := none) #[true, true, true, true, true, true, true, true, true, true, false] rfl rfl (one_of HT_.out (by kernel_rfl)) (by decide) (fun K hK => ?_)
  have hs16 : w13.cell? ⟨gb444, 0, none⟩ = some (.string a1_0) := (blk_cell BK444.out 0).trans rfl
  have hfs16 := blk_frozen BK444.out 0
  have hns16_0 := NB443_444.out
  have hms16_0 := NB444_443.out
  have hs17 : w13.cell? ⟨gb444, 1, none⟩ = some (.int .i64 a1_1) := (blk_cell BK444.out 1).trans rfl
  have hfs17 := blk_frozen BK444.out 1
  have hns17_0 := NB443_444.out
  have hms17_0 := NB444_443.out
  refine skip_ (w1 := ?_) (by rfl) rfl ?_ ?_
  rotate_left
  · go_simp
    rfl
  refine hK.out _ _ ?_
  clear hK K
  refine pure_ (i := 10) (N := some 2) (v := ?_) (a' := ?_) #[true, true, true, true, true, true, true, true, true, true, true] rfl rfl (any_of HT_.out (by kernel_rfl)) (fun _ _ _ h => h) (Or.inl ⟨by rfl, ?_⟩) ?_ ?_
  rotate_left
  · intro w'
    go_simp
    with_reducible rfl
  rotate_left
  · simp only [Act.put, List.setIfInBounds_toArray, List.set_cons_zero, List.set_cons_succ, i64_w, i32_w]
    rfl
  refine done_ (done_of HT_.out (by kernel_rfl)) ?_
  go_upto_region 2 with (fail)
  go_cut [46] (fun v46 wc => ∃ (kq : Nat) (x46_6 : Bool), v46 = .bool x46_6 ∧ Aside0 (tattlelaw08_TurnAll.j0 kq t450 x46_6 t445 a0_1 t448 t449 = some r) ∧ Aside0 (kq ≤ k) ∧ Aside0 (Kd.V (Kd.int .i64) 3 wc w.heap.size (fun k_ => k_ ≠ gb443 ∧ k_ ≠ gb444) v451 t450) ∧ Aside0 (Kd.V (Kd.int .i64) 3 wc w.heap.size (fun k_ => k_ ≠ gb443 ∧ k_ ≠ gb444) (.slice Ao14 t445.length co14) t445) ∧ Aside0 (wc.heap[gb443]? = some (.cells #[(.slice Ao14 t445.length co14), .int .i64 a0_1] 49 (0, 0))) ∧ Aside0 (wc.heap[gb444]? = some (.cells #[.string t448, .int .i64 t449] 23 (0, 0))) ∧ Aside0 (Below w.heap.size w wc))
  case first =>
    have H := HC7.out
    clear HC7
    by_cases c18 : (t450.length : Int) > 10
    · rw [if_pos c18] at H
      have c18b0 : decide (10 < (t450.length : Int)) = true := decide_eq_true c18
      have c18b1 : decide (10 < t450.length) = true := decide_eq_true (by omega)
      clear c18
      (first | rw [c18b0] | (simp only [i64_w, i32_w]; rw [c18b0]) | skip)
      have H' := Aside0.mk H
      clear H
      obtain ⟨Ao19, co19, eo19⟩ := Kd.V_slice HO452.out
      subst eo19
      go_wp2
      go_meet
      case rel => exact ⟨_, (true), (by first | rfl | (simp; done) | (simp [*]; done)), H', ⟨by first | omega | exact Nat.le_refl _⟩, ⟨by (with_reducible repeat (first | apply Kd.V_alloc | apply Kd.V_drewN | apply Kd.V_drew)); exact Kd.V_mono (Kd.V_far (p := ⟨gb444, 1, none⟩) (Kd.V_far (p := ⟨gb444, 0, none⟩) (Kd.V_far (p := ⟨gb443, 0, none⟩) (Kd.V_mono (Kd.V_mono HO452.out (fun k_ hk => (⟨hk, hk.1⟩ : _ ∧ k_ ≠ gb443))) (fun k_ hk => (⟨hk, hk.1.2⟩ : _ ∧ k_ ≠ gb444))) (fun _ hk => hk.1.2) (.slice Ao14 t445.length co14)) (fun _ hk => hk.2) (.string t448)) (fun _ hk => hk.2) (.int .i64 t449)) (fun _ hk => ⟨hk.1.1.1, hk.1.1.2⟩)⟩, ⟨by (with_reducible repeat (first | apply Kd.V_alloc | apply Kd.V_drewN | apply Kd.V_drew)); exact Kd.V_mono (Kd.V_far (p := ⟨gb444, 1, none⟩) (Kd.V_far (p := ⟨gb444, 0, none⟩) (Kd.V_far (p := ⟨gb443, 0, none⟩) (Kd.V_mono (Kd.V_mono HO447.out (fun k_ hk => (⟨hk, hk.1⟩ : _ ∧ k_ ≠ gb443))) (fun k_ hk => (⟨hk, hk.1.2⟩ : _ ∧ k_ ≠ gb444))) (fun _ hk => hk.1.2) (.slice Ao14 t445.length co14)) (fun _ hk => hk.2) (.string t448)) (fun _ hk => hk.2) (.int .i64 t449)) (fun _ hk => ⟨hk.1.1.1, hk.1.1.2⟩)⟩, ⟨by (with_reducible repeat (first | refine blk_drewN ?_ _ | refine blk_drew ?_ | refine blk_alloc ?_ _)); refine blk_far ?_ NB443_444.out _; (with_reducible repeat (first | refine blk_drewN ?_ _ | refine blk_drew ?_ | refine blk_alloc ?_ _)); refine blk_far ?_ NB443_444.out _; (with_reducible repeat (first | refine blk_drewN ?_ _ | refine blk_drew ?_ | refine blk_alloc ?_ _)); refine blk_put (cs := #[.slice A0_0 l0_0.length c0_0, .int .i64 a0_1]) ?_ 0 _ rfl; (with_reducible repeat (first | refine blk_drewN ?_ _ | refine blk_drew ?_ | refine blk_alloc ?_ _)); exact BK443.out⟩, ⟨by (with_reducible repeat (first | refine blk_drewN ?_ _ | refine blk_drew ?_ | refine blk_alloc ?_ _)); refine blk_put (cs := #[.string t448, .int .i64 a1_1]) ?_ 1 _ rfl; (with_reducible repeat (first | refine blk_drewN ?_ _ | refine blk_drew ?_ | refine blk_alloc ?_ _)); refine blk_put (cs := #[.string a1_0, .int .i64 a1_1]) ?_ 0 _ rfl; (with_reducible repeat (first | refine blk_drewN ?_ _ | refine blk_drew ?_ | refine blk_alloc ?_ _)); refine blk_far ?_ NB444_443.out _; (with_reducible repeat (first | refine blk_drewN ?_ _ | refine blk_drew ?_ | refine blk_alloc ?_ _)); exact BK444.out⟩, ⟨by repeat (first | (with_reducible first | exact HB.out | apply below_alloc | apply pw_below_drewN | apply below_drew1 | refine below_set ?_ GE443.out | refine below_set ?_ GE444.out) | exact HB.out)⟩⟩
    · rw [if_neg c18] at H
      have c18b0 : decide (10 < (t450.length : Int)) = false := decide_eq_false c18
      have c18b1 : decide (10 < t450.length) = false := decide_eq_false (by omega)
      clear c18
      (first | rw [c18b0] | (simp only [i64_w, i32_w]; rw [c18b0]) | skip)
      by_cases c20 : (t450.length : Int) = 0
      · rw [if_pos c20] at H
        have c20b0 : ((t450.length : Int) == 0) = true := beq_iff_eq.mpr c20
        have c20b1 : ((t450.length : Int) != 0) = false := bne_eq_false_iff_eq.mpr c20
        clear c20
        have H' := Aside0.mk H
        clear H
        obtain ⟨Ao21, co21, eo21⟩ := Kd.V_slice HO452.out
        subst eo21
        go_wp2
        go_meet
        case rel => exact ⟨_, (true), (by first | rfl | (simp; done) | (simp [*]; done)), H', ⟨by first | omega | exact Nat.le_refl _⟩, ⟨by (with_reducible repeat (first | apply Kd.V_alloc | apply Kd.V_drewN | apply Kd.V_drew)); exact Kd.V_mono (Kd.V_far (p := ⟨gb444, 1, none⟩) (Kd.V_far (p := ⟨gb444, 0, none⟩) (Kd.V_far (p := ⟨gb443, 0, none⟩) (Kd.V_mono (Kd.V_mono HO452.out (fun k_ hk => (⟨hk, hk.1⟩ : _ ∧ k_ ≠ gb443))) (fun k_ hk => (⟨hk, hk.1.2⟩ : _ ∧ k_ ≠ gb444))) (fun _ hk => hk.1.2) (.slice Ao14 t445.length co14)) (fun _ hk => hk.2) (.string t448)) (fun _ hk => hk.2) (.int .i64 t449)) (fun _ hk => ⟨hk.1.1.1, hk.1.1.2⟩)⟩, ⟨by (with_reducible repeat (first | apply Kd.V_alloc | apply Kd.V_drewN | apply Kd.V_drew)); exact Kd.V_mono (Kd.V_far (p := ⟨gb444, 1, none⟩) (Kd.V_far (p := ⟨gb444, 0, none⟩) (Kd.V_far (p := ⟨gb443, 0, none⟩) (Kd.V_mono (Kd.V_mono HO447.out (fun k_ hk => (⟨hk, hk.1⟩ : _ ∧ k_ ≠ gb443))) (fun k_ hk => (⟨hk, hk.1.2⟩ : _ ∧ k_ ≠ gb444))) (fun _ hk => hk.1.2) (.slice Ao14 t445.length co14)) (fun _ hk => hk.2) (.string t448)) (fun _ hk => hk.2) (.int .i64 t449)) (fun _ hk => ⟨hk.1.1.1, hk.1.1.2⟩)⟩, ⟨by (with_reducible repeat (first | refine blk_drewN ?_ _ | refine blk_drew ?_ | refine blk_alloc ?_ _)); refine blk_far ?_ NB443_444.out _; (with_reducible repeat (first | refine blk_drewN ?_ _ | refine blk_drew ?_ | refine blk_alloc ?_ _)); refine blk_far ?_ NB443_444.out _; (with_reducible repeat (first | refine blk_drewN ?_ _ | refine blk_drew ?_ | refine blk_alloc ?_ _)); refine blk_put (cs := #[.slice A0_0 l0_0.length c0_0, .int .i64 a0_1]) ?_ 0 _ rfl; (with_reducible repeat (first | refine blk_drewN ?_ _ | refine blk_drew ?_ | refine blk_alloc ?_ _)); exact BK443.out⟩, ⟨by (with_reducible repeat (first | refine blk_drewN ?_ _ | refine blk_drew ?_ | refine blk_alloc ?_ _)); refine blk_put (cs := #[.string t448, .int .i64 a1_1]) ?_ 1 _ rfl; (with_reducible repeat (first | refine blk_drewN ?_ _ | refine blk_drew ?_ | refine blk_alloc ?_ _)); refine blk_put (cs := #[.string a1_0, .int .i64 a1_1]) ?_ 0 _ rfl; (with_reducible repeat (first | refine blk_drewN ?_ _ | refine blk_drew ?_ | refine blk_alloc ?_ _)); refine blk_far ?_ NB444_443.out _; (with_reducible repeat (first | refine blk_drewN ?_ _ | refine blk_drew ?_ | refine blk_alloc ?_ _)); exact BK444.out⟩, ⟨by repeat (first | (with_reducible first | exact HB.out | apply below_alloc | apply pw_below_drewN | apply below_drew1 | refine below_set ?_ GE443.out | refine below_set ?_ GE444.out) | exact HB.out)⟩⟩
      · rw [if_neg c20] at H
        have c20b0 : ((t450.length : Int) == 0) = false := beq_eq_false_iff_ne.mpr c20
        have c20b1 : ((t450.length : Int) != 0) = true := bne_iff_ne.mpr c20
        have c20b2 : ¬ (t450 = []) := fun h_ => c20 (by rw [h_]; rfl)
        replace H := Option.bind_eq_some_iff.mp H
        obtain ⟨t453, A220, H⟩ := H
        replace H : (if t453 = 0 then ((turn_Check.f t445 a0_1).bind fun t454 => (if t454 = 0 then ((tattleref02_May.f t448 t449).bind fun t455 => (tattlelaw08_TurnAll.j0 k t450 (!t455) t445 a0_1 t448 t449)) else (tattlelaw08_TurnAll.j0 k t450 true t445 a0_1 t448 t449))) else (tattlelaw08_TurnAll.j0 k t450 true t445 a0_1 t448 t449)) = some r := H
        have A22 := Aside0.mk A220
        clear A220
        by_cases c23 : t453 = 0
        · rw [if_pos c23] at H
          have c23b0 : (t453 == 0) = true := beq_iff_eq.mpr c23
          have c23b1 : (t453 != 0) = false := bne_eq_false_iff_eq.mpr c23
          clear c23
          replace H := Option.bind_eq_some_iff.mp H
          obtain ⟨t454, A240, H⟩ := H
          replace H : (if t454 = 0 then ((tattleref02_May.f t448 t449).bind fun t455 => (tattlelaw08_TurnAll.j0 k t450 (!t455) t445 a0_1 t448 t449)) else (tattlelaw08_TurnAll.j0 k t450 true t445 a0_1 t448 t449)) = some r := H
          have A24 := Aside0.mk A240
          clear A240
          by_cases c25 : t454 = 0
          · rw [if_pos c25] at H
            have c25b0 : (t454 == 0) = true := beq_iff_eq.mpr c25
            have c25b1 : (t454 != 0) = false := bne_eq_false_iff_eq.mpr c25
            clear c25
            replace H := Option.bind_eq_some_iff.mp H
            obtain ⟨t455, A260, H⟩ := H
            replace H : (tattlelaw08_TurnAll.j0 k t450 (!t455) t445 a0_1 t448 t449) = some r := H
            have A26 := Aside0.mk A260
            clear A260
            have H' := Aside0.mk H
            clear H
            obtain ⟨Ao27, co27, eo27⟩ := Kd.V_slice HO452.out
            subst eo27
            go_wp2_with (first | (go_at_call 28; (with_reducible refine (turn_Nodes.calls k _ _ t450 t453 _ ?side1 ?side2 A22.out).mono ?_); (case side1 => refine (Kd.V_reads' (e := 3) (base := w.heap.size) (ok := fun k_ => (k_ ≠ gb443 ∧ k_ ≠ gb444)) (n := t450.length) (c := co27) ?_).2.2; exact (by (with_reducible repeat (first | apply Kd.V_alloc | apply Kd.V_drewN | apply Kd.V_drew)); exact (Kd.V_mono (Kd.V_mono (Kd.V_far (p := ⟨gb444, 1, none⟩) (Kd.V_far (p := ⟨gb444, 0, none⟩) (Kd.V_far (p := ⟨gb443, 0, none⟩) (Kd.V_mono (Kd.V_mono HO452.out (fun k_ hk => (⟨hk, hk.1⟩ : _ ∧ k_ ≠ gb443))) (fun k_ hk => (⟨hk, hk.1.2⟩ : _ ∧ k_ ≠ gb444))) (fun _ hk => hk.1.2) (.slice Ao14 t445.length co14)) (fun _ hk => hk.2) (.string t448)) (fun _ hk => hk.2) (.int .i64 t449)) (fun _ h_ => h_.1)) (fun _ h_ => h_.1)))); (case side2 => exact (Kd.V_reads' HO452.out).2.1); rintro e w28 ⟨rfl, hb⟩; have n0_ := Aside0.mk (Kd.V_below (by (with_reducible repeat (first | apply Kd.V_alloc | apply Kd.V_drewN | apply Kd.V_drew)); exact (Kd.V_mono (Kd.V_mono (Kd.V_far (p := ⟨gb444, 1, none⟩) (Kd.V_far (p := ⟨gb444, 0, none⟩) (Kd.V_far (p := ⟨gb443, 0, none⟩) (Kd.V_mono (Kd.V_mono HO447.out (fun k_ hk => (⟨hk, hk.1⟩ : _ ∧ k_ ≠ gb443))) (fun k_ hk => (⟨hk, hk.1.2⟩ : _ ∧ k_ ≠ gb444))) (fun _ hk => hk.1.2) (.slice Ao14 t445.length co14)) (fun _ hk => hk.2) (.string t448)) (fun _ hk => hk.2) (.int .i64 t449)) (fun _ h_ => h_.1)) (fun _ h_ => h_.1))) hb); have n1_ := Aside0.mk (Kd.V_below (by (with_reducible repeat (first | apply Kd.V_alloc | apply Kd.V_drewN | apply Kd.V_drew)); exact (Kd.V_mono (Kd.V_mono (Kd.V_far (p := ⟨gb444, 1, none⟩) (Kd.V_far (p := ⟨gb444, 0, none⟩) (Kd.V_far (p := ⟨gb443, 0, none⟩) (Kd.V_mono (Kd.V_mono HO452.out (fun k_ hk => (⟨hk, hk.1⟩ : _ ∧ k_ ≠ gb443))) (fun k_ hk => (⟨hk, hk.1.2⟩ : _ ∧ k_ ≠ gb444))) (fun _ hk => hk.1.2) (.slice Ao14 t445.length co14)) (fun _ hk => hk.2) (.string t448)) (fun _ hk => hk.2) (.int .i64 t449)) (fun _ h_ => h_.1)) (fun _ h_ => h_.1))) hb); have n2_ := Aside0.mk (blk_below (g := gb443) (o := .cells #[.slice Ao14 t445.length co14, .int .i64 a0_1] 49 (0, 0)) (by (with_reducible repeat (first | refine blk_drewN ?_ _ | refine blk_drew ?_ | refine blk_alloc ?_ _)); refine blk_far ?_ NB443_444.out _; (with_reducible repeat (first | refine blk_drewN ?_ _ | refine blk_drew ?_ | refine blk_alloc ?_ _)); refine blk_far ?_ NB443_444.out _; (with_reducible repeat (first | refine blk_drewN ?_ _ | refine blk_drew ?_ | refine blk_alloc ?_ _)); refine blk_put (cs := #[.slice A0_0 l0_0.length c0_0, .int .i64 a0_1]) ?_ 0 _ rfl; (with_reducible repeat (first | refine blk_drewN ?_ _ | refine blk_drew ?_ | refine blk_alloc ?_ _)); exact BK443.out) hb); have n3_ := Aside0.mk (blk_below (g := gb444) (o := .cells #[.string t448, .int .i64 t449] 23 (0, 0)) (by (with_reducible repeat (first | refine blk_drewN ?_ _ | refine blk_drew ?_ | refine blk_alloc ?_ _)); refine blk_put (cs := #[.string t448, .int .i64 a1_1]) ?_ 1 _ rfl; (with_reducible repeat (first | refine blk_drewN ?_ _ | refine blk_drew ?_ | refine blk_alloc ?_ _)); refine blk_put (cs := #[.string a1_0, .int .i64 a1_1]) ?_ 0 _ rfl; (with_reducible repeat (first | refine blk_drewN ?_ _ | refine blk_drew ?_ | refine blk_alloc ?_ _)); refine blk_far ?_ NB444_443.out _; (with_reducible repeat (first | refine blk_drewN ?_ _ | refine blk_drew ?_ | refine blk_alloc ?_ _)); exact BK444.out) hb); have n4_ := Aside0.mk (below_step (by repeat (first | (with_reducible first | exact HB.out | apply below_alloc | apply pw_below_drewN | apply below_drew1 | refine below_set ?_ GE443.out | refine below_set ?_ GE444.out) | exact HB.out)) hb); clear HO447; clear HO452; clear BK443; clear BK444; clear HB; have HO447 := n0_; have HO452 := n1_; have BK443 := n2_; have BK444 := n3_; have HB := n4_; clear n0_ n1_ n2_ n3_ n4_; (try clear hb); (try clear hb2); (try clear hk); (try clear hi); have hnb29 := NB443_444.out; have hnc29 := NB444_443.out; have hcz30_0 : w28.cell? ⟨gb443, 0, none⟩ = some (.slice Ao14 t445.length co14) := (blk_cell BK443.out 0).trans rfl; have hcz30_1 : w28.cell? ⟨gb443, 1, none⟩ = some (.int .i64 a0_1) := (blk_cell BK443.out 1).trans rfl; have hfz30_0 := blk_frozen BK443.out 0; have hfz30_1 := blk_frozen BK443.out 1) | (go_at_call 29; (with_reducible refine (turn_Check.calls _ _ t445 a0_1 t454 _ ?side1 ?side2 A24.out).mono ?_); (case side1 => repeat (first | exact (Kd.V_reads' HO447.out).2.2 | (with_reducible refine Kd.C_alloc ?_ _) | (with_reducible refine Kd.C_drewN ?_ _) | (with_reducible refine Kd.C_drew ?_))); (case side2 => exact (Kd.V_reads' HO447.out).2.1); rintro e w31 ⟨rfl, hb⟩; have n0_ := Aside0.mk (Kd.V_below (by (with_reducible repeat (first | apply Kd.V_alloc | apply Kd.V_drewN | apply Kd.V_drew)); exact HO447.out) hb); have n1_ := Aside0.mk (Kd.V_below (by (with_reducible repeat (first | apply Kd.V_alloc | apply Kd.V_drewN | apply Kd.V_drew)); exact HO452.out) hb); have n2_ := Aside0.mk (blk_below (g := gb443) (o := .cells #[.slice Ao14 t445.length co14, .int .i64 a0_1] 49 (0, 0)) (by (with_reducible repeat (first | refine blk_drewN ?_ _ | refine blk_drew ?_ | refine blk_alloc ?_ _)); exact BK443.out) hb); have n3_ := Aside0.mk (blk_below (g := gb444) (o := .cells #[.string t448, .int .i64 t449] 23 (0, 0)) (by (with_reducible repeat (first | refine blk_drewN ?_ _ | refine blk_drew ?_ | refine blk_alloc ?_ _)); exact BK444.out) hb); have n4_ := Aside0.mk (below_step (by repeat (first | (with_reducible first | exact HB.out | apply below_alloc | apply pw_below_drewN | apply below_drew1 | refine below_set ?_ GE443.out | refine below_set ?_ GE444.out) | exact HB.out)) hb); clear HO447; clear HO452; clear BK443; clear BK444; clear HB; have HO447 := n0_; have HO452 := n1_; have BK443 := n2_; have BK444 := n3_; have HB := n4_; clear n0_ n1_ n2_ n3_ n4_; (try clear hb); (try clear hb2); (try clear hk); (try clear hi); have hcz32_0 : w31.cell? ⟨gb444, 0, none⟩ = some (.string t448) := (blk_cell BK444.out 0).trans rfl; have hcz32_1 : w31.cell? ⟨gb444, 1, none⟩ = some (.int .i64 t449) := (blk_cell BK444.out 1).trans rfl; have hfz32_0 := blk_frozen BK444.out 0; have hfz32_1 := blk_frozen BK444.out 1) | (go_at_call 19; (with_reducible refine (tattleref02_May.calls t448 t449 t455 _ A26.out).mono ?_); rintro e w33 ⟨rfl, hb⟩; have n0_ := Aside0.mk (Kd.V_below (by (with_reducible repeat (first | apply Kd.V_alloc | apply Kd.V_drewN | apply Kd.V_drew)); exact HO447.out) hb); have n1_ := Aside0.mk (Kd.V_below (by (with_reducible repeat (first | apply Kd.V_alloc | apply Kd.V_drewN | apply Kd.V_drew)); exact HO452.out) hb); have n2_ := Aside0.mk (blk_below (g := gb443) (o := .cells #[.slice Ao14 t445.length co14, .int .i64 a0_1] 49 (0, 0)) (by (with_reducible repeat (first | refine blk_drewN ?_ _ | refine blk_drew ?_ | refine blk_alloc ?_ _)); exact BK443.out) hb); have n3_ := Aside0.mk (blk_below (g := gb444) (o := .cells #[.string t448, .int .i64 t449] 23 (0, 0)) (by (with_reducible repeat (first | refine blk_drewN ?_ _ | refine blk_drew ?_ | refine blk_alloc ?_ _)); exact BK444.out) hb); have n4_ := Aside0.mk (below_step (by repeat (first | (with_reducible first | exact HB.out | apply below_alloc | apply pw_below_drewN | apply below_drew1 | refine below_set ?_ GE443.out | refine below_set ?_ GE444.out) | exact HB.out)) hb); clear HO447; clear HO452; clear BK443; clear BK444; clear HB; have HO447 := n0_; have HO452 := n1_; have BK443 := n2_; have BK444 := n3_; have HB := n4_; clear n0_ n1_ n2_ n3_ n4_; (try clear hb); (try clear hb2); (try clear hk); (try clear hi)))
            go_meet
            case rel => exact ⟨_, (!t455), (by first | rfl | (simp; done) | (simp [*]; done)), H', ⟨by first | omega | exact Nat.le_refl _⟩, ⟨by (with_reducible repeat (first | apply Kd.V_alloc | apply Kd.V_drewN | apply Kd.V_drew)); exact HO452.out⟩, ⟨by (with_reducible repeat (first | apply Kd.V_alloc | apply Kd.V_drewN | apply Kd.V_drew)); exact HO447.out⟩, ⟨by (with_reducible repeat (first | refine blk_drewN ?_ _ | refine blk_drew ?_ | refine blk_alloc ?_ _)); exact BK443.out⟩, ⟨by (with_reducible repeat (first | refine blk_drewN ?_ _ | refine blk_drew ?_ | refine blk_alloc ?_ _)); exact BK444.out⟩, ⟨by repeat (first | (with_reducible first | exact HB.out | apply below_alloc | apply pw_below_drewN | apply below_drew1 | refine below_set ?_ GE443.out | refine below_set ?_ GE444.out) | exact HB.out)⟩⟩
          · rw [if_neg c25] at H
            have c25b0 : (t454 == 0) = false := beq_eq_false_iff_ne.mpr c25
            have c25b1 : (t454 != 0) = true := bne_iff_ne.mpr c25
            have H' := Aside0.mk H
            clear H
            obtain ⟨Ao34, co34, eo34⟩ := Kd.V_slice HO452.out
            subst eo34
            go_wp2_with (first | (go_at_call 28; (with_reducible refine (turn_Nodes.calls k _ _ t450 t453 _ ?side1 ?side2 A22.out).mono ?_); (case side1 => refine (Kd.V_reads' (e := 3) (base := w.heap.size) (ok := fun k_ => (k_ ≠ gb443 ∧ k_ ≠ gb444)) (n := t450.length) (c := co34) ?_).2.2; exact (by (with_reducible repeat (first | apply Kd.V_alloc | apply Kd.V_drewN | apply Kd.V_drew)); exact (Kd.V_mono (Kd.V_mono (Kd.V_far (p := ⟨gb444, 1, none⟩) (Kd.V_far (p := ⟨gb444, 0, none⟩) (Kd.V_far (p := ⟨gb443, 0, none⟩) (Kd.V_mono (Kd.V_mono HO452.out (fun k_ hk => (⟨hk, hk.1⟩ : _ ∧ k_ ≠ gb443))) (fun k_ hk => (⟨hk, hk.1.2⟩ : _ ∧ k_ ≠ gb444))) (fun _ hk => hk.1.2) (.slice Ao14 t445.length co14)) (fun _ hk => hk.2) (.string t448)) (fun _ hk => hk.2) (.int .i64 t449)) (fun _ h_ => h_.1)) (fun _ h_ => h_.1)))); (case side2 => exact (Kd.V_reads' HO452.out).2.1); rintro e w35 ⟨rfl, hb⟩; have n0_ := Aside0.mk (Kd.V_below (by (with_reducible repeat (first | apply Kd.V_alloc | apply Kd.V_drewN | apply Kd.V_drew)); exact (Kd.V_mono (Kd.V_mono (Kd.V_far (p := ⟨gb444, 1, none⟩) (Kd.V_far (p := ⟨gb444, 0, none⟩) (Kd.V_far (p := ⟨gb443, 0, none⟩) (Kd.V_mono (Kd.V_mono HO447.out (fun k_ hk => (⟨hk, hk.1⟩ : _ ∧ k_ ≠ gb443))) (fun k_ hk => (⟨hk, hk.1.2⟩ : _ ∧ k_ ≠ gb444))) (fun _ hk => hk.1.2) (.slice Ao14 t445.length co14)) (fun _ hk => hk.2) (.string t448)) (fun _ hk => hk.2) (.int .i64 t449)) (fun _ h_ => h_.1)) (fun _ h_ => h_.1))) hb); have n1_ := Aside0.mk (Kd.V_below (by (with_reducible repeat (first | apply Kd.V_alloc | apply Kd.V_drewN | apply Kd.V_drew)); exact (Kd.V_mono (Kd.V_mono (Kd.V_far (p := ⟨gb444, 1, none⟩) (Kd.V_far (p := ⟨gb444, 0, none⟩) (Kd.V_far (p := ⟨gb443, 0, none⟩) (Kd.V_mono (Kd.V_mono HO452.out (fun k_ hk => (⟨hk, hk.1⟩ : _ ∧ k_ ≠ gb443))) (fun k_ hk => (⟨hk, hk.1.2⟩ : _ ∧ k_ ≠ gb444))) (fun _ hk => hk.1.2) (.slice Ao14 t445.length co14)) (fun _ hk => hk.2) (.string t448)) (fun _ hk => hk.2) (.int .i64 t449)) (fun _ h_ => h_.1)) (fun _ h_ => h_.1))) hb); have n2_ := Aside0.mk (blk_below (g := gb443) (o := .cells #[.slice Ao14 t445.length co14, .int .i64 a0_1] 49 (0, 0)) (by (with_reducible repeat (first | refine blk_drewN ?_ _ | refine blk_drew ?_ | refine blk_alloc ?_ _)); refine blk_far ?_ NB443_444.out _; (with_reducible repeat (first | refine blk_drewN ?_ _ | refine blk_drew ?_ | refine blk_alloc ?_ _)); refine blk_far ?_ NB443_444.out _; (with_reducible repeat (first | refine blk_drewN ?_ _ | refine blk_drew ?_ | refine blk_alloc ?_ _)); refine blk_put (cs := #[.slice A0_0 l0_0.length c0_0, .int .i64 a0_1]) ?_ 0 _ rfl; (with_reducible repeat (first | refine blk_drewN ?_ _ | refine blk_drew ?_ | refine blk_alloc ?_ _)); exact BK443.out) hb); have n3_ := Aside0.mk (blk_below (g := gb444) (o := .cells #[.string t448, .int .i64 t449] 23 (0, 0)) (by (with_reducible repeat (first | refine blk_drewN ?_ _ | refine blk_drew ?_ | refine blk_alloc ?_ _)); refine blk_put (cs := #[.string t448, .int .i64 a1_1]) ?_ 1 _ rfl; (with_reducible repeat (first | refine blk_drewN ?_ _ | refine blk_drew ?_ | refine blk_alloc ?_ _)); refine blk_put (cs := #[.string a1_0, .int .i64 a1_1]) ?_ 0 _ rfl; (with_reducible repeat (first | refine blk_drewN ?_ _ | refine blk_drew ?_ | refine blk_alloc ?_ _)); refine blk_far ?_ NB444_443.out _; (with_reducible repeat (first | refine blk_drewN ?_ _ | refine blk_drew ?_ | refine blk_alloc ?_ _)); exact BK444.out) hb); have n4_ := Aside0.mk (below_step (by repeat (first | (with_reducible first | exact HB.out | apply below_alloc | apply pw_below_drewN | apply below_drew1 | refine below_set ?_ GE443.out | refine below_set ?_ GE444.out) | exact HB.out)) hb); clear HO447; clear HO452; clear BK443; clear BK444; clear HB; have HO447 := n0_; have HO452 := n1_; have BK443 := n2_; have BK444 := n3_; have HB := n4_; clear n0_ n1_ n2_ n3_ n4_; (try clear hb); (try clear hb2); (try clear hk); (try clear hi); have hnb36 := NB443_444.out; have hnc36 := NB444_443.out; have hcz37_0 : w35.cell? ⟨gb443, 0, none⟩ = some (.slice Ao14 t445.length co14) := (blk_cell BK443.out 0).trans rfl; have hcz37_1 : w35.cell? ⟨gb443, 1, none⟩ = some (.int .i64 a0_1) := (blk_cell BK443.out 1).trans rfl; have hfz37_0 := blk_frozen BK443.out 0; have hfz37_1 := blk_frozen BK443.out 1) | (go_at_call 29; (with_reducible refine (turn_Check.calls _ _ t445 a0_1 t454 _ ?side1 ?side2 A24.out).mono ?_); (case side1 => repeat (first | exact (Kd.V_reads' HO447.out).2.2 | (with_reducible refine Kd.C_alloc ?_ _) | (with_reducible refine Kd.C_drewN ?_ _) | (with_reducible refine Kd.C_drew ?_))); (case side2 => exact (Kd.V_reads' HO447.out).2.1); rintro e w38 ⟨rfl, hb⟩; have n0_ := Aside0.mk (Kd.V_below (by (with_reducible repeat (first | apply Kd.V_alloc | apply Kd.V_drewN | apply Kd.V_drew)); exact HO447.out) hb); have n1_ := Aside0.mk (Kd.V_below (by (with_reducible repeat (first | apply Kd.V_alloc | apply Kd.V_drewN | apply Kd.V_drew)); exact HO452.out) hb); have n2_ := Aside0.mk (blk_below (g := gb443) (o := .cells #[.slice Ao14 t445.length co14, .int .i64 a0_1] 49 (0, 0)) (by (with_reducible repeat (first | refine blk_drewN ?_ _ | refine blk_drew ?_ | refine blk_alloc ?_ _)); exact BK443.out) hb); have n3_ := Aside0.mk (blk_below (g := gb444) (o := .cells #[.string t448, .int .i64 t449] 23 (0, 0)) (by (with_reducible repeat (first | refine blk_drewN ?_ _ | refine blk_drew ?_ | refine blk_alloc ?_ _)); exact BK444.out) hb); have n4_ := Aside0.mk (below_step (by repeat (first | (with_reducible first | exact HB.out | apply below_alloc | apply pw_below_drewN | apply below_drew1 | refine below_set ?_ GE443.out | refine below_set ?_ GE444.out) | exact HB.out)) hb); clear HO447; clear HO452; clear BK443; clear BK444; clear HB; have HO447 := n0_; have HO452 := n1_; have BK443 := n2_; have BK444 := n3_; have HB := n4_; clear n0_ n1_ n2_ n3_ n4_; (try clear hb); (try clear hb2); (try clear hk); (try clear hi)))
            go_meet
            case rel => exact ⟨_, (true), (by first | rfl | (simp; done) | (simp [*]; done)), H', ⟨by first | omega | exact Nat.le_refl _⟩, ⟨by (with_reducible repeat (first | apply Kd.V_alloc | apply Kd.V_drewN | apply Kd.V_drew)); exact HO452.out⟩, ⟨by (with_reducible repeat (first | apply Kd.V_alloc | apply Kd.V_drewN | apply Kd.V_drew)); exact HO447.out⟩, ⟨by (with_reducible repeat (first | refine blk_drewN ?_ _ | refine blk_drew ?_ | refine blk_alloc ?_ _)); exact BK443.out⟩, ⟨by (with_reducible repeat (first | refine blk_drewN ?_ _ | refine blk_drew ?_ | refine blk_alloc ?_ _)); exact BK444.out⟩, ⟨by repeat (first | (with_reducible first | exact HB.out | apply below_alloc | apply pw_below_drewN | apply below_drew1 | refine below_set ?_ GE443.out | refine below_set ?_ GE444.out) | exact HB.out)⟩⟩
        · rw [if_neg c23] at H
          have c23b0 : (t453 == 0) = false := beq_eq_false_iff_ne.mpr c23
          have c23b1 : (t453 != 0) = true := bne_iff_ne.mpr c23
          have H' := Aside0.mk H
          clear H
          obtain ⟨Ao39, co39, eo39⟩ := Kd.V_slice HO452.out
          subst eo39
          go_wp2_with (first | (go_at_call 28; (with_reducible refine (turn_Nodes.calls k _ _ t450 t453 _ ?side1 ?side2 A22.out).mono ?_); (case side1 => refine (Kd.V_reads' (e := 3) (base := w.heap.size) (ok := fun k_ => (k_ ≠ gb443 ∧ k_ ≠ gb444)) (n := t450.length) (c := co39) ?_).2.2; exact (by (with_reducible repeat (first | apply Kd.V_alloc | apply Kd.V_drewN | apply Kd.V_drew)); exact (Kd.V_mono (Kd.V_mono (Kd.V_far (p := ⟨gb444, 1, none⟩) (Kd.V_far (p := ⟨gb444, 0, none⟩) (Kd.V_far (p := ⟨gb443, 0, none⟩) (Kd.V_mono (Kd.V_mono HO452.out (fun k_ hk => (⟨hk, hk.1⟩ : _ ∧ k_ ≠ gb443))) (fun k_ hk => (⟨hk, hk.1.2⟩ : _ ∧ k_ ≠ gb444))) (fun _ hk => hk.1.2) (.slice Ao14 t445.length co14)) (fun _ hk => hk.2) (.string t448)) (fun _ hk => hk.2) (.int .i64 t449)) (fun _ h_ => h_.1)) (fun _ h_ => h_.1)))); (case side2 => exact (Kd.V_reads' HO452.out).2.1); rintro e w40 ⟨rfl, hb⟩; have n0_ := Aside0.mk (Kd.V_below (by (with_reducible repeat (first | apply Kd.V_alloc | apply Kd.V_drewN | apply Kd.V_drew)); exact (Kd.V_mono (Kd.V_mono (Kd.V_far (p := ⟨gb444, 1, none⟩) (Kd.V_far (p := ⟨gb444, 0, none⟩) (Kd.V_far (p := ⟨gb443, 0, none⟩) (Kd.V_mono (Kd.V_mono HO447.out (fun k_ hk => (⟨hk, hk.1⟩ : _ ∧ k_ ≠ gb443))) (fun k_ hk => (⟨hk, hk.1.2⟩ : _ ∧ k_ ≠ gb444))) (fun _ hk => hk.1.2) (.slice Ao14 t445.length co14)) (fun _ hk => hk.2) (.string t448)) (fun _ hk => hk.2) (.int .i64 t449)) (fun _ h_ => h_.1)) (fun _ h_ => h_.1))) hb); have n1_ := Aside0.mk (Kd.V_below (by (with_reducible repeat (first | apply Kd.V_alloc | apply Kd.V_drewN | apply Kd.V_drew)); exact (Kd.V_mono (Kd.V_mono (Kd.V_far (p := ⟨gb444, 1, none⟩) (Kd.V_far (p := ⟨gb444, 0, none⟩) (Kd.V_far (p := ⟨gb443, 0, none⟩) (Kd.V_mono (Kd.V_mono HO452.out (fun k_ hk => (⟨hk, hk.1⟩ : _ ∧ k_ ≠ gb443))) (fun k_ hk => (⟨hk, hk.1.2⟩ : _ ∧ k_ ≠ gb444))) (fun _ hk => hk.1.2) (.slice Ao14 t445.length co14)) (fun _ hk => hk.2) (.string t448)) (fun _ hk => hk.2) (.int .i64 t449)) (fun _ h_ => h_.1)) (fun _ h_ => h_.1))) hb); have n2_ := Aside0.mk (blk_below (g := gb443) (o := .cells #[.slice Ao14 t445.length co14, .int .i64 a0_1] 49 (0, 0)) (by (with_reducible repeat (first | refine blk_drewN ?_ _ | refine blk_drew ?_ | refine blk_alloc ?_ _)); refine blk_far ?_ NB443_444.out _; (with_reducible repeat (first | refine blk_drewN ?_ _ | refine blk_drew ?_ | refine blk_alloc ?_ _)); refine blk_far ?_ NB443_444.out _; (with_reducible repeat (first | refine blk_drewN ?_ _ | refine blk_drew ?_ | refine blk_alloc ?_ _)); refine blk_put (cs := #[.slice A0_0 l0_0.length c0_0, .int .i64 a0_1]) ?_ 0 _ rfl; (with_reducible repeat (first | refine blk_drewN ?_ _ | refine blk_drew ?_ | refine blk_alloc ?_ _)); exact BK443.out) hb); have n3_ := Aside0.mk (blk_below (g := gb444) (o := .cells #[.string t448, .int .i64 t449] 23 (0, 0)) (by (with_reducible repeat (first | refine blk_drewN ?_ _ | refine blk_drew ?_ | refine blk_alloc ?_ _)); refine blk_put (cs := #[.string t448, .int .i64 a1_1]) ?_ 1 _ rfl; (with_reducible repeat (first | refine blk_drewN ?_ _ | refine blk_drew ?_ | refine blk_alloc ?_ _)); refine blk_put (cs := #[.string a1_0, .int .i64 a1_1]) ?_ 0 _ rfl; (with_reducible repeat (first | refine blk_drewN ?_ _ | refine blk_drew ?_ | refine blk_alloc ?_ _)); refine blk_far ?_ NB444_443.out _; (with_reducible repeat (first | refine blk_drewN ?_ _ | refine blk_drew ?_ | refine blk_alloc ?_ _)); exact BK444.out) hb); have n4_ := Aside0.mk (below_step (by repeat (first | (with_reducible first | exact HB.out | apply below_alloc | apply pw_below_drewN | apply below_drew1 | refine below_set ?_ GE443.out | refine below_set ?_ GE444.out) | exact HB.out)) hb); clear HO447; clear HO452; clear BK443; clear BK444; clear HB; have HO447 := n0_; have HO452 := n1_; have BK443 := n2_; have BK444 := n3_; have HB := n4_; clear n0_ n1_ n2_ n3_ n4_; (try clear hb); (try clear hb2); (try clear hk); (try clear hi)))
          go_meet
          case rel => exact ⟨_, (true), (by first | rfl | (simp; done) | (simp [*]; done)), H', ⟨by first | omega | exact Nat.le_refl _⟩, ⟨by (with_reducible repeat (first | apply Kd.V_alloc | apply Kd.V_drewN | apply Kd.V_drew)); exact HO452.out⟩, ⟨by (with_reducible repeat (first | apply Kd.V_alloc | apply Kd.V_drewN | apply Kd.V_drew)); exact HO447.out⟩, ⟨by (with_reducible repeat (first | refine blk_drewN ?_ _ | refine blk_drew ?_ | refine blk_alloc ?_ _)); exact BK443.out⟩, ⟨by (with_reducible repeat (first | refine blk_drewN ?_ _ | refine blk_drew ?_ | refine blk_alloc ?_ _)); exact BK444.out⟩, ⟨by repeat (first | (with_reducible first | exact HB.out | apply below_alloc | apply pw_below_drewN | apply below_drew1 | refine below_set ?_ GE443.out | refine below_set ?_ GE444.out) | exact HB.out)⟩⟩
  case rest =>
    clear HC7
    try clear c1
    try clear c2
    try clear p2
    try clear c3
    try clear c8
    try clear c14
    try clear c18
    try clear c18b0
    try clear c18b1
    try clear c20
    try clear c20b0
    try clear c20b1
    try clear c20b2
    try clear c23
    try clear c23b0
    try clear c23b1
    try clear c25
    try clear c25b0
    try clear c25b1
    try clear c27
    try clear c29
    try clear c36
    try clear hcz30_0
    try clear hcz30_1
    try clear hcz32_0
    try clear hcz32_1
    try clear hcz37_0
    try clear hcz37_1
    try clear hfz30_0
    try clear hfz30_1
    try clear hfz32_0
    try clear hfz32_1
    try clear hfz37_0
    try clear hfz37_1
    obtain ⟨kq, x46_6, rfl, HA, HJ6, HO_2, HO_444000, BK443, BK444, HB⟩ := hcut
    cases kq with
    | zero => exact absurd HA.out (by simp [tattlelaw08_TurnAll.j0])
    | succ kj6 =>
      have H := HA.out
      clear HA
      simp only [tattlelaw08_TurnAll.j0] at H
      by_cases c41 : x46_6 = true
      · subst c41
        have H1 : ((tattlelaw08_awakeT.f).bind fun t456 => (some t456)) = some r := by rw [if_pos rfl] at H; exact H
        clear H
        have H := H1
        clear H1
        replace H := Option.bind_eq_some_iff.mp H
        obtain ⟨t456, A420, H⟩ := H
        replace H : (some t456) = some r := H
        have A42 := Aside0.mk A420
        clear A420
        obtain rfl := Option.some.inj H
        go_wp2_with (first | ((with_reducible refine gate_callee (f := 30) rfl ?_); refine goesL_ (some 47) rfl rfl Try.func30 (by kernel_rfl) rfl #[] rfl (by (try simp only [List.map_toArray, List.map_cons, List.map_nil]); first | done | rfl | (simp only [List.length_drop, List.length_take]; rfl)) ?_; (with_reducible refine (tattlelaw08_awakeT.calls  t456 _ A42.out).mono ?_); rintro e w43 ⟨rfl, hb⟩; refine ⟨_, rfl, ?_⟩; have n0_ := Aside0.mk (Kd.V_below (by (with_reducible repeat (first | apply Kd.V_alloc | apply Kd.V_drewN | apply Kd.V_drew)); exact HO_444000.out) hb); have n1_ := Aside0.mk (blk_below (g := gb443) (o := .cells #[.slice Ao14 t445.length co14, .int .i64 a0_1] 49 (0, 0)) (by (with_reducible repeat (first | refine blk_drewN ?_ _ | refine blk_drew ?_ | refine blk_alloc ?_ _)); exact BK443.out) hb); have n2_ := Aside0.mk (blk_below (g := gb444) (o := .cells #[.string t448, .int .i64 t449] 23 (0, 0)) (by (with_reducible repeat (first | refine blk_drewN ?_ _ | refine blk_drew ?_ | refine blk_alloc ?_ _)); exact BK444.out) hb); have n3_ := Aside0.mk (below_step (by repeat (first | (with_reducible first | exact HB.out | apply below_alloc | apply pw_below_drewN | apply below_drew1 | refine below_set ?_ GE443.out | refine below_set ?_ GE444.out) | exact HB.out)) hb); clear HO_444000; clear BK443; clear BK444; clear HB; have HO_444000 := n0_; have BK443 := n1_; have BK444 := n2_; have HB := n3_; clear n0_ n1_ n2_ n3_; (try clear hb); (try clear hb2); (try clear hk); (try clear hi)))
        go_ret
        exact ⟨by first | rfl | (simp [errW_none, errW_some] <;> rfl) | (simp [*, errW_none, errW_some] <;> rfl), by repeat (first | (with_reducible first | exact HB.out | apply below_alloc | apply pw_below_drewN | apply below_drew1 | refine below_set ?_ GE443.out | refine below_set ?_ GE444.out) | exact HB.out)⟩
      · replace c41 := Bool.eq_false_iff.mpr c41
        subst c41
        have H1 : (tattlelaw08_TurnAll.l0 kj6 t450 ([] : List Int) 0 t445 a0_1 t448 t449) = some r := by rw [if_neg (show ¬ (false = true) by decide)] at H; exact H
        clear H
        have H := H1
        clear H1
        have H' := Aside0.mk H
        clear H
        go_wp2
        go_loopg [7, 8] kj6 (fun kq v7 v8 w' => ∃ (x7_2 : List Int) (x8_2 : Int) (x444000_2 : List Int) (x444001_2 : Int) (x445000_2 : ByteArray) (x445001_2 : Int) (u444000 : Value), v8 = .int .i64 x8_2 ∧ Aside0 (tattlelaw08_TurnAll.l0 kq t450 x7_2 x8_2 x444000_2 x444001_2 x445000_2 x445001_2 = some r) ∧ Aside0 (kq ≤ kj6) ∧ Aside0 (Kd.V (Kd.int .i64) 3 w' w.heap.size (fun k_ => some k_ ≠ (v7 : Value).ownBlock ∧ k_ ≠ gb443 ∧ k_ ≠ gb444) v451 t450) ∧ Aside0 (Kd.R (Kd.int .i64) 3 w' w.heap.size (fun _ => True) v7 x7_2) ∧ Aside0 (Kd.V (Kd.int .i64) 3 w' w.heap.size (fun k_ => some k_ ≠ (v7 : Value).ownBlock ∧ k_ ≠ gb443 ∧ k_ ≠ gb444) u444000 x444000_2) ∧ Aside0 (w'.heap[gb443]? = some (.cells #[u444000, .int .i64 x444001_2] 49 (0, 0))) ∧ Aside0 (w'.heap[gb444]? = some (.cells #[.string x445000_2, .int .i64 x445001_2] 23 (0, 0))) ∧ Aside0 (Below w.heap.size w w'))
        case atStart => exact ⟨(([] : List Int)), (0), (t445), (a0_1), (t448), (t449), (.slice Ao14 t445.length co14), (by first | rfl | (simp; done) | (simp [*]; done)), H', ⟨Nat.le_refl _⟩, ⟨by (with_reducible repeat (first | apply Kd.V_alloc | apply Kd.V_drewN | apply Kd.V_drew)); exact Kd.V_mono HO_2.out (fun _ hk => ⟨(by simp [Value.ownBlock]), ⟨hk.1, hk.2⟩⟩)⟩, ⟨by first | exact Kd.R_nil _ _ _ _ _ | exact Kd.N_nil _ _ _ _ _ | exact Kd.V_nil _ _ _ _ _ | exact Kd.Q_nil _ _ _ _ _ | exact Kd.S_nil _ _ _ _ _⟩, ⟨by (with_reducible repeat (first | apply Kd.V_alloc | apply Kd.V_drewN | apply Kd.V_drew)); exact Kd.V_mono HO_444000.out (fun _ hk => ⟨(by simp [Value.ownBlock]), ⟨hk.1, hk.2⟩⟩)⟩, ⟨by (with_reducible repeat (first | refine blk_drewN ?_ _ | refine blk_drew ?_ | refine blk_alloc ?_ _)); exact BK443.out⟩, ⟨by (with_reducible repeat (first | refine blk_drewN ?_ _ | refine blk_drew ?_ | refine blk_alloc ?_ _)); exact BK444.out⟩, ⟨by repeat (first | (with_reducible first | exact HB.out | apply below_alloc | apply pw_below_drewN | apply below_drew1 | refine below_set ?_ GE443.out | refine below_set ?_ GE444.out) | exact HB.out)⟩⟩
        case round =>
          clear H'
          try clear c1
          try clear c2
          try clear p2
          try clear c3
          try clear c4
          try clear c8
          try clear c14
          try clear c18
          try clear c18b0
          try clear c18b1
          try clear c20
          try clear c20b0
          try clear c20b1
          try clear c20b2
          try clear c23
          try clear c23b0
          try clear c23b1
          try clear c25
          try clear c25b0
          try clear c25b1
          try clear c27
          try clear c29
          try clear c30
          try clear c36
          try clear c41
          try clear hcz30_0
          try clear hcz30_1
          try clear hcz32_0
          try clear hcz32_1
          try clear hcz37_0
          try clear hcz37_1
          try clear hfz30_0
          try clear hfz30_1
          try clear hfz32_0
          try clear hfz32_1
          try clear hfz37_0
          try clear hfz37_1
          try clear p2
          obtain ⟨x7_2, x8_2, x444000_2, x444001_2, x445000_2, x445001_2, u444000, rfl, HA, HK2, HO_2, HO_7, HO_444000, BK443, BK444, HB⟩ := hrel
          cases gk with
          | zero => exact absurd HA.out (by simp [tattlelaw08_TurnAll.l0])
          | succ k2 =>
            have H := HA.out
            clear HA
            simp only [tattlelaw08_TurnAll.l0] at H
            by_cases c44 : x8_2 < (wrap64 (6 * (t450.length : Int)))
            · rw [if_pos c44] at H
              have c44b0 : decide (x8_2 < (wrap64 (6 * (t450.length : Int)))) = true := decide_eq_true c44
              clear c44
              replace H := Option.bind_eq_some_iff.mp H
              obtain ⟨⟨t457, t458, t461, t462, t463, t464⟩, A450, H⟩ := H
              replace H : (if t464 = 0 then ((tattleref02_Many.f k2 t450 t457).bind fun t467 => (if t467 = 1 then (if x7_2.length < 17592186044416 then (tattlelaw08_TurnAll.l0 k2 t450 (x7_2 ++ [t457]) (wrap64 (x8_2 + 1)) t458 t461 t462 t463) else (none)) else (some false))) else (some false)) = some r := H
              have A45 := Aside0.mk A450
              clear A450
              by_cases c46 : t464 = 0
              · rw [if_pos c46] at H
                have c46b0 : (t464 == 0) = true := beq_iff_eq.mpr c46
                have c46b1 : (t464 != 0) = false := bne_eq_false_iff_eq.mpr c46
                clear c46
                replace H := Option.bind_eq_some_iff.mp H
                obtain ⟨t467, A470, H⟩ := H
                replace H : (if t467 = 1 then (if x7_2.length < 17592186044416 then (tattlelaw08_TurnAll.l0 k2 t450 (x7_2 ++ [t457]) (wrap64 (x8_2 + 1)) t458 t461 t462 t463) else (none)) else (some false)) = some r := H
                have A47 := Aside0.mk A470
                clear A470
                by_cases c48 : t467 = 1
                · rw [if_pos c48] at H
                  have c48b0 : (t467 == 1) = true := beq_iff_eq.mpr c48
                  have c48b1 : (t467 != 1) = false := bne_eq_false_iff_eq.mpr c48
                  clear c48
                  by_cases c49 : x7_2.length < 17592186044416
                  · rw [if_pos c49] at H
                    have LMc49 := Aside0.mk c49
                    clear c49
                    obtain ⟨y468, hy468⟩ : ∃ y_ : List Int, y_ = (x7_2 ++ [t457]) := ⟨_, rfl⟩
                    replace H : (tattlelaw08_TurnAll.l0 k2 t450 y468 (wrap64 (x8_2 + 1)) t458 t461 t462 t463) = some r := by first | (rw [hy468]; with_reducible exact H) | (have H2_ := (Option.bind_some _ _).symm.trans H; rw [hy468]; with_reducible exact H2_) | (have H2_ := (Option.bind_some _ _).symm.trans H; with_reducible exact H2_) | with_reducible exact H | (rw [hy468]; exact H) | exact H
                    have Ny468 := Aside0.mk hy468
                    clear hy468
                    have H' := Aside0.mk H
                    clear H
                    obtain ⟨Ao50, co50, eo50⟩ := Kd.V_slice HO_2.out
                    subst eo50
                    have hnb51 := NB443_444.out
                    have hnc51 := NB444_443.out
                    have hcz52_0 : wr.cell? ⟨gb443, 0, none⟩ = some (u444000) := (blk_cell BK443.out 0).trans rfl
                    have hcz52_1 : wr.cell? ⟨gb443, 1, none⟩ = some (.int .i64 x444001_2) := (blk_cell BK443.out 1).trans rfl
                    have hfz52_0 := blk_frozen BK443.out 0
                    have hfz52_1 := blk_frozen BK443.out 1
                    have hcz53_0 : wr.cell? ⟨gb444, 0, none⟩ = some (.string x445000_2) := (blk_cell BK444.out 0).trans rfl
                    have hcz53_1 : wr.cell? ⟨gb444, 1, none⟩ = some (.int .i64 x445001_2) := (blk_cell BK444.out 1).trans rfl
                    have hfz53_0 := blk_frozen BK444.out 0
                    have hfz53_1 := blk_frozen BK444.out 1
                    obtain ⟨Ao54, co54, eo54⟩ := Kd.V_slice HO_444000.out
                    subst eo54
                    try go_wp2_with (first | ((with_reducible refine gate_callee (f := 31) rfl ?_); refine goesL_ (some 59) rfl rfl Try.func31 (by kernel_rfl) rfl #[.agg #[.slice Ao54 x444000_2.length co54, .int .i64 x444001_2], .agg #[.string x445000_2, .int .i64 x445001_2], .slice Ao50 t450.length co50] rfl (by (try simp only [List.map_toArray, List.map_cons, List.map_nil]); first | done | rfl | (simp only [List.length_drop, List.length_take]; rfl)) ?_; (with_reducible refine (turn_Next.calls k2 (fun k_ => (some k_ ≠ (u7 : Value).ownBlock ∧ (k_ ≠ gb443 ∧ k_ ≠ gb444))) _ _ x444000_2 x444001_2 x445000_2 x445001_2 _ _ t450 t457 t458 t461 t462 t463 t464 _ ?side1 ?side2 ?side3 A45.out).mono ?_); (case side1 => exact HO_444000.out); (case side2 => repeat (first | exact (Kd.V_reads' HO_2.out).2.2 | (with_reducible refine Kd.C_alloc ?_ _) | (with_reducible refine Kd.C_drewN ?_ _) | (with_reducible refine Kd.C_drew ?_))); (case side3 => exact (Kd.V_reads' HO_2.out).2.1); rintro e w55 ⟨v459, rfl, ho0, hb⟩; refine ⟨_, rfl, ?_⟩; have n0_ := Aside0.mk (Kd.V_below (by (with_reducible repeat (first | apply Kd.V_alloc | apply Kd.V_drewN | apply Kd.V_drew)); exact HO_2.out) hb); have n1_ := Aside0.mk (Kd.R_below (by (with_reducible repeat (first | apply Kd.R_alloc | apply Kd.R_drewN | apply Kd.R_drew)); exact HO_7.out) hb); have n2_ := Aside0.mk (Kd.V_below (by (with_reducible repeat (first | apply Kd.V_alloc | apply Kd.V_drewN | apply Kd.V_drew)); exact HO_444000.out) hb); have n3_ := Aside0.mk (Kd.V_lower (Kd.V_mono (ok' := fun k_ => some k_ ≠ (u7 : Value).ownBlock ∧ k_ ≠ gb443 ∧ k_ ≠ gb444) ho0 (fun k_ hk_ => ⟨Or.elim hk_ (fun hs_ => hs_.1) (fun hn_ => (Kd.fresh' (Kd.R_lt (by (with_reducible repeat (first | apply Kd.R_alloc | apply Kd.R_drewN | apply Kd.R_drew)); exact HO_7.out)) k_ hn_)), Or.elim hk_ (fun hs_ => hs_.2.1) (fun hn_ => (Kd.freshB (g := gb443) (o := .cells #[.slice Ao54 x444000_2.length co54, .int .i64 x444001_2] 49 (0, 0)) (by (with_reducible repeat (first | refine blk_drewN ?_ _ | refine blk_drew ?_ | refine blk_alloc ?_ _)); exact BK443.out) k_ hn_)), Or.elim hk_ (fun hs_ => hs_.2.2) (fun hn_ => (Kd.freshB (g := gb444) (o := .cells #[.string x445000_2, .int .i64 x445001_2] 23 (0, 0)) (by (with_reducible repeat (first | refine blk_drewN ?_ _ | refine blk_drew ?_ | refine blk_alloc ?_ _)); exact BK444.out) k_ hn_))⟩)) (below_size (by repeat (first | (with_reducible first | exact HB.out | apply below_alloc | apply pw_below_drewN | apply below_drew1 | refine below_set ?_ GE443.out | refine below_set ?_ GE444.out) | exact HB.out)))); have n4_ := Aside0.mk (blk_below (g := gb443) (o := .cells #[.slice Ao54 x444000_2.length co54, .int .i64 x444001_2] 49 (0, 0)) (by (with_reducible repeat (first | refine blk_drewN ?_ _ | refine blk_drew ?_ | refine blk_alloc ?_ _)); exact BK443.out) hb); have n5_ := Aside0.mk (blk_below (g := gb444) (o := .cells #[.string x445000_2, .int .i64 x445001_2] 23 (0, 0)) (by (with_reducible repeat (first | refine blk_drewN ?_ _ | refine blk_drew ?_ | refine blk_alloc ?_ _)); exact BK444.out) hb); have n6_ := Aside0.mk (below_step (by repeat (first | (with_reducible first | exact HB.out | apply below_alloc | apply pw_below_drewN | apply below_drew1 | refine below_set ?_ GE443.out | refine below_set ?_ GE444.out) | exact HB.out)) hb); clear HO_2; clear HO_7; clear HO_444000; clear BK443; clear BK444; clear HB; have HO_2 := n0_; have HO_7 := n1_; have HO_444000 := n2_; have HO460 := n3_; have BK443 := n4_; have BK444 := n5_; have HB := n6_; clear n0_ n1_ n2_ n3_ n4_ n5_ n6_; (try clear hb); (try clear hb2); (try clear hk); (try clear hi); (try clear ho0)) | ((with_reducible refine gate_dst (N := 10) rfl ?_); (try (refine gate_guard (by rfl) ?_; dsimp only)); refine box_event ?hg (N := 10) ?hd (cs := #[.slice none 0 0, .int .i64 0]) (t := 49) ?hr ?_; (case hd => rfl); (case hg => rfl); (case hr => first | (go_simp; done) | (go_simp; rfl)); intro gb465 hg w56 hbox hb; have n0_ := Aside0.mk (Kd.V_below (Kd.V_elderB (by (with_reducible repeat (first | apply Kd.V_alloc | apply Kd.V_drewN | apply Kd.V_drew)); exact HO_2.out) gb465 (Nat.le_of_eq hg.symm)) hb); have n1_ := Aside0.mk (Kd.R_below (by (with_reducible repeat (first | apply Kd.R_alloc | apply Kd.R_drewN | apply Kd.R_drew)); exact HO_7.out) hb); have n2_ := Aside0.mk (Kd.V_below (Kd.V_elderB (by (with_reducible repeat (first | apply Kd.V_alloc | apply Kd.V_drewN | apply Kd.V_drew)); exact HO_444000.out) gb465 (Nat.le_of_eq hg.symm)) hb); have n3_ := Aside0.mk (Kd.V_below (Kd.V_elderB (by (with_reducible repeat (first | apply Kd.V_alloc | apply Kd.V_drewN | apply Kd.V_drew)); exact HO460.out) gb465 (Nat.le_of_eq hg.symm)) hb); have n4_ := Aside0.mk (blk_below (g := gb443) (o := .cells #[.slice Ao54 x444000_2.length co54, .int .i64 x444001_2] 49 (0, 0)) (by (with_reducible repeat (first | refine blk_drewN ?_ _ | refine blk_drew ?_ | refine blk_alloc ?_ _)); exact BK443.out) hb); have n5_ := Aside0.mk (blk_below (g := gb444) (o := .cells #[.string x445000_2, .int .i64 x445001_2] 23 (0, 0)) (by (with_reducible repeat (first | refine blk_drewN ?_ _ | refine blk_drew ?_ | refine blk_alloc ?_ _)); exact BK444.out) hb); have n6_ := Aside0.mk (below_step (by repeat (first | (with_reducible first | exact HB.out | apply below_alloc | apply pw_below_drewN | apply below_drew1 | refine below_set ?_ GE443.out | refine below_set ?_ GE444.out) | exact HB.out)) hb); have n7_ := Aside0.mk (hbox); have n8_ := Aside0.mk ((by rw [hg]; exact (below_size (by repeat (first | (with_reducible first | exact HB.out | apply below_alloc | apply pw_below_drewN | apply below_drew1 | refine below_set ?_ GE443.out | refine below_set ?_ GE444.out) | exact HB.out))) : w.heap.size ≤ gb465)); have n9_ := Aside0.mk ((by rw [hg]; exact (below_size (by repeat (first | (with_reducible first | exact HB.out | apply below_alloc | apply pw_below_drewN | apply below_drew1 | refine below_set ?_ GE443.out | refine below_set ?_ GE444.out) | exact HB.out))) : w.heap.size ≤ gb465)); have n10_ := Aside0.mk ((by rw [hg]; exact Nat.ne_of_lt (blk_lt (g := gb443) (o := .cells #[.slice Ao54 x444000_2.length co54, .int .i64 x444001_2] 49 (0, 0)) (by (with_reducible repeat (first | refine blk_drewN ?_ _ | refine blk_drew ?_ | refine blk_alloc ?_ _)); exact BK443.out)) : gb443 ≠ gb465)); have n11_ := Aside0.mk ((by rw [hg]; exact Nat.ne_of_gt (blk_lt (g := gb443) (o := .cells #[.slice Ao54 x444000_2.length co54, .int .i64 x444001_2] 49 (0, 0)) (by (with_reducible repeat (first | refine blk_drewN ?_ _ | refine blk_drew ?_ | refine blk_alloc ?_ _)); exact BK443.out)) : gb465 ≠ gb443)); have n12_ := Aside0.mk ((by rw [hg]; exact Nat.ne_of_lt (blk_lt (g := gb444) (o := .cells #[.string x445000_2, .int .i64 x445001_2] 23 (0, 0)) (by (with_reducible repeat (first | refine blk_drewN ?_ _ | refine blk_drew ?_ | refine blk_alloc ?_ _)); exact BK444.out)) : gb444 ≠ gb465)); have n13_ := Aside0.mk ((by rw [hg]; exact Nat.ne_of_gt (blk_lt (g := gb444) (o := .cells #[.string x445000_2, .int .i64 x445001_2] 23 (0, 0)) (by (with_reducible repeat (first | refine blk_drewN ?_ _ | refine blk_drew ?_ | refine blk_alloc ?_ _)); exact BK444.out)) : gb465 ≠ gb444)); clear HO_2; clear HO_7; clear HO_444000; clear HO460; clear BK443; clear BK444; clear HB; have HO_2 := n0_; have HO_7 := n1_; have HO_444000 := n2_; have HO460 := n3_; have BK443 := n4_; have BK444 := n5_; have HB := n6_; have BK465 := n7_; have GW465 := n8_; have GE465 := n9_; have NB443_465 := n10_; have NB465_443 := n11_; have NB444_465 := n12_; have NB465_444 := n13_; clear n0_ n1_ n2_ n3_ n4_ n5_ n6_ n7_ n8_ n9_ n10_ n11_ n12_ n13_; clear hb hbox hg) | ((with_reducible refine gate_dst (N := 11) rfl ?_); (try (refine gate_guard (by rfl) ?_; dsimp only)); refine box_event ?hg (N := 11) ?hd (cs := #[.string (⟨#[]⟩ : ByteArray), .int .i64 0]) (t := 23) ?hr ?_; (case hd => rfl); (case hg => rfl); (case hr => first | (go_simp; done) | (go_simp; rfl)); intro gb466 hg w57 hbox hb; have n0_ := Aside0.mk (Kd.V_below (Kd.V_elderB (by (with_reducible repeat (first | apply Kd.V_alloc | apply Kd.V_drewN | apply Kd.V_drew)); exact HO_2.out) gb466 (Nat.le_of_eq hg.symm)) hb); have n1_ := Aside0.mk (Kd.R_below (by (with_reducible repeat (first | apply Kd.R_alloc | apply Kd.R_drewN | apply Kd.R_drew)); exact HO_7.out) hb); have n2_ := Aside0.mk (Kd.V_below (Kd.V_elderB (by (with_reducible repeat (first | apply Kd.V_alloc | apply Kd.V_drewN | apply Kd.V_drew)); exact HO_444000.out) gb466 (Nat.le_of_eq hg.symm)) hb); have n3_ := Aside0.mk (Kd.V_below (Kd.V_elderB (by (with_reducible repeat (first | apply Kd.V_alloc | apply Kd.V_drewN | apply Kd.V_drew)); exact HO460.out) gb466 (Nat.le_of_eq hg.symm)) hb); have n4_ := Aside0.mk (blk_below (g := gb443) (o := .cells #[.slice Ao54 x444000_2.length co54, .int .i64 x444001_2] 49 (0, 0)) (by (with_reducible repeat (first | refine blk_drewN ?_ _ | refine blk_drew ?_ | refine blk_alloc ?_ _)); exact BK443.out) hb); have n5_ := Aside0.mk (blk_below (g := gb444) (o := .cells #[.string x445000_2, .int .i64 x445001_2] 23 (0, 0)) (by (with_reducible repeat (first | refine blk_drewN ?_ _ | refine blk_drew ?_ | refine blk_alloc ?_ _)); exact BK444.out) hb); have n6_ := Aside0.mk (blk_below (g := gb465) (o := .cells #[.slice none 0 0, .int .i64 0] 49 (0, 0)) (by (with_reducible repeat (first | refine blk_drewN ?_ _ | refine blk_drew ?_ | refine blk_alloc ?_ _)); exact BK465.out) hb); have n7_ := Aside0.mk (below_step (by repeat (first | (with_reducible first | exact HB.out | apply below_alloc | apply pw_below_drewN | apply below_drew1 | refine below_set ?_ GE443.out | refine below_set ?_ GE444.out | refine below_set ?_ GE465.out) | exact HB.out)) hb); have n8_ := Aside0.mk (hbox); have n9_ := Aside0.mk ((by rw [hg]; exact (below_size (by repeat (first | (with_reducible first | exact HB.out | apply below_alloc | apply pw_below_drewN | apply below_drew1 | refine below_set ?_ GE443.out | refine below_set ?_ GE444.out | refine below_set ?_ GE465.out) | exact HB.out))) : w.heap.size ≤ gb466)); have n10_ := Aside0.mk ((by rw [hg]; exact (below_size (by repeat (first | (with_reducible first | exact HB.out | apply below_alloc | apply pw_below_drewN | apply below_drew1 | refine below_set ?_ GE443.out | refine below_set ?_ GE444.out | refine below_set ?_ GE465.out) | exact HB.out))) : w.heap.size ≤ gb466)); have n11_ := Aside0.mk ((by rw [hg]; exact Nat.ne_of_lt (blk_lt (g := gb443) (o := .cells #[.slice Ao54 x444000_2.length co54, .int .i64 x444001_2] 49 (0, 0)) (by (with_reducible repeat (first | refine blk_drewN ?_ _ | refine blk_drew ?_ | refine blk_alloc ?_ _)); exact BK443.out)) : gb443 ≠ gb466)); have n12_ := Aside0.mk ((by rw [hg]; exact Nat.ne_of_gt (blk_lt (g := gb443) (o := .cells #[.slice Ao54 x444000_2.length co54, .int .i64 x444001_2] 49 (0, 0)) (by (with_reducible repeat (first | refine blk_drewN ?_ _ | refine blk_drew ?_ | refine blk_alloc ?_ _)); exact BK443.out)) : gb466 ≠ gb443)); have n13_ := Aside0.mk ((by rw [hg]; exact Nat.ne_of_lt (blk_lt (g := gb444) (o := .cells #[.string x445000_2, .int .i64 x445001_2] 23 (0, 0)) (by (with_reducible repeat (first | refine blk_drewN ?_ _ | refine blk_drew ?_ | refine blk_alloc ?_ _)); exact BK444.out)) : gb444 ≠ gb466)); have n14_ := Aside0.mk ((by rw [hg]; exact Nat.ne_of_gt (blk_lt (g := gb444) (o := .cells #[.string x445000_2, .int .i64 x445001_2] 23 (0, 0)) (by (with_reducible repeat (first | refine blk_drewN ?_ _ | refine blk_drew ?_ | refine blk_alloc ?_ _)); exact BK444.out)) : gb466 ≠ gb444)); have n15_ := Aside0.mk ((by rw [hg]; exact Nat.ne_of_lt (blk_lt (g := gb465) (o := .cells #[.slice none 0 0, .int .i64 0] 49 (0, 0)) (by (with_reducible repeat (first | refine blk_drewN ?_ _ | refine blk_drew ?_ | refine blk_alloc ?_ _)); exact BK465.out)) : gb465 ≠ gb466)); have n16_ := Aside0.mk ((by rw [hg]; exact Nat.ne_of_gt (blk_lt (g := gb465) (o := .cells #[.slice none 0 0, .int .i64 0] 49 (0, 0)) (by (with_reducible repeat (first | refine blk_drewN ?_ _ | refine blk_drew ?_ | refine blk_alloc ?_ _)); exact BK465.out)) : gb466 ≠ gb465)); clear HO_2; clear HO_7; clear HO_444000; clear HO460; clear BK443; clear BK444; clear BK465; clear HB; have HO_2 := n0_; have HO_7 := n1_; have HO_444000 := n2_; have HO460 := n3_; have BK443 := n4_; have BK444 := n5_; have BK465 := n6_; have HB := n7_; have BK466 := n8_; have GW466 := n9_; have GE466 := n10_; have NB443_466 := n11_; have NB466_443 := n12_; have NB444_466 := n13_; have NB466_444 := n14_; have NB465_466 := n15_; have NB466_465 := n16_; clear n0_ n1_ n2_ n3_ n4_ n5_ n6_ n7_ n8_ n9_ n10_ n11_ n12_ n13_ n14_ n15_ n16_; clear hb hbox hg; obtain ⟨Ao58, co58, eo58⟩ := Kd.V_slice HO460.out; subst eo58; have hnb59 := NB465_443.out; have hnc59 := NB443_465.out; have hnb60 := NB465_444.out; have hnc60 := NB444_465.out; have hnb61 := NB465_466.out; have hnc61 := NB466_465.out; have hcz62_0 : w57.cell? ⟨gb465, 0, none⟩ = some (.slice none 0 0) := (blk_cell BK465.out 0).trans rfl; have hcz62_1 : w57.cell? ⟨gb465, 1, none⟩ = some (.int .i64 0) := (blk_cell BK465.out 1).trans rfl; have hfz62_0 := blk_frozen BK465.out 0; have hfz62_1 := blk_frozen BK465.out 1; have hnb63 := NB466_443.out; have hnc63 := NB443_466.out; have hnb64 := NB466_444.out; have hnc64 := NB444_466.out; have hcz65_0 : w57.cell? ⟨gb466, 0, none⟩ = some (.string (⟨#[]⟩ : ByteArray)) := (blk_cell BK466.out 0).trans rfl; have hcz65_1 : w57.cell? ⟨gb466, 1, none⟩ = some (.int .i64 0) := (blk_cell BK466.out 1).trans rfl; have hfz65_0 := blk_frozen BK466.out 0; have hfz65_1 := blk_frozen BK466.out 1) | (go_at_call 26; (with_reducible refine (tattleref02_Many.calls k2 _ _ t450 t457 t467 _ ?side1 ?side2 A47.out).mono ?_); (case side1 => refine (Kd.V_reads' (e := 3) (base := w.heap.size) (ok := fun k_ => (((some k_ ≠ (u7 : Value).ownBlock ∧ (k_ ≠ gb443 ∧ k_ ≠ gb444)) ∧ k_ ≠ gb465) ∧ k_ ≠ gb466)) (n := t450.length) (c := co50) ?_).2.2; exact (by (with_reducible repeat (first | apply Kd.V_alloc | apply Kd.V_drewN | apply Kd.V_drew)); exact (Kd.V_mono (Kd.V_mono (Kd.V_far (p := ⟨gb466, 1, none⟩) (Kd.V_far (p := ⟨gb466, 0, none⟩) (Kd.V_far (p := ⟨gb465, 1, none⟩) (Kd.V_far (p := ⟨gb465, 0, none⟩) (Kd.V_mono (Kd.V_mono HO_2.out (fun k_ hk => (⟨hk, hk.1.2⟩ : _ ∧ k_ ≠ gb465))) (fun k_ hk => (⟨hk, hk.1.2⟩ : _ ∧ k_ ≠ gb466))) (fun _ hk => hk.1.2) (.slice Ao58 t458.length co58)) (fun _ hk => hk.1.2) (.int .i64 t461)) (fun _ hk => hk.2) (.string t462)) (fun _ hk => hk.2) (.int .i64 t463)) (fun _ h_ => h_.1)) (fun _ h_ => h_.1)))); (case side2 => exact (Kd.V_reads' HO_2.out).2.1); rintro e w' ⟨rfl, ⟨nd, rfl⟩⟩) | ((with_reducible refine gate_builtin (b := .append) (xs := #[.tmp 72, .tmp 74]) rfl ?_); (try (refine gate_guard (by rfl) ?_; dsimp only)); at_builtin; refine Kd.R_append (Kd.int .i64) (w0 := w) w.heap.size rfl (.tmp 72) (.tmp 74) 24 3 (.int .i64 0) 8 rfl Try.underlying24 info3 rfl (by decide) (by omega) u7 x7_2 t457 [.int .i64 t457] (fun _ => True) (fun _ => False) rfl (by first | (go_simp; done) | (go_simp; rfl)) ?aP (fun _ hk => hk.elim) ?aF ?aO ?aB ?aS ?aL ?_; (case aP => exact rfl); (case aB => exact (by repeat (first | (with_reducible first | exact HB.out | apply below_alloc | apply pw_below_drewN | apply below_drew1 | refine below_set ?_ GE443.out | refine below_set ?_ GE444.out | refine below_set ?_ GE465.out | refine below_set ?_ GE466.out) | exact HB.out))); (case aF => exact (fun _ _ => trivial)); (case aO => exact (by (with_reducible repeat (first | apply Kd.R_alloc | apply Kd.R_drewN | apply Kd.R_drew)); exact Kd.R_mono (Kd.R_far (p := ⟨gb466, 1, none⟩) (Kd.R_far (p := ⟨gb466, 0, none⟩) (Kd.R_far (p := ⟨gb465, 1, none⟩) (Kd.R_far (p := ⟨gb465, 0, none⟩) (Kd.R_types (Kd.R_types HO_7.out BK465.out (by decide)) BK466.out (by decide)) (fun _ hk => hk.1.2) (.slice Ao58 t458.length co58)) (fun _ hk => hk.1.2) (.int .i64 t461)) (fun _ hk => hk.2) (.string t462)) (fun _ hk => hk.2) (.int .i64 t463)) (fun _ hk => trivial))); (case aS => exact (below_size (by repeat (first | (with_reducible first | exact HB.out | apply below_alloc | apply pw_below_drewN | apply below_drew1 | refine below_set ?_ GE443.out | refine below_set ?_ GE444.out | refine below_set ?_ GE465.out | refine below_set ?_ GE466.out) | exact HB.out)))); (case aL => have := LMc49.out; omega); intro v469 w66 ho hb hg hat; rw [← Ny468.out] at ho; have n0_ := Aside0.mk (Kd.V_afterv (ok := (fun k_ => k_ ≠ gb443 ∧ k_ ≠ gb444 ∧ k_ ≠ gb465 ∧ k_ ≠ gb466)) (by (with_reducible repeat (first | apply Kd.V_alloc | apply Kd.V_drewN | apply Kd.V_drew)); exact Kd.V_mono (Kd.V_far (p := ⟨gb466, 1, none⟩) (Kd.V_far (p := ⟨gb466, 0, none⟩) (Kd.V_far (p := ⟨gb465, 1, none⟩) (Kd.V_far (p := ⟨gb465, 0, none⟩) (Kd.V_mono (Kd.V_mono HO_2.out (fun k_ hk => (⟨hk, hk.1.2⟩ : _ ∧ k_ ≠ gb465))) (fun k_ hk => (⟨hk, hk.1.2⟩ : _ ∧ k_ ≠ gb466))) (fun _ hk => hk.1.2) (.slice Ao58 t458.length co58)) (fun _ hk => hk.1.2) (.int .i64 t461)) (fun _ hk => hk.2) (.string t462)) (fun _ hk => hk.2) (.int .i64 t463)) (fun _ hk => ⟨⟨hk.1.1.1.1.2.1, ⟨hk.1.1.1.1.2.2, ⟨hk.1.1.1.2, hk.1.1.2⟩⟩⟩, hk.1.1.1.1.1⟩)) hg hat); have n1_ := Aside0.mk (Kd.V_afterv (ok := (fun k_ => k_ ≠ gb443 ∧ k_ ≠ gb444 ∧ k_ ≠ gb465 ∧ k_ ≠ gb466)) (by (with_reducible repeat (first | apply Kd.V_alloc | apply Kd.V_drewN | apply Kd.V_drew)); exact Kd.V_mono (Kd.V_far (p := ⟨gb466, 1, none⟩) (Kd.V_far (p := ⟨gb466, 0, none⟩) (Kd.V_far (p := ⟨gb465, 1, none⟩) (Kd.V_far (p := ⟨gb465, 0, none⟩) (Kd.V_mono (Kd.V_mono HO_444000.out (fun k_ hk => (⟨hk, hk.1.2⟩ : _ ∧ k_ ≠ gb465))) (fun k_ hk => (⟨hk, hk.1.2⟩ : _ ∧ k_ ≠ gb466))) (fun _ hk => hk.1.2) (.slice Ao58 t458.length co58)) (fun _ hk => hk.1.2) (.int .i64 t461)) (fun _ hk => hk.2) (.string t462)) (fun _ hk => hk.2) (.int .i64 t463)) (fun _ hk => ⟨⟨hk.1.1.1.1.2.1, ⟨hk.1.1.1.1.2.2, ⟨hk.1.1.1.2, hk.1.1.2⟩⟩⟩, hk.1.1.1.1.1⟩)) hg hat); have n2_ := Aside0.mk (blk_grown (g := gb443) (o := .cells #[.slice Ao54 x444000_2.length co54, .int .i64 x444001_2] 49 (0, 0)) (by (with_reducible repeat (first | refine blk_drewN ?_ _ | refine blk_drew ?_ | refine blk_alloc ?_ _)); refine blk_far ?_ NB443_466.out _; (with_reducible repeat (first | refine blk_drewN ?_ _ | refine blk_drew ?_ | refine blk_alloc ?_ _)); refine blk_far ?_ NB443_466.out _; (with_reducible repeat (first | refine blk_drewN ?_ _ | refine blk_drew ?_ | refine blk_alloc ?_ _)); refine blk_far ?_ NB443_465.out _; (with_reducible repeat (first | refine blk_drewN ?_ _ | refine blk_drew ?_ | refine blk_alloc ?_ _)); refine blk_far ?_ NB443_465.out _; (with_reducible repeat (first | refine blk_drewN ?_ _ | refine blk_drew ?_ | refine blk_alloc ?_ _)); exact BK443.out) hg (Kd.R_ne HO_7.out BK443.out (by decide))); have n3_ := Aside0.mk (blk_grown (g := gb444) (o := .cells #[.string x445000_2, .int .i64 x445001_2] 23 (0, 0)) (by (with_reducible repeat (first | refine blk_drewN ?_ _ | refine blk_drew ?_ | refine blk_alloc ?_ _)); refine blk_far ?_ NB444_466.out _; (with_reducible repeat (first | refine blk_drewN ?_ _ | refine blk_drew ?_ | refine blk_alloc ?_ _)); refine blk_far ?_ NB444_466.out _; (with_reducible repeat (first | refine blk_drewN ?_ _ | refine blk_drew ?_ | refine blk_alloc ?_ _)); refine blk_far ?_ NB444_465.out _; (with_reducible repeat (first | refine blk_drewN ?_ _ | refine blk_drew ?_ | refine blk_alloc ?_ _)); refine blk_far ?_ NB444_465.out _; (with_reducible repeat (first | refine blk_drewN ?_ _ | refine blk_drew ?_ | refine blk_alloc ?_ _)); exact BK444.out) hg (Kd.R_ne HO_7.out BK444.out (by decide))); have n4_ := Aside0.mk (Kd.V_afterv (ok := (fun k_ => k_ ≠ gb443 ∧ k_ ≠ gb444 ∧ k_ ≠ gb465 ∧ k_ ≠ gb466)) (by (with_reducible repeat (first | apply Kd.V_alloc | apply Kd.V_drewN | apply Kd.V_drew)); exact Kd.V_mono (Kd.V_far (p := ⟨gb466, 1, none⟩) (Kd.V_far (p := ⟨gb466, 0, none⟩) (Kd.V_far (p := ⟨gb465, 1, none⟩) (Kd.V_far (p := ⟨gb465, 0, none⟩) (Kd.V_mono (Kd.V_mono HO460.out (fun k_ hk => (⟨hk, hk.1.2⟩ : _ ∧ k_ ≠ gb465))) (fun k_ hk => (⟨hk, hk.1.2⟩ : _ ∧ k_ ≠ gb466))) (fun _ hk => hk.1.2) (.slice Ao58 t458.length co58)) (fun _ hk => hk.1.2) (.int .i64 t461)) (fun _ hk => hk.2) (.string t462)) (fun _ hk => hk.2) (.int .i64 t463)) (fun _ hk => ⟨⟨hk.1.1.1.1.2.1, ⟨hk.1.1.1.1.2.2, ⟨hk.1.1.1.2, hk.1.1.2⟩⟩⟩, hk.1.1.1.1.1⟩)) hg hat); have n5_ := Aside0.mk (blk_grown (g := gb465) (o := .cells #[.slice Ao58 t458.length co58, .int .i64 t461] 49 (0, 0)) (by (with_reducible repeat (first | refine blk_drewN ?_ _ | refine blk_drew ?_ | refine blk_alloc ?_ _)); refine blk_far ?_ NB465_466.out _; (with_reducible repeat (first | refine blk_drewN ?_ _ | refine blk_drew ?_ | refine blk_alloc ?_ _)); refine blk_far ?_ NB465_466.out _; (with_reducible repeat (first | refine blk_drewN ?_ _ | refine blk_drew ?_ | refine blk_alloc ?_ _)); refine blk_put (cs := #[.slice Ao58 t458.length co58, .int .i64 0]) ?_ 1 _ rfl; (with_reducible repeat (first | refine blk_drewN ?_ _ | refine blk_drew ?_ | refine blk_alloc ?_ _)); refine blk_put (cs := #[.slice none 0 0, .int .i64 0]) ?_ 0 _ rfl; (with_reducible repeat (first | refine blk_drewN ?_ _ | refine blk_drew ?_ | refine blk_alloc ?_ _)); exact BK465.out) hg (Kd.R_ne HO_7.out BK465.out (by decide))); have n6_ := Aside0.mk (blk_grown (g := gb466) (o := .cells #[.string t462, .int .i64 t463] 23 (0, 0)) (by (with_reducible repeat (first | refine blk_drewN ?_ _ | refine blk_drew ?_ | refine blk_alloc ?_ _)); refine blk_put (cs := #[.string t462, .int .i64 0]) ?_ 1 _ rfl; (with_reducible repeat (first | refine blk_drewN ?_ _ | refine blk_drew ?_ | refine blk_alloc ?_ _)); refine blk_put (cs := #[.string (⟨#[]⟩ : ByteArray), .int .i64 0]) ?_ 0 _ rfl; (with_reducible repeat (first | refine blk_drewN ?_ _ | refine blk_drew ?_ | refine blk_alloc ?_ _)); refine blk_far ?_ NB466_465.out _; (with_reducible repeat (first | refine blk_drewN ?_ _ | refine blk_drew ?_ | refine blk_alloc ?_ _)); refine blk_far ?_ NB466_465.out _; (with_reducible repeat (first | refine blk_drewN ?_ _ | refine blk_drew ?_ | refine blk_alloc ?_ _)); exact BK466.out) hg (Kd.R_ne HO_7.out BK466.out (by decide))); have n7_ := Aside0.mk (hb); have n8_ := Aside0.mk (ho); clear HO_2; clear HO_444000; clear BK443; clear BK444; clear HO460; clear BK465; clear BK466; clear HB; clear HO_7; have HO_2 := n0_; have HO_444000 := n1_; have BK443 := n2_; have BK444 := n3_; have HO460 := n4_; have BK465 := n5_; have BK466 := n6_; have HB := n7_; have HO470 := n8_; clear n0_ n1_ n2_ n3_ n4_ n5_ n6_ n7_ n8_; clear ho hb hg hat))
                    have n0_ := Aside0.mk (Kd.V_drew HO_2.out)
                    have n1_ := Aside0.mk (Kd.V_drew HO_444000.out)
                    have n2_ := Aside0.mk (Kd.V_drew HO460.out)
                    have n3_ := Aside0.mk (Kd.R_drew HO470.out)
                    have n4_ := Aside0.mk (blk_drew BK443.out)
                    have n5_ := Aside0.mk (blk_drew BK444.out)
                    have n6_ := Aside0.mk (blk_drew BK465.out)
                    have n7_ := Aside0.mk (blk_drew BK466.out)
                    have n8_ := Aside0.mk (below_drew1 HB.out)
                    clear HO_2
                    clear HO_444000
                    clear HO460
                    clear HO470
                    clear BK443
                    clear BK444
                    clear BK465
                    clear BK466
                    clear HB
                    have HO_2 := n0_
                    have HO_444000 := n1_
                    have HO460 := n2_
                    have HO470 := n3_
                    have BK443 := n4_
                    have BK444 := n5_
                    have BK465 := n6_
                    have BK466 := n7_
                    have HB := n8_
                    clear n0_ n1_ n2_ n3_ n4_ n5_ n6_ n7_ n8_
                    refine start_ (n := 4) (S := fun w' => w'.cell? ⟨gb465, 0, none⟩ = some (.slice Ao58 t458.length co58) ∧ w'.cell? ⟨gb465, 1, none⟩ = some (.int .i64 t461) ∧ w'.cell? ⟨gb466, 0, none⟩ = some (.string t462) ∧ w'.cell? ⟨gb466, 1, none⟩ = some (.int .i64 t463)) (ds := []) #[false, false, false, false] (by kernel_rfl) rfl rfl ⟨(blk_cell BK465.out 0).trans rfl, (blk_cell BK465.out 1).trans rfl, (blk_cell BK466.out 0).trans rfl, (blk_cell BK466.out 1).trans rfl⟩ (fun hHeld => ?_)
                    generalize w66.drew = w67 at HO_2 HO_444000 HO460 HO470 BK443 BK444 BK465 BK466 HB hHeld ⊢
                    refine take_ (i := 0) (N := some 76) (v := ?_) (a' := ?_) #[true, false, false, false] rfl rfl (by kernel_rfl) (fun _ _ _ h => h) (Or.inl ⟨by rfl, ?_⟩) hHeld ?_ ?_
                    rotate_left
                    · rintro w' ⟨s0, s1, s2, s3⟩
                      go_simp
                      with_reducible rfl
                    rotate_left
                    · simp only [Act.put, List.setIfInBounds_toArray, List.set_cons_zero, List.set_cons_succ, i64_w, i32_w]
                      rfl
                    refine take_ (i := 1) (N := some 77) (v := ?_) (a' := ?_) #[true, true, false, false] rfl rfl (by kernel_rfl) (fun _ _ _ h => h) (Or.inl ⟨by rfl, ?_⟩) hHeld ?_ ?_
                    rotate_left
                    · rintro w' ⟨s0, s1, s2, s3⟩
                      go_simp
                      with_reducible rfl
                    rotate_left
                    · simp only [Act.put, List.setIfInBounds_toArray, List.set_cons_zero, List.set_cons_succ, i64_w, i32_w]
                      rfl
                    refine one_ (i := 2) (N := none) #[true, true, true, false] rfl rfl (by kernel_rfl) (by decide) (fun K hK => ?_)
                    have hs68 : w67.cell? ⟨gb443, 0, none⟩ = some (.slice Ao54 x444000_2.length co54) := (blk_cell BK443.out 0).trans rfl
                    have hfs68 := blk_frozen BK443.out 0
                    have hns68_1 := NB444_443.out
                    have hns68_2 := NB465_443.out
                    have hns68_3 := NB466_443.out
                    have hms68_1 := NB443_444.out
                    have hms68_2 := NB443_465.out
                    have hms68_3 := NB443_466.out
                    have hs69 : w67.cell? ⟨gb443, 1, none⟩ = some (.int .i64 x444001_2) := (blk_cell BK443.out 1).trans rfl
                    have hfs69 := blk_frozen BK443.out 1
                    have hns69_1 := NB444_443.out
                    have hns69_2 := NB465_443.out
                    have hns69_3 := NB466_443.out
                    have hms69_1 := NB443_444.out
                    have hms69_2 := NB443_465.out
                    have hms69_3 := NB443_466.out
                    refine skip_ (w1 := ?_) (by rfl) rfl ?_ ?_
                    rotate_left
                    · go_simp
                      rfl
                    refine hK.out _ _ ⟨((cell_far (p := ⟨gb443, _, none⟩) NB465_443.out _).trans (((cell_far (p := ⟨gb443, _, none⟩) NB465_443.out _).trans (hHeld.1)))), ((cell_far (p := ⟨gb443, _, none⟩) NB465_443.out _).trans (((cell_far (p := ⟨gb443, _, none⟩) NB465_443.out _).trans (hHeld.2.1)))), ((cell_far (p := ⟨gb443, _, none⟩) NB466_443.out _).trans (((cell_far (p := ⟨gb443, _, none⟩) NB466_443.out _).trans (hHeld.2.2.1)))), ((cell_far (p := ⟨gb443, _, none⟩) NB466_443.out _).trans (((cell_far (p := ⟨gb443, _, none⟩) NB466_443.out _).trans (hHeld.2.2.2))))⟩ (fun hHeld => ?_)
                    clear hK K
                    refine one_ (i := 3) (N := none) #[true, true, true, true] rfl rfl (by kernel_rfl) (by decide) (fun K hK => ?_)
                    have hs70 : w67.cell? ⟨gb444, 0, none⟩ = some (.string x445000_2) := (blk_cell BK444.out 0).trans rfl
                    have hfs70 := blk_frozen BK444.out 0
                    have hns70_0 := NB443_444.out
                    have hns70_2 := NB465_444.out
                    have hns70_3 := NB466_444.out
                    have hms70_0 := NB444_443.out
                    have hms70_2 := NB444_465.out
                    have hms70_3 := NB444_466.out
                    have hs71 : w67.cell? ⟨gb444, 1, none⟩ = some (.int .i64 x445001_2) := (blk_cell BK444.out 1).trans rfl
                    have hfs71 := blk_frozen BK444.out 1
                    have hns71_0 := NB443_444.out
                    have hns71_2 := NB465_444.out
                    have hns71_3 := NB466_444.out
                    have hms71_0 := NB444_443.out
                    have hms71_2 := NB444_465.out
                    have hms71_3 := NB444_466.out
                    refine skip_ (w1 := ?_) (by rfl) rfl ?_ ?_
                    rotate_left
                    · go_simp
                      rfl
                    refine hK.out _ _ ⟨((cell_far (p := ⟨gb444, _, none⟩) NB465_444.out _).trans (((cell_far (p := ⟨gb444, _, none⟩) NB465_444.out _).trans (hHeld.1)))), ((cell_far (p := ⟨gb444, _, none⟩) NB465_444.out _).trans (((cell_far (p := ⟨gb444, _, none⟩) NB465_444.out _).trans (hHeld.2.1)))), ((cell_far (p := ⟨gb444, _, none⟩) NB466_444.out _).trans (((cell_far (p := ⟨gb444, _, none⟩) NB466_444.out _).trans (hHeld.2.2.1)))), ((cell_far (p := ⟨gb444, _, none⟩) NB466_444.out _).trans (((cell_far (p := ⟨gb444, _, none⟩) NB466_444.out _).trans (hHeld.2.2.2))))⟩ (fun hHeld => ?_)
                    clear hK K
                    refine done_ (by kernel_rfl) ?_
                    try go_wp2
                    go_roundg k2
                    case measure => have := HJ6.out; have := HK2.out; omega
                    case rel => exact ⟨(y468), (wrap64 (x8_2 + 1)), (t458), (t461), (t462), (t463), (.slice Ao58 t458.length co58), (by first | rfl | (simp; done) | (simp [*]; done)), H', ⟨by have := HJ6.out; have := HK2.out; omega⟩, ⟨by (with_reducible repeat (first | apply Kd.V_alloc | apply Kd.V_drewN | apply Kd.V_drew)); exact Kd.V_mono (Kd.V_far (p := ⟨gb444, 1, none⟩) (Kd.V_far (p := ⟨gb444, 0, none⟩) (Kd.V_far (p := ⟨gb443, 1, none⟩) (Kd.V_far (p := ⟨gb443, 0, none⟩) (Kd.V_mono (Kd.V_mono HO_2.out (fun k_ hk => (⟨hk, hk.1.1⟩ : _ ∧ k_ ≠ gb443))) (fun k_ hk => (⟨hk, hk.1.1.2.1⟩ : _ ∧ k_ ≠ gb444))) (fun _ hk => hk.1.2) (.slice Ao58 t458.length co58)) (fun _ hk => hk.1.2) (.int .i64 t461)) (fun _ hk => hk.2) (.string t462)) (fun _ hk => hk.2) (.int .i64 t463)) (fun _ hk => ⟨hk.1.1.2, ⟨hk.1.1.1.1, hk.1.1.1.2.1⟩⟩)⟩, ⟨by (with_reducible repeat (first | apply Kd.R_alloc | apply Kd.R_drewN | apply Kd.R_drew)); exact Kd.R_mono (Kd.R_far (p := ⟨gb444, 1, none⟩) (Kd.R_far (p := ⟨gb444, 0, none⟩) (Kd.R_far (p := ⟨gb443, 1, none⟩) (Kd.R_far (p := ⟨gb443, 0, none⟩) (Kd.R_types (Kd.R_types HO470.out BK443.out (by decide)) BK444.out (by decide)) (fun _ hk => hk.1.2) (.slice Ao58 t458.length co58)) (fun _ hk => hk.1.2) (.int .i64 t461)) (fun _ hk => hk.2) (.string t462)) (fun _ hk => hk.2) (.int .i64 t463)) (fun _ hk => trivial)⟩, ⟨by (with_reducible repeat (first | apply Kd.V_alloc | apply Kd.V_drewN | apply Kd.V_drew)); exact Kd.V_mono (Kd.V_far (p := ⟨gb444, 1, none⟩) (Kd.V_far (p := ⟨gb444, 0, none⟩) (Kd.V_far (p := ⟨gb443, 1, none⟩) (Kd.V_far (p := ⟨gb443, 0, none⟩) (Kd.V_mono (Kd.V_mono HO460.out (fun k_ hk => (⟨hk, hk.1.1⟩ : _ ∧ k_ ≠ gb443))) (fun k_ hk => (⟨hk, hk.1.1.2.1⟩ : _ ∧ k_ ≠ gb444))) (fun _ hk => hk.1.2) (.slice Ao58 t458.length co58)) (fun _ hk => hk.1.2) (.int .i64 t461)) (fun _ hk => hk.2) (.string t462)) (fun _ hk => hk.2) (.int .i64 t463)) (fun _ hk => ⟨hk.1.1.2, ⟨hk.1.1.1.1, hk.1.1.1.2.1⟩⟩)⟩, ⟨by (with_reducible repeat (first | refine blk_drewN ?_ _ | refine blk_drew ?_ | refine blk_alloc ?_ _)); refine blk_far ?_ NB443_444.out _; (with_reducible repeat (first | refine blk_drewN ?_ _ | refine blk_drew ?_ | refine blk_alloc ?_ _)); refine blk_far ?_ NB443_444.out _; (with_reducible repeat (first | refine blk_drewN ?_ _ | refine blk_drew ?_ | refine blk_alloc ?_ _)); refine blk_put (cs := #[.slice Ao58 t458.length co58, .int .i64 x444001_2]) ?_ 1 _ rfl; (with_reducible repeat (first | refine blk_drewN ?_ _ | refine blk_drew ?_ | refine blk_alloc ?_ _)); refine blk_put (cs := #[.slice Ao54 x444000_2.length co54, .int .i64 x444001_2]) ?_ 0 _ rfl; (with_reducible repeat (first | refine blk_drewN ?_ _ | refine blk_drew ?_ | refine blk_alloc ?_ _)); exact BK443.out⟩, ⟨by (with_reducible repeat (first | refine blk_drewN ?_ _ | refine blk_drew ?_ | refine blk_alloc ?_ _)); refine blk_put (cs := #[.string t462, .int .i64 x445001_2]) ?_ 1 _ rfl; (with_reducible repeat (first | refine blk_drewN ?_ _ | refine blk_drew ?_ | refine blk_alloc ?_ _)); refine blk_put (cs := #[.string x445000_2, .int .i64 x445001_2]) ?_ 0 _ rfl; (with_reducible repeat (first | refine blk_drewN ?_ _ | refine blk_drew ?_ | refine blk_alloc ?_ _)); refine blk_far ?_ NB444_443.out _; (with_reducible repeat (first | refine blk_drewN ?_ _ | refine blk_drew ?_ | refine blk_alloc ?_ _)); refine blk_far ?_ NB444_443.out _; (with_reducible repeat (first | refine blk_drewN ?_ _ | refine blk_drew ?_ | refine blk_alloc ?_ _)); exact BK444.out⟩, ⟨by repeat (first | (with_reducible first | exact HB.out | apply below_alloc | apply pw_below_drewN | apply below_drew1 | refine below_set ?_ GE443.out | refine below_set ?_ GE444.out | refine below_set ?_ GE465.out | refine below_set ?_ GE466.out) | exact HB.out)⟩⟩
                  · rw [if_neg c49] at H
                    exact absurd H (by simp)
                · rw [if_neg c48] at H
                  have c48b0 : (t467 == 1) = false := beq_eq_false_iff_ne.mpr c48
                  have c48b1 : (t467 != 1) = true := bne_iff_ne.mpr c48
                  exact absurd ((Option.some.inj H).trans hrt.out) (by decide)
              · rw [if_neg c46] at H
                have c46b0 : (t464 == 0) = false := beq_eq_false_iff_ne.mpr c46
                have c46b1 : (t464 != 0) = true := bne_iff_ne.mpr c46
                exact absurd ((Option.some.inj H).trans hrt.out) (by decide)
            · rw [if_neg c44] at H
              have c44b0 : decide (x8_2 < (wrap64 (6 * (t450.length : Int)))) = false := decide_eq_false c44
              clear c44
              have H' := Aside0.mk H
              clear H
              obtain ⟨Ao72, co72, eo72⟩ := Kd.V_slice HO_2.out
              subst eo72
              go_wp2
              go_loopg [14] k2 (fun kq v14 w' => ∃ (x14_3 : Int), v14 = .int .i64 x14_3 ∧ Aside0 (tattlelaw08_TurnAll.l1 kq t450 x7_2 (wrap64 ((wrap64 (2 * (t450.length : Int))) - 1)) x14_3 = some r) ∧ Aside0 (kq ≤ k2) ∧ Aside0 (Kd.V (Kd.int .i64) 3 w' w.heap.size (fun k_ => some k_ ≠ (u7 : Value).ownBlock ∧ k_ ≠ gb443 ∧ k_ ≠ gb444) (.slice Ao72 t450.length co72) t450) ∧ Aside0 (Kd.R (Kd.int .i64) 3 w' w.heap.size (fun _ => True) u7 x7_2) ∧ Aside0 (Kd.V (Kd.int .i64) 3 w' w.heap.size (fun k_ => some k_ ≠ (u7 : Value).ownBlock ∧ k_ ≠ gb443 ∧ k_ ≠ gb444) u444000 x444000_2) ∧ Aside0 (w'.heap[gb443]? = some (.cells #[u444000, .int .i64 x444001_2] 49 (0, 0))) ∧ Aside0 (w'.heap[gb444]? = some (.cells #[.string x445000_2, .int .i64 x445001_2] 23 (0, 0))) ∧ Aside0 (Below w.heap.size w w'))
              case atStart => exact ⟨(0), (by first | rfl | (simp; done) | (simp [*]; done)), H', ⟨Nat.le_refl _⟩, ⟨by (with_reducible repeat (first | apply Kd.V_alloc | apply Kd.V_drewN | apply Kd.V_drew)); exact HO_2.out⟩, ⟨by (with_reducible repeat (first | apply Kd.R_alloc | apply Kd.R_drewN | apply Kd.R_drew)); exact HO_7.out⟩, ⟨by (with_reducible repeat (first | apply Kd.V_alloc | apply Kd.V_drewN | apply Kd.V_drew)); exact HO_444000.out⟩, ⟨by (with_reducible repeat (first | refine blk_drewN ?_ _ | refine blk_drew ?_ | refine blk_alloc ?_ _)); exact BK443.out⟩, ⟨by (with_reducible repeat (first | refine blk_drewN ?_ _ | refine blk_drew ?_ | refine blk_alloc ?_ _)); exact BK444.out⟩, ⟨by repeat (first | (with_reducible first | exact HB.out | apply below_alloc | apply pw_below_drewN | apply below_drew1 | refine below_set ?_ GE443.out | refine below_set ?_ GE444.out) | exact HB.out)⟩⟩
              case round =>
                clear H'
                try clear c1
                try clear c2
                try clear p2
                try clear c3
                try clear c4
                try clear c5
                try clear c6
                try clear p6
                try clear c8
                try clear c14
                try clear c18
                try clear c18b0
                try clear c18b1
                try clear c20
                try clear c20b0
                try clear c20b1
                try clear c20b2
                try clear c23
                try clear c23b0
                try clear c23b1
                try clear c25
                try clear c25b0
                try clear c25b1
                try clear c27
                try clear c29
                try clear c30
                try clear c31
                try clear c36
                try clear c41
                try clear c44
                try clear c44b0
                try clear c46
                try clear c46b0
                try clear c46b1
                try clear c48
                try clear c48b0
                try clear c48b1
                try clear c49
                try clear c51
                try clear c59
                try clear c60
                try clear c61
                try clear c63
                try clear c64
                try clear p64
                try clear hcz30_0
                try clear hcz30_1
                try clear hcz32_0
                try clear hcz32_1
                try clear hcz37_0
                try clear hcz37_1
                try clear hcz52_0
                try clear hcz52_1
                try clear hcz53_0
                try clear hcz53_1
                try clear hcz62_0
                try clear hcz62_1
                try clear hcz65_0
                try clear hcz65_1
                try clear hfz30_0
                try clear hfz30_1
                try clear hfz32_0
                try clear hfz32_1
                try clear hfz37_0
                try clear hfz37_1
                try clear hfz52_0
                try clear hfz52_1
                try clear hfz53_0
                try clear hfz53_1
                try clear hfz62_0
                try clear hfz62_1
                try clear hfz65_0
                try clear hfz65_1
                try clear p2
                obtain ⟨x14_3, rfl, HA, HK3, HO_2, HO_7, HO_444000, BK443, BK444, HB⟩ := hrel
                cases gk with
                | zero => exact absurd HA.out (by simp [tattlelaw08_TurnAll.l1])
                | succ k3 =>
                  have H := HA.out
                  clear HA
                  simp only [tattlelaw08_TurnAll.l1] at H
                  by_cases c73 : (wrap64 (x14_3 + (wrap64 ((wrap64 (2 * (t450.length : Int))) - 1)))) ≤ (x7_2.length : Int)
                  · rw [if_pos c73] at H
                    have c73b0 : decide ((wrap64 (x14_3 + (wrap64 ((wrap64 (2 * (t450.length : Int))) - 1)))) ≤ (x7_2.length : Int)) = true := decide_eq_true c73
                    clear c73
                    have H' := Aside0.mk H
                    clear H
                    obtain ⟨Ao74, co74, eo74⟩ := Kd.R_slice HO_7.out
                    subst eo74
                    go_wp2
                    go_loopg [15] k3 (fun kq v15 w' => ∃ (x15_4 : Int), v15 = .int .i64 x15_4 ∧ Aside0 (tattlelaw08_TurnAll.l2 kq t450 x7_2 (wrap64 ((wrap64 (2 * (t450.length : Int))) - 1)) x14_3 x15_4 = some r) ∧ Aside0 (kq ≤ k3) ∧ Aside0 (Kd.V (Kd.int .i64) 3 w' w.heap.size (fun k_ => some k_ ≠ ((.slice Ao74 x7_2.length co74) : Value).ownBlock ∧ k_ ≠ gb443 ∧ k_ ≠ gb444) (.slice Ao72 t450.length co72) t450) ∧ Aside0 (Kd.R (Kd.int .i64) 3 w' w.heap.size (fun _ => True) (.slice Ao74 x7_2.length co74) x7_2) ∧ Aside0 (Kd.V (Kd.int .i64) 3 w' w.heap.size (fun k_ => some k_ ≠ ((.slice Ao74 x7_2.length co74) : Value).ownBlock ∧ k_ ≠ gb443 ∧ k_ ≠ gb444) u444000 x444000_2) ∧ Aside0 (w'.heap[gb443]? = some (.cells #[u444000, .int .i64 x444001_2] 49 (0, 0))) ∧ Aside0 (w'.heap[gb444]? = some (.cells #[.string x445000_2, .int .i64 x445001_2] 23 (0, 0))) ∧ Aside0 (Below w.heap.size w w'))
                    case atStart => exact ⟨(0), (by first | rfl | (simp; done) | (simp [*]; done)), H', ⟨Nat.le_refl _⟩, ⟨by (with_reducible repeat (first | apply Kd.V_alloc | apply Kd.V_drewN | apply Kd.V_drew)); exact HO_2.out⟩, ⟨by (with_reducible repeat (first | apply Kd.R_alloc | apply Kd.R_drewN | apply Kd.R_drew)); exact HO_7.out⟩, ⟨by (with_reducible repeat (first | apply Kd.V_alloc | apply Kd.V_drewN | apply Kd.V_drew)); exact HO_444000.out⟩, ⟨by (with_reducible repeat (first | refine blk_drewN ?_ _ | refine blk_drew ?_ | refine blk_alloc ?_ _)); exact BK443.out⟩, ⟨by (with_reducible repeat (first | refine blk_drewN ?_ _ | refine blk_drew ?_ | refine blk_alloc ?_ _)); exact BK444.out⟩, ⟨by repeat (first | (with_reducible first | exact HB.out | apply below_alloc | apply pw_below_drewN | apply below_drew1 | refine below_set ?_ GE443.out | refine below_set ?_ GE444.out) | exact HB.out)⟩⟩
                    case round =>
                      clear H'
                      try clear c1
                      try clear c2
                      try clear p2
                      try clear c3
                      try clear c4
                      try clear c5
                      try clear c6
                      try clear p6
                      try clear c7
                      try clear c8
                      try clear c14
                      try clear c18
                      try clear c18b0
                      try clear c18b1
                      try clear c20
                      try clear c20b0
                      try clear c20b1
                      try clear c20b2
                      try clear c23
                      try clear c23b0
                      try clear c23b1
                      try clear c25
                      try clear c25b0
                      try clear c25b1
                      try clear c27
                      try clear c29
                      try clear c30
                      try clear c31
                      try clear c36
                      try clear c41
                      try clear c44
                      try clear c44b0
                      try clear c46
                      try clear c46b0
                      try clear c46b1
                      try clear c48
                      try clear c48b0
                      try clear c48b1
                      try clear c49
                      try clear c51
                      try clear c59
                      try clear c60
                      try clear c61
                      try clear c63
                      try clear c64
                      try clear p64
                      try clear c73
                      try clear c73b0
                      try clear hcz30_0
                      try clear hcz30_1
                      try clear hcz32_0
                      try clear hcz32_1
                      try clear hcz37_0
                      try clear hcz37_1
                      try clear hcz52_0
                      try clear hcz52_1
                      try clear hcz53_0
                      try clear hcz53_1
                      try clear hcz62_0
                      try clear hcz62_1
                      try clear hcz65_0
                      try clear hcz65_1
                      try clear hfz30_0
                      try clear hfz30_1
                      try clear hfz32_0
                      try clear hfz32_1
                      try clear hfz37_0
                      try clear hfz37_1
                      try clear hfz52_0
                      try clear hfz52_1
                      try clear hfz53_0
                      try clear hfz53_1
                      try clear hfz62_0
                      try clear hfz62_1
                      try clear hfz65_0
                      try clear hfz65_1
                      try clear p2
                      try clear p6
                      try clear p64
                      obtain ⟨x15_4, rfl, HA, HK4, HO_2, HO_7, HO_444000, BK443, BK444, HB⟩ := hrel
                      cases gk with
                      | zero => exact absurd HA.out (by simp [tattlelaw08_TurnAll.l2])
                      | succ k4 =>
                        have H := HA.out
                        clear HA
                        simp only [tattlelaw08_TurnAll.l2] at H
                        by_cases c75 : x15_4 < (t450.length : Int)
                        · rw [if_pos c75] at H
                          have c75b0 : decide (x15_4 < (t450.length : Int)) = true := decide_eq_true c75
                          clear c75
                          by_cases c76 : 0 ≤ x14_3
                          · rw [if_pos c76] at H
                            have c76b0 := eq_true c76
                            have c76b1 : decide (0 ≤ x14_3) = true := decide_eq_true c76
                            clear c76
                            by_cases c77 : x14_3 ≤ (wrap64 (x14_3 + (wrap64 ((wrap64 (2 * (t450.length : Int))) - 1))))
                            · rw [if_pos c77] at H
                              have c77b0 := eq_true c77
                              have c77b1 : decide (x14_3 ≤ (wrap64 (x14_3 + (wrap64 ((wrap64 (2 * (t450.length : Int))) - 1))))) = true := decide_eq_true c77
                              by_cases c78 : (wrap64 (x14_3 + (wrap64 ((wrap64 (2 * (t450.length : Int))) - 1)))) ≤ (x7_2.length : Int)
                              · rw [if_pos c78] at H
                                have c78b0 := eq_true c78
                                have c78b1 : decide ((wrap64 (x14_3 + (wrap64 ((wrap64 (2 * (t450.length : Int))) - 1)))) ≤ (x7_2.length : Int)) = true := decide_eq_true c78
                                obtain ⟨y472, hy472⟩ : ∃ y_ : List Int, y_ = ((x7_2.take ((wrap64 (x14_3 + (wrap64 ((wrap64 (2 * (t450.length : Int))) - 1)))) : Int).toNat).drop (x14_3 : Int).toNat) := ⟨_, rfl⟩
                                replace H : (if 0 ≤ x15_4 then ((tattleref02_Many.f k4 y472 (rd t450 x15_4)).bind fun t477 => (if t477 = 0 then (some false) else (tattlelaw08_TurnAll.l2 k4 t450 x7_2 (wrap64 ((wrap64 (2 * (t450.length : Int))) - 1)) x14_3 (wrap64 (x15_4 + 1))))) else (none)) = some r := by first | (rw [hy472]; with_reducible exact H) | (have H2_ := (Option.bind_some _ _).symm.trans H; rw [hy472]; with_reducible exact H2_) | (have H2_ := (Option.bind_some _ _).symm.trans H; with_reducible exact H2_) | with_reducible exact H | (rw [hy472]; exact H) | exact H
                                have Ny472 := Aside0.mk hy472
                                clear hy472
                                by_cases c79 : 0 ≤ x15_4
                                · rw [if_pos c79] at H
                                  have c79b0 : decide (0 ≤ x15_4) = true := decide_eq_true c79
                                  clear c79
                                  replace H := Option.bind_eq_some_iff.mp H
                                  obtain ⟨t477, A800, H⟩ := H
                                  replace H : (if t477 = 0 then (some false) else (tattlelaw08_TurnAll.l2 k4 t450 x7_2 (wrap64 ((wrap64 (2 * (t450.length : Int))) - 1)) x14_3 (wrap64 (x15_4 + 1)))) = some r := H
                                  have A80 := Aside0.mk A800
                                  clear A800
                                  by_cases c81 : t477 = 0
                                  · rw [if_pos c81] at H
                                    have c81b0 : (t477 == 0) = true := beq_iff_eq.mpr c81
                                    have c81b1 : (t477 != 0) = false := bne_eq_false_iff_eq.mpr c81
                                    clear c81
                                    exact absurd ((Option.some.inj H).trans hrt.out) (by decide)
                                  · rw [if_neg c81] at H
                                    have c81b0 : (t477 == 0) = false := beq_eq_false_iff_ne.mpr c81
                                    have c81b1 : (t477 != 0) = true := bne_iff_ne.mpr c81
                                    have H' := Aside0.mk H
                                    clear H
                                    try go_wp2
                                    have n0_ := Aside0.mk (Kd.V_drew HO_2.out)
                                    have n1_ := Aside0.mk (Kd.R_drew HO_7.out)
                                    have n2_ := Aside0.mk (Kd.V_drew HO_444000.out)
                                    have n3_ := Aside0.mk (blk_drew BK443.out)
                                    have n4_ := Aside0.mk (blk_drew BK444.out)
                                    have n5_ := Aside0.mk (below_drew1 HB.out)
                                    clear HO_2
                                    clear HO_7
                                    clear HO_444000
                                    clear BK443
                                    clear BK444
                                    clear HB
                                    have HO_2 := n0_
                                    have HO_7 := n1_
                                    have HO_444000 := n2_
                                    have BK443 := n3_
                                    have BK444 := n4_
                                    have HB := n5_
                                    clear n0_ n1_ n2_ n3_ n4_ n5_
                                    have q83 : ((wrap64 (x14_3 + (wrap64 ((wrap64 (2 * (t450.length : Int))) - 1)))) : Int) ≤ ((x7_2.length : Int) : Int) := of_decide_eq_true (by first | (with_reducible assumption) | assumption)
                                    obtain ⟨i083, hi083, _, hsz83, _⟩ := info_parts info3
                                    have hroom83 : x7_2.length ≤ co74 := (Kd.R_reads' HO_7.out).2.1
                                    have hC83 : Kd.C (Kd.int .i64) _ Ao74 x7_2.length x7_2 := (Kd.R_reads' HO_7.out).2.2
                                    have ql83 : (x14_3 : Int) ≤ ((wrap64 (x14_3 + (wrap64 ((wrap64 (2 * (t450.length : Int))) - 1)))) : Int) := of_decide_eq_true (by first | (with_reducible assumption) | assumption)
                                    have q083 : (0 : Int) ≤ (x14_3 : Int) := of_decide_eq_true (by first | (with_reducible assumption) | assumption)
                                    have hcut83 := cut_mid (P := Try.prog) 24 3 .i64 .i64 Try.underlying24 hi083 1 hsz83 Ao74 x7_2.length co74 x14_3 (wrap64 (x14_3 + (wrap64 ((wrap64 (2 * (t450.length : Int))) - 1)))) q083 ql83 q83 hroom83
                                    have hr83 := Kd.C_mid (lo := (x14_3 : Int).toNat) (hi := ((wrap64 (x14_3 + (wrap64 ((wrap64 (2 * (t450.length : Int))) - 1)))) : Int).toNat) (c := co74) hC83 (by omega) (by omega) hroom83
                                    obtain ⟨A83, hA83⟩ : ∃ A1, A1 = (if co74 = (x14_3 : Int).toNat then Ao74 else (Ao74 : Option Addr).map (·.add ((x14_3 : Int).toNat * 1))) := ⟨_, rfl⟩
                                    obtain ⟨c83, hc83⟩ : ∃ c1, c1 = co74 - (x14_3 : Int).toNat := ⟨_, rfl⟩
                                    have hy83 : y472.length = ((wrap64 (x14_3 + (wrap64 ((wrap64 (2 * (t450.length : Int))) - 1)))) : Int).toNat - (x14_3 : Int).toNat := (by rw [Ny472.out, List.length_drop, List.length_take] <;> omega)
                                    rw [show ((x7_2).take ((wrap64 (x14_3 + (wrap64 ((wrap64 (2 * (t450.length : Int))) - 1)))) : Int).toNat).drop (x14_3 : Int).toNat = y472 from Ny472.out.symm] at hr83
                                    replace hr83 : Kd.C (Kd.int .i64) _ A83 y472.length y472 := (by rw [hA83]; exact hr83)
                                    rw [← hy83, ← hA83, ← hc83] at hcut83
                                    have HR475 := Aside0.mk hr83
                                    have HC475 := Aside0.mk (show y472.length ≤ c83 from by rw [hy83, hc83]; exact Nat.sub_le_sub_right (Nat.le_trans (by omega) hroom83) _)
                                    clear hr83 hC83 hroom83 hi083 hsz83 hc83
                                    have KY83 := Aside0.mk hy83
                                    have KA83 := Aside0.mk hA83
                                    clear hy83 hA83
                                    have KL83 := Aside0.mk (show ((wrap64 (x14_3 + (wrap64 ((wrap64 (2 * (t450.length : Int))) - 1)))) : Int).toNat ≤ x7_2.length from by omega)
                                    have KM83 := Aside0.mk (show (x14_3 : Int).toNat ≤ ((wrap64 (x14_3 + (wrap64 ((wrap64 (2 * (t450.length : Int))) - 1)))) : Int).toNat from by omega)
                                    replace q83 := eq_true q83
                                    have p476 : 0 ≤ (x15_4 : Int) := of_decide_eq_true (by first | (with_reducible assumption) | assumption)
                                    have q476 : x15_4 < (t450.length : Int) := of_decide_eq_true (by first | (with_reducible assumption) | assumption)
                                    obtain ⟨ad476, e476, hx476_0⟩ := Kd.at_int (Kd.V_reads' HO_2.out).2.2 x15_4 p476 q476
                                    cases e476
                                    replace p476 := eq_true p476
                                    replace q476 := eq_true q476
                                    refine start_ (n := 12) (S := fun w' => w'.cell? (ad476.add (x15_4).toNat) = some (.int .i64 (rd t450 x15_4))) (ds := []) #[false, false, false, false, false, false, false, false, false, false, false, false] (by kernel_rfl) rfl rfl (hx476_0) (fun hHeld => ?_); refine with_tabW tattlelaw08_TurnAll.tab20 tattlelaw08_TurnAll.bits20 (fun HT_ HW_ => ?_)
                                    generalize wr.drew = w82 at HO_2 HO_7 HO_444000 BK443 BK444 HB HR475 hx476_0 hHeld ⊢
                                    refine pure_ (i := 0) (N := some 96) (v := ?_) (a' := ?_) #[true, false, false, false, false, false, false, false, false, false, false, false] rfl rfl (any_of HT_.out (by kernel_rfl)) (fun _ _ _ h => h) (Or.inl ⟨by rfl, ?_⟩) ?_ ?_
                                    rotate_left
                                    · intro w'
                                      go_simp
                                      with_reducible rfl
                                    rotate_left
                                    · simp only [Act.put, List.setIfInBounds_toArray, List.set_cons_zero, List.set_cons_succ, i64_w, i32_w]
                                      rfl
                                    refine pure_ (i := 1) (N := some 97) (v := ?_) (a' := ?_) #[true, true, false, false, false, false, false, false, false, false, false, false] rfl rfl (any_of HT_.out (by kernel_rfl)) (fun _ _ _ h => h) (Or.inl ⟨by rfl, ?_⟩) ?_ ?_
                                    rotate_left
                                    · intro w'
                                      go_simp
                                      with_reducible rfl
                                    rotate_left
                                    · simp only [Act.put, List.setIfInBounds_toArray, List.set_cons_zero, List.set_cons_succ, i64_w, i32_w]
                                      rfl
                                    refine pure_ (i := 2) (N := some 98) (v := ?_) (a' := ?_) #[true, true, true, false, false, false, false, false, false, false, false, false] rfl rfl (any_of HT_.out (by kernel_rfl)) (fun _ _ _ h => h) (Or.inl ⟨by rfl, ?_⟩) ?_ ?_
                                    rotate_left
                                    · intro w'
                                      go_simp
                                      with_reducible rfl
                                    rotate_left
                                    · simp only [Act.put, List.setIfInBounds_toArray, List.set_cons_zero, List.set_cons_succ, i64_w, i32_w]
                                      rfl
                                    refine pure_ (i := 3) (N := some 99) (v := ?_) (a' := ?_) #[true, true, true, true, false, false, false, false, false, false, false, false] rfl rfl (any_of HT_.out (by kernel_rfl)) (fun _ _ _ h => h) (Or.inl ⟨by rfl, ?_⟩) ?_ ?_
                                    rotate_left
                                    · intro w'
                                      go_simp
                                      with_reducible rfl
                                    rotate_left
                                    · simp only [Act.put, List.setIfInBounds_toArray, List.set_cons_zero, List.set_cons_succ, i64_w, i32_w]
                                      rfl
                                    refine pure_ (i := 4) (N := some 100) (v := ?_) (a' := ?_) #[true, true, true, true, true, false, false, false, false, false, false, false] rfl rfl (any_of HT_.out (by kernel_rfl)) (fun _ _ _ h => h) (Or.inl ⟨by rfl, ?_⟩) ?_ ?_
                                    rotate_left
                                    · intro w'
                                      go_simp
                                      with_reducible rfl
                                    rotate_left
                                    · simp only [Act.put, List.setIfInBounds_toArray, List.set_cons_zero, List.set_cons_succ, i64_w, i32_w]
                                      rfl
                                    refine pure_ (i := 5) (N := some 101) (v := ?_) (a' := ?_) #[true, true, true, true, true, true, false, false, false, false, false, false] rfl rfl (any_of HT_.out (by kernel_rfl)) (fun _ _ _ h => h) (Or.inl ⟨by rfl, ?_⟩) ?_ ?_
                                    rotate_left
                                    · intro w'
                                      go_simp
                                      with_reducible rfl
                                    rotate_left
                                    · simp only [Act.put, List.setIfInBounds_toArray, List.set_cons_zero, List.set_cons_succ, i64_w, i32_w]
                                      rfl
                                    refine pure_ (i := 6) (N := some 102) (v := ?_) (a' := ?_) #[true, true, true, true, true, true, true, false, false, false, false, false] rfl rfl (any_of HT_.out (by kernel_rfl)) (fun _ _ _ h => h) (Or.inl ⟨by rfl, ?_⟩) ?_ ?_
                                    rotate_left
                                    · intro w'
                                      go_simp
                                      with_reducible rfl
                                    rotate_left
                                    · simp only [Act.put, List.setIfInBounds_toArray, List.set_cons_zero, List.set_cons_succ, i64_w, i32_w]
                                      rfl
                                    refine pure_ (i := 7) (N := some 103) (v := ?_) (a' := ?_) #[true, true, true, true, true, true, true, true, false, false, false, false] rfl rfl (any_of HT_.out (by kernel_rfl)) (fun _ _ _ h => h) (Or.inl ⟨by rfl, ?_⟩) ?_ ?_
                                    rotate_left
                                    · intro w'
                                      go_simp
                                      with_reducible rfl
                                    rotate_left
                                    · simp only [Act.put, List.setIfInBounds_toArray, List.set_cons_zero, List.set_cons_succ, i64_w, i32_w]
                                      rfl
                                    refine pure_ (i := 8) (N := some 104) (v := ?_) (a' := ?_) #[true, true, true, true, true, true, true, true, true, false, false, false] rfl rfl (any_of HT_.out (by kernel_rfl)) (fun _ _ _ h => h) (Or.inl ⟨by rfl, ?_⟩) ?_ ?_
                                    rotate_left
                                    · intro w'
                                      go_simp
                                      with_reducible rfl
                                    rotate_left
                                    · simp only [Act.put, List.setIfInBounds_toArray, List.set_cons_zero, List.set_cons_succ, i64_w, i32_w]
                                      rfl
                                    refine take_ (i := 9) (N := some 105) (v := ?_) (a' := ?_) #[true, true, true, true, true, true, true, true, true, true, false, false] rfl rfl (take_ofW HT_.out HW_.out (by kernel_rfl)) (fun _ _ _ h => h) (Or.inl ⟨by rfl, ?_⟩) hHeld ?_ ?_
                                    rotate_left
                                    · intro w' s0
                                      go_simp
                                      with_reducible rfl
                                    rotate_left
                                    · simp only [Act.put, List.setIfInBounds_toArray, List.set_cons_zero, List.set_cons_succ, i64_w, i32_w]
                                      rfl
                                    refine one_ (i := 10) (N := some 106) #[true, true, true, true, true, true, true, true, true, true, true, false] rfl rfl (one_of HT_.out (by kernel_rfl)) (by decide) (fun K hK => ?_)
                                    refine goes_ Try.func26 (by kernel_rfl) rfl #[.slice A83 y472.length c83, .int .i64 (rd t450 x15_4)] (by rfl) rfl rfl (by (try simp only [List.map_toArray, List.map_cons, List.map_nil]); first | done | rfl | (simp only [List.length_drop, List.length_take]; rfl)) ?_
                                    with_reducible refine (tattleref02_Many.calls k4 _ _ y472 (rd t450 x15_4) t477 _ ?side1 ?side2 A80.out).mono ?_
                                    (case side1 => repeat (first | exact (by repeat (first | (with_reducible exact HR475.out) | (with_reducible refine Kd.C_alloc ?_ _) | (with_reducible refine Kd.C_drewN ?_ _) | (with_reducible refine Kd.C_drew ?_) | exact HR475.out)) | (with_reducible refine Kd.C_alloc ?_ _) | (with_reducible refine Kd.C_drewN ?_ _) | (with_reducible refine Kd.C_drew ?_)))
                                    (case side2 => exact HC475.out)
                                    rintro e w' ⟨rfl, ⟨nd, rfl⟩⟩
                                    refine ⟨_, rfl, ?_⟩
                                    refine hK.out _ _ (hHeld) (fun hHeld => ?_)
                                    clear hK K
                                    refine norm_ (a' := ?_) ?_ ?_
                                    rotate_left
                                    · show Act.put _ (some 106) _ = _
                                      simp only [Act.put, List.setIfInBounds_toArray, List.set_cons_zero, List.set_cons_succ, i64_w, i32_w]
                                      rfl
                                    refine pure_ (i := 11) (N := some 107) (v := ?_) (a' := ?_) #[true, true, true, true, true, true, true, true, true, true, true, true] rfl rfl (any_of HT_.out (by kernel_rfl)) (fun _ _ _ h => h) (Or.inl ⟨by rfl, ?_⟩) ?_ ?_
                                    rotate_left
                                    · intro w'
                                      go_simp
                                      with_reducible rfl
                                    rotate_left
                                    · simp only [Act.put, List.setIfInBounds_toArray, List.set_cons_zero, List.set_cons_succ, i64_w, i32_w]
                                      rfl
                                    refine done_ (done_of HT_.out (by kernel_rfl)) ?_
                                    try go_wp2
                                    go_roundg k4
                                    case measure => have := HJ6.out; have := HK2.out; have := HK3.out; have := HK4.out; omega
                                    case rel => exact ⟨(wrap64 (x15_4 + 1)), (by first | rfl | (simp; done) | (simp [*]; done)), H', ⟨by have := HJ6.out; have := HK2.out; have := HK3.out; have := HK4.out; omega⟩, ⟨by (with_reducible repeat (first | apply Kd.V_alloc | apply Kd.V_drewN | apply Kd.V_drew)); exact HO_2.out⟩, ⟨by (with_reducible repeat (first | apply Kd.R_alloc | apply Kd.R_drewN | apply Kd.R_drew)); exact HO_7.out⟩, ⟨by (with_reducible repeat (first | apply Kd.V_alloc | apply Kd.V_drewN | apply Kd.V_drew)); exact HO_444000.out⟩, ⟨by (with_reducible repeat (first | refine blk_drewN ?_ _ | refine blk_drew ?_ | refine blk_alloc ?_ _)); exact BK443.out⟩, ⟨by (with_reducible repeat (first | refine blk_drewN ?_ _ | refine blk_drew ?_ | refine blk_alloc ?_ _)); exact BK444.out⟩, ⟨by repeat (first | (with_reducible first | exact HB.out | apply below_alloc | apply pw_below_drewN | apply below_drew1 | refine below_set ?_ GE443.out | refine below_set ?_ GE444.out) | exact HB.out)⟩⟩
                                · rw [if_neg c79] at H
                                  exact absurd H (by simp)
                              · rw [if_neg c78] at H
                                exact absurd H (by simp)
                            · rw [if_neg c77] at H
                              exact absurd H (by simp)
                          · rw [if_neg c76] at H
                            exact absurd H (by simp)
                        · rw [if_neg c75] at H
                          have c75b0 : decide (x15_4 < (t450.length : Int)) = false := decide_eq_false c75
                          clear c75
                          have H' := Aside0.mk H
                          clear H
                          go_wp2
                          go_roundg k4
                          case measure => have := HJ6.out; have := HK2.out; have := HK3.out; have := HK4.out; omega
                          case rel => exact ⟨(wrap64 (x14_3 + 1)), (by first | rfl | (simp; done) | (simp [*]; done)), H', ⟨by have := HJ6.out; have := HK2.out; have := HK3.out; have := HK4.out; omega⟩, ⟨by (with_reducible repeat (first | apply Kd.V_alloc | apply Kd.V_drewN | apply Kd.V_drew)); exact HO_2.out⟩, ⟨by (with_reducible repeat (first | apply Kd.R_alloc | apply Kd.R_drewN | apply Kd.R_drew)); exact HO_7.out⟩, ⟨by (with_reducible repeat (first | apply Kd.V_alloc | apply Kd.V_drewN | apply Kd.V_drew)); exact HO_444000.out⟩, ⟨by (with_reducible repeat (first | refine blk_drewN ?_ _ | refine blk_drew ?_ | refine blk_alloc ?_ _)); exact BK443.out⟩, ⟨by (with_reducible repeat (first | refine blk_drewN ?_ _ | refine blk_drew ?_ | refine blk_alloc ?_ _)); exact BK444.out⟩, ⟨by repeat (first | (with_reducible first | exact HB.out | apply below_alloc | apply pw_below_drewN | apply below_drew1 | refine below_set ?_ GE443.out | refine below_set ?_ GE444.out) | exact HB.out)⟩⟩
                  · rw [if_neg c73] at H
                    have c73b0 : decide ((wrap64 (x14_3 + (wrap64 ((wrap64 (2 * (t450.length : Int))) - 1)))) ≤ (x7_2.length : Int)) = false := decide_eq_false c73
                    clear c73
                    replace H := Option.bind_eq_some_iff.mp H
                    obtain ⟨t471, A840, H⟩ := H
                    replace H : (some t471) = some r := H
                    have A84 := Aside0.mk A840
                    clear A840
                    obtain rfl := Option.some.inj H
                    obtain ⟨Ao85, co85, eo85⟩ := Kd.R_slice HO_7.out
                    subst eo85
                    go_wp2_with (first | ((with_reducible refine gate_callee (f := 30) rfl ?_); refine goesL_ (some 108) rfl rfl Try.func30 (by kernel_rfl) rfl #[] rfl (by (try simp only [List.map_toArray, List.map_cons, List.map_nil]); first | done | rfl | (simp only [List.length_drop, List.length_take]; rfl)) ?_; (with_reducible refine (tattlelaw08_awakeT.calls  t471 _ A84.out).mono ?_); rintro e w86 ⟨rfl, hb⟩; refine ⟨_, rfl, ?_⟩; have n0_ := Aside0.mk (Kd.R_below (by (with_reducible repeat (first | apply Kd.R_alloc | apply Kd.R_drewN | apply Kd.R_drew)); exact HO_7.out) hb); have n1_ := Aside0.mk (Kd.V_below (by (with_reducible repeat (first | apply Kd.V_alloc | apply Kd.V_drewN | apply Kd.V_drew)); exact HO_444000.out) hb); have n2_ := Aside0.mk (blk_below (g := gb443) (o := .cells #[u444000, .int .i64 x444001_2] 49 (0, 0)) (by (with_reducible repeat (first | refine blk_drewN ?_ _ | refine blk_drew ?_ | refine blk_alloc ?_ _)); exact BK443.out) hb); have n3_ := Aside0.mk (blk_below (g := gb444) (o := .cells #[.string x445000_2, .int .i64 x445001_2] 23 (0, 0)) (by (with_reducible repeat (first | refine blk_drewN ?_ _ | refine blk_drew ?_ | refine blk_alloc ?_ _)); exact BK444.out) hb); have n4_ := Aside0.mk (below_step (by repeat (first | (with_reducible first | exact HB.out | apply below_alloc | apply pw_below_drewN | apply below_drew1 | refine below_set ?_ GE443.out | refine below_set ?_ GE444.out) | exact HB.out)) hb); clear HO_7; clear HO_444000; clear BK443; clear BK444; clear HB; have HO_7 := n0_; have HO_444000 := n1_; have BK443 := n2_; have BK444 := n3_; have HB := n4_; clear n0_ n1_ n2_ n3_ n4_; (try clear hb); (try clear hb2); (try clear hk); (try clear hi)))
                    go_ret
                    exact ⟨by first | rfl | (simp [errW_none, errW_some] <;> rfl) | (simp [*, errW_none, errW_some] <;> rfl), by repeat (first | (with_reducible first | exact HB.out | apply below_alloc | apply pw_below_drewN | apply below_drew1 | refine below_set ?_ GE443.out | refine below_set ?_ GE444.out) | exact HB.out)⟩

end Go.Proofs.Ytlanodnbdgiihaa.Fn
