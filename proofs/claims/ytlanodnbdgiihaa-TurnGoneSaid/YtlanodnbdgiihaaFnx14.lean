-- Written by program (a turned copy of the kit's print) for this seat: functions, contracts. Lean checks it.
import Derived.Test.YtlanodnbdgiihaaFnx0
import Derived.Test.YtlanodnbdgiihaaFnx2
import Derived.Test.YtlanodnbdgiihaaFnx3
import Derived.Test.YtlanodnbdgiihaaFnx13
import Derived.Test.YtlanodnbdgiihaaExShuffle
namespace Go.Proofs.Ytlanodnbdgiihaa.Fn
open Go.RowKit Go.Proofs.YtlanodnbdgiihaaW.PrintWords Go.Proofs.YtlanodnbdgiihaaW.PrintLast Go.Proofs.YtlanodnbdgiihaaW.PrintMore
attribute [local go_sem] max2_int min2_int max_two min_two max_three min_three max_four min_four   -- for this text's walks alone
set_option linter.unusedVariables false
set_option linter.unusedSimpArgs false

/-! ### turn_Next: function 31 -/
mutual
def turn_Next.j0 : Nat → List Int → Bool → List Int → Int → ByteArray → Int → Option (Int × List Int × Int × ByteArray × Int × Int)
  | 0, _, _, _, _, _, _ => none
  | k + 1, x2, x17, x382000, x382001, x383000, x383001 => if x17 = true then (some (0, x382000, x382001, x383000, x383001, 1)) else (if (x2.length : Int) = 0 then (some (0, x382000, x382001, x383000, x383001, 6)) else (if 0 ≤ x382001 then (if x382001 ≤ (x382000.length : Int) then ((some (x382000.drop (x382001 : Int).toNat : List Int)).bind fun y388 => (turn_Next.l0 k x2 y388 (y388.length : Int) 0 x382000 x382001 x383000 x383001)) else (none)) else (none)))
def turn_Next.l0 : Nat → List Int → List Int → Int → Int → List Int → Int → ByteArray → Int → Option (Int × List Int × Int × ByteArray × Int × Int)
  | 0, _, _, _, _, _, _, _, _ => none
  | k + 1, x2, x43, x44, x45, x382000, x382001, x383000, x383001 => if x45 < x44 then (if 0 ≤ x45 then (if x45 < (x43.length : Int) then ((slices_BinarySearch_int_int.f k x2 (rd x43 x45)).bind fun bt402 => (if bt402.2 = true then ((slices_Clone_int_int.f x382000).bind fun t404 => (some (rd x43 x45, t404, wrap64 ((wrap64 (x382001 + x45)) + 1), x383000, x383001, 0))) else (turn_Next.l0 k x2 x43 x44 (wrap64 (x45 + 1)) x382000 x382001 x383000 x383001))) else (none)) else (none)) else ((dice_Shuffle.f x383000 x383001 x2).bind fun bt393 => (if bt393.2.2.2 = 0 then (if 0 < (bt393.1.length : Int) then (some (rd bt393.1 0, bt393.1, 1, bt393.2.1, bt393.2.2.1, 0)) else (none)) else (some (0, x382000, x382001, x383000, x383001, bt393.2.2.2))))
end
def turn_Next.f (k : Nat) (l0_0 : List Int) (a0_1 : Int) (a1_0 : ByteArray) (a1_1 : Int) (l2 : List Int) : Option (Int × List Int × Int × ByteArray × Int × Int) := (turn_Check.f l0_0 a0_1).bind fun t385 => (if t385 = 0 then ((turn_Nodes.f k l2).bind fun t386 => (if t386 = 0 then ((dice_Check.f a1_0 a1_1).bind fun t387 => (turn_Next.j0 k l2 (t387 != 0) l0_0 a0_1 a1_0 a1_1)) else (turn_Next.j0 k l2 true l0_0 a0_1 a1_0 a1_1))) else (turn_Next.j0 k l2 true l0_0 a0_1 a1_0 a1_1))
theorem turn_Next.mono_l : ∀ k, (∀ y0 y1 y2 y3 y4 y5, LeO (turn_Next.j0 k y0 y1 y2 y3 y4 y5) (turn_Next.j0 (k + 1) y0 y1 y2 y3 y4 y5)) ∧ (∀ y0 y1 y2 y3 y4 y5 y6 y7, LeO (turn_Next.l0 k y0 y1 y2 y3 y4 y5 y6 y7) (turn_Next.l0 (k + 1) y0 y1 y2 y3 y4 y5 y6 y7))
  | 0 => ⟨fun _ _ _ _ _ _ r h => by simp [turn_Next.j0] at h, fun _ _ _ _ _ _ _ _ r h => by simp [turn_Next.l0] at h⟩
  | k + 1 => by
    obtain ⟨ih0, ih1⟩ := turn_Next.mono_l k
    refine ⟨?_, ?_⟩
    · intro y0 y1 y2 y3 y4 y5
      unfold turn_Next.j0
      repeat' first
      | (with_reducible exact ih0 _ _ _ _ _ _)
      | (with_reducible exact ih1 _ _ _ _ _ _ _ _)
      | (with_reducible exact slices_BinarySearch_int_int.mono _ _ _)
      | (with_reducible exact turn_Nodes.mono _ _)
      | (with_reducible exact LeO.refl _)
      | (with_reducible exact LeO.none _)
      | (with_reducible refine LeO.ite ?_ ?_)
      | (with_reducible refine LeO.bind ?_ (fun _ => ?_))
      | exact ih0 _ _ _ _ _ _
      | exact ih1 _ _ _ _ _ _ _ _
      | exact slices_BinarySearch_int_int.mono _ _ _
      | exact turn_Nodes.mono _ _
      | exact LeO.none _
      | refine LeO.ite ?_ ?_
      | refine LeO.bind ?_ (fun _ => ?_)
    · intro y0 y1 y2 y3 y4 y5 y6 y7
      unfold turn_Next.l0
      repeat' first
      | (with_reducible exact ih0 _ _ _ _ _ _)
      | (with_reducible exact ih1 _ _ _ _ _ _ _ _)
      | (with_reducible exact slices_BinarySearch_int_int.mono _ _ _)
      | (with_reducible exact turn_Nodes.mono _ _)
      | (with_reducible exact LeO.refl _)
      | (with_reducible exact LeO.none _)
      | (with_reducible refine LeO.ite ?_ ?_)
      | (with_reducible refine LeO.bind ?_ (fun _ => ?_))
      | exact ih0 _ _ _ _ _ _
      | exact ih1 _ _ _ _ _ _ _ _
      | exact slices_BinarySearch_int_int.mono _ _ _
      | exact turn_Nodes.mono _ _
      | exact LeO.none _
      | refine LeO.ite ?_ ?_
      | refine LeO.bind ?_ (fun _ => ?_)
theorem turn_Next.mono : ∀ a0 a1 a2 a3 a4 k, LeO (turn_Next.f k a0 a1 a2 a3 a4) (turn_Next.f (k + 1) a0 a1 a2 a3 a4) := by
  intro a0 a1 a2 a3 a4 k
  obtain ⟨ih0, ih1⟩ := turn_Next.mono_l k
  unfold turn_Next.f
  repeat' first
      | (with_reducible exact ih0 _ _ _ _ _ _)
      | (with_reducible exact ih1 _ _ _ _ _ _ _ _)
      | (with_reducible exact slices_BinarySearch_int_int.mono _ _ _)
      | (with_reducible exact turn_Nodes.mono _ _)
      | (with_reducible exact LeO.refl _)
      | (with_reducible exact LeO.none _)
      | (with_reducible refine LeO.ite ?_ ?_)
      | (with_reducible refine LeO.bind ?_ (fun _ => ?_))
      | exact ih0 _ _ _ _ _ _
      | exact ih1 _ _ _ _ _ _ _ _
      | exact slices_BinarySearch_int_int.mono _ _ _
      | exact turn_Nodes.mono _ _
      | exact LeO.none _
      | refine LeO.ite ?_ ?_
      | refine LeO.bind ?_ (fun _ => ?_)
def turn_Next.T10 : Bool × List (List Nat × List Nat) := (true, [([], []), ([], []), ([1], [1]), ([2], [2]), ([], []), ([4], [4]), ([], []), ([5, 6], [5, 6]), ([7], [7]), ([3, 8], [3, 8]), ([], []), ([0, 3, 0], [0]), ([9, 11, 0, 1, 2, 3, 4, 5, 6, 7, 8, 9, 11], [9]), ([10, 12, 0, 1, 2, 3, 4, 5, 6, 7, 8, 9, 10, 11, 12], [10]), ([13, 0, 1, 2, 3, 4, 5, 6, 7, 8, 9, 10, 11, 12, 13], [])])
def turn_Next.B10 : List Nat := [0, 0, 2, 6, 0, 16, 0, 112, 240, 510, 0, 15, 3071, 8191, 16383]
theorem turn_Next.tab10 : rtab .any (opsOf Try.f31 10) = turn_Next.T10 := by kernel_rfl
theorem turn_Next.bits10 : waitsOk turn_Next.T10.2 turn_Next.B10 = true := by kernel_rfl
def turn_Next.T15 : Bool × List (List Nat × List Nat) := (true, [([], []), ([0], [0]), ([1], [1]), ([], []), ([3], [3]), ([], []), ([2, 0, 1, 2], [2]), ([4, 6, 0, 1, 2, 3, 4, 6], [4]), ([5, 7, 0, 1, 2, 3, 4, 5, 6, 7], [5]), ([8, 0, 1, 2, 3, 4, 5, 6, 7, 8], [])])
def turn_Next.B15 : List Nat := [0, 1, 3, 0, 8, 0, 7, 95, 255, 511]
theorem turn_Next.tab15 : rtab .any (opsOf Try.f31 15) = turn_Next.T15 := by kernel_rfl
theorem turn_Next.bits15 : waitsOk turn_Next.T15.2 turn_Next.B15 = true := by kernel_rfl
set_option maxHeartbeats 8000000 in
set_option maxRecDepth 100000 in
theorem turn_Next.calls (k : Nat) (P0_0_ : Nat → Prop) (A0_0 : Option Addr) (c0_0 : Nat) (l0_0 : List Int) (a0_1 : Int) (a1_0 : ByteArray) (a1_1 : Int) (A2 : Option Addr) (c2 : Nat) (l2 : List Int) (r1 : Int) (r2 : List Int) (r3 : Int) (r4 : ByteArray) (r5 : Int) (r6 : Int) (w : World) (hs0_0 : Kd.V (Kd.int .i64) 3 w w.heap.size (fun k_ => P0_0_ k_) (.slice A0_0 l0_0.length c0_0) l0_0) (hr2 : Kd.C (Kd.int .i64) w A2 l2.length l2) (hc2 : l2.length ≤ c2) (h : turn_Next.f k l0_0 a0_1 a1_0 a1_1 l2 = some (r1, r2, r3, r4, r5, r6)) :
    Calls Try.prog 31 #[.agg #[.slice A0_0 l0_0.length c0_0, .int .i64 a0_1], .agg #[.string a1_0, .int .i64 a1_1], .slice A2 l2.length c2] w fun e w' => ∃ v1_ : Value, e = .returned (.tuple #[.int .i64 r1, .agg #[v1_, .int .i64 r3], .agg #[.string r4, .int .i64 r5], .int .i64 r6]) ∧ Kd.V (Kd.int .i64) 3 w' w.heap.size (fun k_ => (P0_0_ k_ ∨ w.heap.size ≤ k_)) v1_ r2 ∧ Below w.heap.size w w' := by
  have hu49 := Try.underlying49
  have hu23 := Try.underlying23
  have HO0_0 := Aside0.mk (show Kd.V (Kd.int .i64) 3 w w.heap.size (fun k_ => (P0_0_ k_ ∨ w.heap.size ≤ k_)) (.slice A0_0 l0_0.length c0_0) l0_0 from Kd.V_mono hs0_0 (fun k_ hk => .inl hk))
  have HR2 := Aside0.mk hr2
  have HC2 := Aside0.mk hc2
  clear hr2 hc2
  have HB := Aside0.mk (Below.refl w.heap.size w)
  have H : ((turn_Check.f l0_0 a0_1).bind fun t385 => (if t385 = 0 then ((turn_Nodes.f k l2).bind fun t386 => (if t386 = 0 then ((dice_Check.f a1_0 a1_1).bind fun t387 => (turn_Next.j0 k l2 (t387 != 0) l0_0 a0_1 a1_0 a1_1)) else (turn_Next.j0 k l2 true l0_0 a0_1 a1_0 a1_1))) else (turn_Next.j0 k l2 true l0_0 a0_1 a1_0 a1_1))) = some (r1, r2, r3, r4, r5, r6) := h
  clear h
  have HC4 := Aside0.mk H
  clear H
  go_enter Try.func31, Try.ntmps31
  go_upto_region 1 with (first | ((with_reducible refine gate_dst (N := 3) rfl ?_); refine box_event ?hg (N := 3) ?hd (cs := #[.slice A0_0 l0_0.length c0_0, .int .i64 a0_1]) (t := 49) ?hr ?_; (case hd => rfl); (case hg => rfl); (case hr => first | (go_simp; done) | (go_simp; rfl)); intro gb381 hg w5 hbox hb; have n0_ := Aside0.mk (Kd.V_below (Kd.V_elderB (by (with_reducible repeat (first | apply Kd.V_alloc | apply Kd.V_drewN | apply Kd.V_drew)); exact HO0_0.out) gb381 (Nat.le_of_eq hg.symm)) hb); have n1_ := Aside0.mk (below_step (by repeat (first | (with_reducible first | exact HB.out | apply below_alloc | apply pw_below_drewN | apply below_drew1) | exact HB.out)) hb); have n2_ := Aside0.mk (hbox); have n3_ := Aside0.mk ((by rw [hg]; exact (below_size (by repeat (first | (with_reducible first | exact HB.out | apply below_alloc | apply pw_below_drewN | apply below_drew1) | exact HB.out))) : w.heap.size ≤ gb381)); have n4_ := Aside0.mk ((by rw [hg]; exact (below_size (by repeat (first | (with_reducible first | exact HB.out | apply below_alloc | apply pw_below_drewN | apply below_drew1) | exact HB.out))) : w.heap.size ≤ gb381)); clear HO0_0; clear HB; have HO0_0 := n0_; have HB := n1_; have BK381 := n2_; have GW381 := n3_; have GE381 := n4_; clear n0_ n1_ n2_ n3_ n4_; clear hb hbox hg) | ((with_reducible refine gate_dst (N := 4) rfl ?_); refine box_event ?hg (N := 4) ?hd (cs := #[.string a1_0, .int .i64 a1_1]) (t := 23) ?hr ?_; (case hd => rfl); (case hg => rfl); (case hr => first | (go_simp; done) | (go_simp; rfl)); intro gb382 hg w6 hbox hb; have n0_ := Aside0.mk (Kd.V_below (Kd.V_elderB (by (with_reducible repeat (first | apply Kd.V_alloc | apply Kd.V_drewN | apply Kd.V_drew)); exact HO0_0.out) gb382 (Nat.le_of_eq hg.symm)) hb); have n1_ := Aside0.mk (blk_below (g := gb381) (o := .cells #[.slice A0_0 l0_0.length c0_0, .int .i64 a0_1] 49 (0, 0)) (by (with_reducible repeat (first | refine blk_drewN ?_ _ | refine blk_drew ?_ | refine blk_alloc ?_ _)); exact BK381.out) hb); have n2_ := Aside0.mk (below_step (by repeat (first | (with_reducible first | exact HB.out | apply below_alloc | apply pw_below_drewN | apply below_drew1 | refine below_set ?_ GE381.out) | exact HB.out)) hb); have n3_ := Aside0.mk (hbox); have n4_ := Aside0.mk ((by rw [hg]; exact (below_size (by repeat (first | (with_reducible first | exact HB.out | apply below_alloc | apply pw_below_drewN | apply below_drew1 | refine below_set ?_ GE381.out) | exact HB.out))) : w.heap.size ≤ gb382)); have n5_ := Aside0.mk ((by rw [hg]; exact (below_size (by repeat (first | (with_reducible first | exact HB.out | apply below_alloc | apply pw_below_drewN | apply below_drew1 | refine below_set ?_ GE381.out) | exact HB.out))) : w.heap.size ≤ gb382)); have n6_ := Aside0.mk ((by rw [hg]; exact Nat.ne_of_lt (blk_lt (g := gb381) (o := .cells #[.slice A0_0 l0_0.length c0_0, .int .i64 a0_1] 49 (0, 0)) (by (with_reducible repeat (first | refine blk_drewN ?_ _ | refine blk_drew ?_ | refine blk_alloc ?_ _)); exact BK381.out)) : gb381 ≠ gb382)); have n7_ := Aside0.mk ((by rw [hg]; exact Nat.ne_of_gt (blk_lt (g := gb381) (o := .cells #[.slice A0_0 l0_0.length c0_0, .int .i64 a0_1] 49 (0, 0)) (by (with_reducible repeat (first | refine blk_drewN ?_ _ | refine blk_drew ?_ | refine blk_alloc ?_ _)); exact BK381.out)) : gb382 ≠ gb381)); clear HO0_0; clear BK381; clear HB; have HO0_0 := n0_; have BK381 := n1_; have HB := n2_; have BK382 := n3_; have GW382 := n4_; have GE382 := n5_; have NB381_382 := n6_; have NB382_381 := n7_; clear n0_ n1_ n2_ n3_ n4_ n5_ n6_ n7_; clear hb hbox hg) | ((with_reducible refine gate_dst (N := 7) rfl ?_); refine box_event ?hg (N := 7) ?hd (cs := #[.slice none 0 0, .int .i64 0]) (t := 49) ?hr ?_; (case hd => rfl); (case hg => rfl); (case hr => first | (go_simp; done) | (go_simp; rfl)); intro gb383 hg w7 hbox hb; have n0_ := Aside0.mk (Kd.V_below (Kd.V_elderB (by (with_reducible repeat (first | apply Kd.V_alloc | apply Kd.V_drewN | apply Kd.V_drew)); exact HO0_0.out) gb383 (Nat.le_of_eq hg.symm)) hb); have n1_ := Aside0.mk (blk_below (g := gb381) (o := .cells #[.slice A0_0 l0_0.length c0_0, .int .i64 a0_1] 49 (0, 0)) (by (with_reducible repeat (first | refine blk_drewN ?_ _ | refine blk_drew ?_ | refine blk_alloc ?_ _)); exact BK381.out) hb); have n2_ := Aside0.mk (blk_below (g := gb382) (o := .cells #[.string a1_0, .int .i64 a1_1] 23 (0, 0)) (by (with_reducible repeat (first | refine blk_drewN ?_ _ | refine blk_drew ?_ | refine blk_alloc ?_ _)); exact BK382.out) hb); have n3_ := Aside0.mk (below_step (by repeat (first | (with_reducible first | exact HB.out | apply below_alloc | apply pw_below_drewN | apply below_drew1 | refine below_set ?_ GE381.out | refine below_set ?_ GE382.out) | exact HB.out)) hb); have n4_ := Aside0.mk (hbox); have n5_ := Aside0.mk ((by rw [hg]; exact (below_size (by repeat (first | (with_reducible first | exact HB.out | apply below_alloc | apply pw_below_drewN | apply below_drew1 | refine below_set ?_ GE381.out | refine below_set ?_ GE382.out) | exact HB.out))) : w.heap.size ≤ gb383)); have n6_ := Aside0.mk ((by rw [hg]; exact (below_size (by repeat (first | (with_reducible first | exact HB.out | apply below_alloc | apply pw_below_drewN | apply below_drew1 | refine below_set ?_ GE381.out | refine below_set ?_ GE382.out) | exact HB.out))) : w.heap.size ≤ gb383)); have n7_ := Aside0.mk ((by rw [hg]; exact Nat.ne_of_lt (blk_lt (g := gb381) (o := .cells #[.slice A0_0 l0_0.length c0_0, .int .i64 a0_1] 49 (0, 0)) (by (with_reducible repeat (first | refine blk_drewN ?_ _ | refine blk_drew ?_ | refine blk_alloc ?_ _)); exact BK381.out)) : gb381 ≠ gb383)); have n8_ := Aside0.mk ((by rw [hg]; exact Nat.ne_of_gt (blk_lt (g := gb381) (o := .cells #[.slice A0_0 l0_0.length c0_0, .int .i64 a0_1] 49 (0, 0)) (by (with_reducible repeat (first | refine blk_drewN ?_ _ | refine blk_drew ?_ | refine blk_alloc ?_ _)); exact BK381.out)) : gb383 ≠ gb381)); have n9_ := Aside0.mk ((by rw [hg]; exact Nat.ne_of_lt (blk_lt (g := gb382) (o := .cells #[.string a1_0, .int .i64 a1_1] 23 (0, 0)) (by (with_reducible repeat (first | refine blk_drewN ?_ _ | refine blk_drew ?_ | refine blk_alloc ?_ _)); exact BK382.out)) : gb382 ≠ gb383)); have n10_ := Aside0.mk ((by rw [hg]; exact Nat.ne_of_gt (blk_lt (g := gb382) (o := .cells #[.string a1_0, .int .i64 a1_1] 23 (0, 0)) (by (with_reducible repeat (first | refine blk_drewN ?_ _ | refine blk_drew ?_ | refine blk_alloc ?_ _)); exact BK382.out)) : gb383 ≠ gb382)); clear HO0_0; clear BK381; clear BK382; clear HB; have HO0_0 := n0_; have BK381 := n1_; have BK382 := n2_; have HB := n3_; have BK383 := n4_; have GW383 := n5_; have GE383 := n6_; have NB381_383 := n7_; have NB383_381 := n8_; have NB382_383 := n9_; have NB383_382 := n10_; clear n0_ n1_ n2_ n3_ n4_ n5_ n6_ n7_ n8_ n9_ n10_; clear hb hbox hg) | ((with_reducible refine gate_dst (N := 8) rfl ?_); refine box_event ?hg (N := 8) ?hd (cs := #[.string (⟨#[]⟩ : ByteArray), .int .i64 0]) (t := 23) ?hr ?_; (case hd => rfl); (case hg => rfl); (case hr => first | (go_simp; done) | (go_simp; rfl)); intro gb384 hg w8 hbox hb; have n0_ := Aside0.mk (Kd.V_below (Kd.V_elderB (by (with_reducible repeat (first | apply Kd.V_alloc | apply Kd.V_drewN | apply Kd.V_drew)); exact HO0_0.out) gb384 (Nat.le_of_eq hg.symm)) hb); have n1_ := Aside0.mk (blk_below (g := gb381) (o := .cells #[.slice A0_0 l0_0.length c0_0, .int .i64 a0_1] 49 (0, 0)) (by (with_reducible repeat (first | refine blk_drewN ?_ _ | refine blk_drew ?_ | refine blk_alloc ?_ _)); exact BK381.out) hb); have n2_ := Aside0.mk (blk_below (g := gb382) (o := .cells #[.string a1_0, .int .i64 a1_1] 23 (0, 0)) (by (with_reducible repeat (first | refine blk_drewN ?_ _ | refine blk_drew ?_ | refine blk_alloc ?_ _)); exact BK382.out) hb); have n3_ := Aside0.mk (blk_below (g := gb383) (o := .cells #[.slice none 0 0, .int .i64 0] 49 (0, 0)) (by (with_reducible repeat (first | refine blk_drewN ?_ _ | refine blk_drew ?_ | refine blk_alloc ?_ _)); exact BK383.out) hb); have n4_ := Aside0.mk (below_step (by repeat (first | (with_reducible first | exact HB.out | apply below_alloc | apply pw_below_drewN | apply below_drew1 | refine below_set ?_ GE381.out | refine below_set ?_ GE382.out | refine below_set ?_ GE383.out) | exact HB.out)) hb); have n5_ := Aside0.mk (hbox); have n6_ := Aside0.mk ((by rw [hg]; exact (below_size (by repeat (first | (with_reducible first | exact HB.out | apply below_alloc | apply pw_below_drewN | apply below_drew1 | refine below_set ?_ GE381.out | refine below_set ?_ GE382.out | refine below_set ?_ GE383.out) | exact HB.out))) : w.heap.size ≤ gb384)); have n7_ := Aside0.mk ((by rw [hg]; exact (below_size (by repeat (first | (with_reducible first | exact HB.out | apply below_alloc | apply pw_below_drewN | apply below_drew1 | refine below_set ?_ GE381.out | refine below_set ?_ GE382.out | refine below_set ?_ GE383.out) | exact HB.out))) : w.heap.size ≤ gb384)); have n8_ := Aside0.mk ((by rw [hg]; exact Nat.ne_of_lt (blk_lt (g := gb381) (o := .cells #[.slice A0_0 l0_0.length c0_0, .int .i64 a0_1] 49 (0, 0)) (by (with_reducible repeat (first | refine blk_drewN ?_ _ | refine blk_drew ?_ | refine blk_alloc ?_ _)); exact BK381.out)) : gb381 ≠ gb384)); have n9_ := Aside0.mk ((by rw [hg]; exact Nat.ne_of_gt (blk_lt (g := gb381) (o := .cells #[.slice A0_0 l0_0.length c0_0, .int .i64 a0_1] 49 (0, 0)) (by (with_reducible repeat (first | refine blk_drewN ?_ _ | refine blk_drew ?_ | refine blk_alloc ?_ _)); exact BK381.out)) : gb384 ≠ gb381)); have n10_ := Aside0.mk ((by rw [hg]; exact Nat.ne_of_lt (blk_lt (g := gb382) (o := .cells #[.string a1_0, .int .i64 a1_1] 23 (0, 0)) (by (with_reducible repeat (first | refine blk_drewN ?_ _ | refine blk_drew ?_ | refine blk_alloc ?_ _)); exact BK382.out)) : gb382 ≠ gb384)); have n11_ := Aside0.mk ((by rw [hg]; exact Nat.ne_of_gt (blk_lt (g := gb382) (o := .cells #[.string a1_0, .int .i64 a1_1] 23 (0, 0)) (by (with_reducible repeat (first | refine blk_drewN ?_ _ | refine blk_drew ?_ | refine blk_alloc ?_ _)); exact BK382.out)) : gb384 ≠ gb382)); have n12_ := Aside0.mk ((by rw [hg]; exact Nat.ne_of_lt (blk_lt (g := gb383) (o := .cells #[.slice none 0 0, .int .i64 0] 49 (0, 0)) (by (with_reducible repeat (first | refine blk_drewN ?_ _ | refine blk_drew ?_ | refine blk_alloc ?_ _)); exact BK383.out)) : gb383 ≠ gb384)); have n13_ := Aside0.mk ((by rw [hg]; exact Nat.ne_of_gt (blk_lt (g := gb383) (o := .cells #[.slice none 0 0, .int .i64 0] 49 (0, 0)) (by (with_reducible repeat (first | refine blk_drewN ?_ _ | refine blk_drew ?_ | refine blk_alloc ?_ _)); exact BK383.out)) : gb384 ≠ gb383)); clear HO0_0; clear BK381; clear BK382; clear BK383; clear HB; have HO0_0 := n0_; have BK381 := n1_; have BK382 := n2_; have BK383 := n3_; have HB := n4_; have BK384 := n5_; have GW384 := n6_; have GE384 := n7_; have NB381_384 := n8_; have NB384_381 := n9_; have NB382_384 := n10_; have NB384_382 := n11_; have NB383_384 := n12_; have NB384_383 := n13_; clear n0_ n1_ n2_ n3_ n4_ n5_ n6_ n7_ n8_ n9_ n10_ n11_ n12_ n13_; clear hb hbox hg))
  (try simp only [Act.put, List.setIfInBounds_toArray, List.set_cons_zero, List.set_cons_succ])
  go_cut [17] (fun v17 wc => ∃ (kq : Nat) (x17_3 : Bool), v17 = .bool x17_3 ∧ Aside0 (turn_Next.j0 kq l2 x17_3 l0_0 a0_1 a1_0 a1_1 = some (r1, r2, r3, r4, r5, r6)) ∧ Aside0 (kq ≤ k) ∧ Aside0 (Kd.V (Kd.int .i64) 3 wc w.heap.size (fun k_ => (P0_0_ k_ ∨ w.heap.size ≤ k_) ∧ k_ ≠ gb381 ∧ k_ ≠ gb382 ∧ k_ ≠ gb383 ∧ k_ ≠ gb384) (.slice A0_0 l0_0.length c0_0) l0_0) ∧ Aside0 (wc.heap[gb381]? = some (.cells #[(.slice A0_0 l0_0.length c0_0), .int .i64 a0_1] 49 (0, 0))) ∧ Aside0 (wc.heap[gb382]? = some (.cells #[.string a1_0, .int .i64 a1_1] 23 (0, 0))) ∧ Aside0 (wc.heap[gb383]? = some (.cells #[(.slice none 0 0), .int .i64 0] 49 (0, 0))) ∧ Aside0 (wc.heap[gb384]? = some (.cells #[.string (⟨#[]⟩ : ByteArray), .int .i64 0] 23 (0, 0))) ∧ Aside0 (Below w.heap.size w wc))
  case first =>
    have H := HC4.out
    clear HC4
    replace H := Option.bind_eq_some_iff.mp H
    obtain ⟨t385, A90, H⟩ := H
    replace H : (if t385 = 0 then ((turn_Nodes.f k l2).bind fun t386 => (if t386 = 0 then ((dice_Check.f a1_0 a1_1).bind fun t387 => (turn_Next.j0 k l2 (t387 != 0) l0_0 a0_1 a1_0 a1_1)) else (turn_Next.j0 k l2 true l0_0 a0_1 a1_0 a1_1))) else (turn_Next.j0 k l2 true l0_0 a0_1 a1_0 a1_1)) = some (r1, r2, r3, r4, r5, r6) := H
    have A9 := Aside0.mk A90
    clear A90
    by_cases c10 : t385 = 0
    · rw [if_pos c10] at H
      have c10b0 : (t385 == 0) = true := beq_iff_eq.mpr c10
      have c10b1 : (t385 != 0) = false := bne_eq_false_iff_eq.mpr c10
      clear c10
      (first | rw [c10b0] | (simp only [i64_w, i32_w]; rw [c10b0]) | skip)
      replace H := Option.bind_eq_some_iff.mp H
      obtain ⟨t386, A110, H⟩ := H
      replace H : (if t386 = 0 then ((dice_Check.f a1_0 a1_1).bind fun t387 => (turn_Next.j0 k l2 (t387 != 0) l0_0 a0_1 a1_0 a1_1)) else (turn_Next.j0 k l2 true l0_0 a0_1 a1_0 a1_1)) = some (r1, r2, r3, r4, r5, r6) := H
      have A11 := Aside0.mk A110
      clear A110
      by_cases c12 : t386 = 0
      · rw [if_pos c12] at H
        have c12b0 : (t386 == 0) = true := beq_iff_eq.mpr c12
        have c12b1 : (t386 != 0) = false := bne_eq_false_iff_eq.mpr c12
        clear c12
        replace H := Option.bind_eq_some_iff.mp H
        obtain ⟨t387, A130, H⟩ := H
        replace H : (turn_Next.j0 k l2 (t387 != 0) l0_0 a0_1 a1_0 a1_1) = some (r1, r2, r3, r4, r5, r6) := H
        have A13 := Aside0.mk A130
        clear A130
        have H' := Aside0.mk H
        clear H
        have hnb14 := NB381_382.out
        have hnc14 := NB382_381.out
        have hnb15 := NB381_383.out
        have hnc15 := NB383_381.out
        have hnb16 := NB381_384.out
        have hnc16 := NB384_381.out
        have hcz17_0 : w8.cell? ⟨gb381, 0, none⟩ = some (.slice A0_0 l0_0.length c0_0) := (blk_cell BK381.out 0).trans rfl
        have hcz17_1 : w8.cell? ⟨gb381, 1, none⟩ = some (.int .i64 a0_1) := (blk_cell BK381.out 1).trans rfl
        have hfz17_0 := blk_frozen BK381.out 0
        have hfz17_1 := blk_frozen BK381.out 1
        go_wp2_with (first | ((with_reducible refine gate_callee (f := 29) rfl ?_); refine goesL_ (some 19) rfl rfl Try.func29 (by kernel_rfl) rfl #[.agg #[.slice A0_0 l0_0.length c0_0, .int .i64 a0_1]] rfl (by (try simp only [List.map_toArray, List.map_cons, List.map_nil]); first | done | rfl | (simp only [List.length_drop, List.length_take]; rfl)) ?_; (with_reducible refine (turn_Check.calls _ _ l0_0 a0_1 t385 _ ?side1 ?side2 A9.out).mono ?_); (case side1 => repeat (first | exact (Kd.V_reads' HO0_0.out).2.2 | (with_reducible refine Kd.C_alloc ?_ _) | (with_reducible refine Kd.C_drewN ?_ _) | (with_reducible refine Kd.C_drew ?_))); (case side2 => exact (Kd.V_reads' HO0_0.out).2.1); rintro e w18 ⟨rfl, hb⟩; refine ⟨_, rfl, ?_⟩; have n0_ := Aside0.mk (Kd.V_below (by (with_reducible repeat (first | apply Kd.V_alloc | apply Kd.V_drewN | apply Kd.V_drew)); exact HO0_0.out) hb); have n1_ := Aside0.mk (blk_below (g := gb381) (o := .cells #[.slice A0_0 l0_0.length c0_0, .int .i64 a0_1] 49 (0, 0)) (by (with_reducible repeat (first | refine blk_drewN ?_ _ | refine blk_drew ?_ | refine blk_alloc ?_ _)); exact BK381.out) hb); have n2_ := Aside0.mk (blk_below (g := gb382) (o := .cells #[.string a1_0, .int .i64 a1_1] 23 (0, 0)) (by (with_reducible repeat (first | refine blk_drewN ?_ _ | refine blk_drew ?_ | refine blk_alloc ?_ _)); exact BK382.out) hb); have n3_ := Aside0.mk (blk_below (g := gb383) (o := .cells #[.slice none 0 0, .int .i64 0] 49 (0, 0)) (by (with_reducible repeat (first | refine blk_drewN ?_ _ | refine blk_drew ?_ | refine blk_alloc ?_ _)); exact BK383.out) hb); have n4_ := Aside0.mk (blk_below (g := gb384) (o := .cells #[.string (⟨#[]⟩ : ByteArray), .int .i64 0] 23 (0, 0)) (by (with_reducible repeat (first | refine blk_drewN ?_ _ | refine blk_drew ?_ | refine blk_alloc ?_ _)); exact BK384.out) hb); have n5_ := Aside0.mk (below_step (by repeat (first | (with_reducible first | exact HB.out | apply below_alloc | apply pw_below_drewN | apply below_drew1 | refine below_set ?_ GE381.out | refine below_set ?_ GE382.out | refine below_set ?_ GE383.out | refine below_set ?_ GE384.out) | exact HB.out)) hb); clear HO0_0; clear BK381; clear BK382; clear BK383; clear BK384; clear HB; have HO0_0 := n0_; have BK381 := n1_; have BK382 := n2_; have BK383 := n3_; have BK384 := n4_; have HB := n5_; clear n0_ n1_ n2_ n3_ n4_ n5_; (try clear hb); (try clear hb2); (try clear hk); (try clear hi)) | (go_at_call 28; (with_reducible refine (turn_Nodes.calls k _ _ l2 t386 _ ?side1 ?side2 A11.out).mono ?_); (case side1 => repeat (first | exact (Kd.C_below HR2.out HB.out) | (with_reducible refine Kd.C_alloc ?_ _) | (with_reducible refine Kd.C_drewN ?_ _) | (with_reducible refine Kd.C_drew ?_))); (case side2 => exact HC2.out); rintro e w19 ⟨rfl, hb⟩; have n0_ := Aside0.mk (Kd.V_below (by (with_reducible repeat (first | apply Kd.V_alloc | apply Kd.V_drewN | apply Kd.V_drew)); exact HO0_0.out) hb); have n1_ := Aside0.mk (blk_below (g := gb381) (o := .cells #[.slice A0_0 l0_0.length c0_0, .int .i64 a0_1] 49 (0, 0)) (by (with_reducible repeat (first | refine blk_drewN ?_ _ | refine blk_drew ?_ | refine blk_alloc ?_ _)); exact BK381.out) hb); have n2_ := Aside0.mk (blk_below (g := gb382) (o := .cells #[.string a1_0, .int .i64 a1_1] 23 (0, 0)) (by (with_reducible repeat (first | refine blk_drewN ?_ _ | refine blk_drew ?_ | refine blk_alloc ?_ _)); exact BK382.out) hb); have n3_ := Aside0.mk (blk_below (g := gb383) (o := .cells #[.slice none 0 0, .int .i64 0] 49 (0, 0)) (by (with_reducible repeat (first | refine blk_drewN ?_ _ | refine blk_drew ?_ | refine blk_alloc ?_ _)); exact BK383.out) hb); have n4_ := Aside0.mk (blk_below (g := gb384) (o := .cells #[.string (⟨#[]⟩ : ByteArray), .int .i64 0] 23 (0, 0)) (by (with_reducible repeat (first | refine blk_drewN ?_ _ | refine blk_drew ?_ | refine blk_alloc ?_ _)); exact BK384.out) hb); have n5_ := Aside0.mk (below_step (by repeat (first | (with_reducible first | exact HB.out | apply below_alloc | apply pw_below_drewN | apply below_drew1 | refine below_set ?_ GE381.out | refine below_set ?_ GE382.out | refine below_set ?_ GE383.out | refine below_set ?_ GE384.out) | exact HB.out)) hb); clear HO0_0; clear BK381; clear BK382; clear BK383; clear BK384; clear HB; have HO0_0 := n0_; have BK381 := n1_; have BK382 := n2_; have BK383 := n3_; have BK384 := n4_; have HB := n5_; clear n0_ n1_ n2_ n3_ n4_ n5_; (try clear hb); (try clear hb2); (try clear hk); (try clear hi); have hnb20 := NB382_383.out; have hnc20 := NB383_382.out; have hnb21 := NB382_384.out; have hnc21 := NB384_382.out; have hcz22_0 : w19.cell? ⟨gb382, 0, none⟩ = some (.string a1_0) := (blk_cell BK382.out 0).trans rfl; have hcz22_1 : w19.cell? ⟨gb382, 1, none⟩ = some (.int .i64 a1_1) := (blk_cell BK382.out 1).trans rfl; have hfz22_0 := blk_frozen BK382.out 0; have hfz22_1 := blk_frozen BK382.out 1) | (go_at_call 18; (with_reducible refine (dice_Check.calls a1_0 a1_1 t387 _ A13.out).mono ?_); rintro e w23 ⟨rfl, hb⟩; have n0_ := Aside0.mk (Kd.V_below (by (with_reducible repeat (first | apply Kd.V_alloc | apply Kd.V_drewN | apply Kd.V_drew)); exact HO0_0.out) hb); have n1_ := Aside0.mk (blk_below (g := gb381) (o := .cells #[.slice A0_0 l0_0.length c0_0, .int .i64 a0_1] 49 (0, 0)) (by (with_reducible repeat (first | refine blk_drewN ?_ _ | refine blk_drew ?_ | refine blk_alloc ?_ _)); exact BK381.out) hb); have n2_ := Aside0.mk (blk_below (g := gb382) (o := .cells #[.string a1_0, .int .i64 a1_1] 23 (0, 0)) (by (with_reducible repeat (first | refine blk_drewN ?_ _ | refine blk_drew ?_ | refine blk_alloc ?_ _)); exact BK382.out) hb); have n3_ := Aside0.mk (blk_below (g := gb383) (o := .cells #[.slice none 0 0, .int .i64 0] 49 (0, 0)) (by (with_reducible repeat (first | refine blk_drewN ?_ _ | refine blk_drew ?_ | refine blk_alloc ?_ _)); exact BK383.out) hb); have n4_ := Aside0.mk (blk_below (g := gb384) (o := .cells #[.string (⟨#[]⟩ : ByteArray), .int .i64 0] 23 (0, 0)) (by (with_reducible repeat (first | refine blk_drewN ?_ _ | refine blk_drew ?_ | refine blk_alloc ?_ _)); exact BK384.out) hb); have n5_ := Aside0.mk (below_step (by repeat (first | (with_reducible first | exact HB.out | apply below_alloc | apply pw_below_drewN | apply below_drew1 | refine below_set ?_ GE381.out | refine below_set ?_ GE382.out | refine below_set ?_ GE383.out | refine below_set ?_ GE384.out) | exact HB.out)) hb); clear HO0_0; clear BK381; clear BK382; clear BK383; clear BK384; clear HB; have HO0_0 := n0_; have BK381 := n1_; have BK382 := n2_; have BK383 := n3_; have BK384 := n4_; have HB := n5_; clear n0_ n1_ n2_ n3_ n4_ n5_; (try clear hb); (try clear hb2); (try clear hk); (try clear hi)))
        go_meet
        case rel => exact ⟨_, ((t387 != 0)), (by first | rfl | (simp; done) | (simp [*]; done)), H', ⟨by first | omega | exact Nat.le_refl _⟩, ⟨by (with_reducible repeat (first | apply Kd.V_alloc | apply Kd.V_drewN | apply Kd.V_drew)); exact Kd.V_mono HO0_0.out (fun _ hk => ⟨hk.1.1.1.1, ⟨hk.1.1.1.2, ⟨hk.1.1.2, ⟨hk.1.2, hk.2⟩⟩⟩⟩)⟩, ⟨by (with_reducible repeat (first | refine blk_drewN ?_ _ | refine blk_drew ?_ | refine blk_alloc ?_ _)); exact BK381.out⟩, ⟨by (with_reducible repeat (first | refine blk_drewN ?_ _ | refine blk_drew ?_ | refine blk_alloc ?_ _)); exact BK382.out⟩, ⟨by (with_reducible repeat (first | refine blk_drewN ?_ _ | refine blk_drew ?_ | refine blk_alloc ?_ _)); exact BK383.out⟩, ⟨by (with_reducible repeat (first | refine blk_drewN ?_ _ | refine blk_drew ?_ | refine blk_alloc ?_ _)); exact BK384.out⟩, ⟨by repeat (first | (with_reducible first | exact HB.out | apply below_alloc | apply pw_below_drewN | apply below_drew1 | refine below_set ?_ GE381.out | refine below_set ?_ GE382.out | refine below_set ?_ GE383.out | refine below_set ?_ GE384.out) | exact HB.out)⟩⟩
      · rw [if_neg c12] at H
        have c12b0 : (t386 == 0) = false := beq_eq_false_iff_ne.mpr c12
        have c12b1 : (t386 != 0) = true := bne_iff_ne.mpr c12
        have H' := Aside0.mk H
        clear H
        have hnb24 := NB381_382.out
        have hnc24 := NB382_381.out
        have hnb25 := NB381_383.out
        have hnc25 := NB383_381.out
        have hnb26 := NB381_384.out
        have hnc26 := NB384_381.out
        have hcz27_0 : w8.cell? ⟨gb381, 0, none⟩ = some (.slice A0_0 l0_0.length c0_0) := (blk_cell BK381.out 0).trans rfl
        have hcz27_1 : w8.cell? ⟨gb381, 1, none⟩ = some (.int .i64 a0_1) := (blk_cell BK381.out 1).trans rfl
        have hfz27_0 := blk_frozen BK381.out 0
        have hfz27_1 := blk_frozen BK381.out 1
        go_wp2_with (first | ((with_reducible refine gate_callee (f := 29) rfl ?_); refine goesL_ (some 19) rfl rfl Try.func29 (by kernel_rfl) rfl #[.agg #[.slice A0_0 l0_0.length c0_0, .int .i64 a0_1]] rfl (by (try simp only [List.map_toArray, List.map_cons, List.map_nil]); first | done | rfl | (simp only [List.length_drop, List.length_take]; rfl)) ?_; (with_reducible refine (turn_Check.calls _ _ l0_0 a0_1 t385 _ ?side1 ?side2 A9.out).mono ?_); (case side1 => repeat (first | exact (Kd.V_reads' HO0_0.out).2.2 | (with_reducible refine Kd.C_alloc ?_ _) | (with_reducible refine Kd.C_drewN ?_ _) | (with_reducible refine Kd.C_drew ?_))); (case side2 => exact (Kd.V_reads' HO0_0.out).2.1); rintro e w28 ⟨rfl, hb⟩; refine ⟨_, rfl, ?_⟩; have n0_ := Aside0.mk (Kd.V_below (by (with_reducible repeat (first | apply Kd.V_alloc | apply Kd.V_drewN | apply Kd.V_drew)); exact HO0_0.out) hb); have n1_ := Aside0.mk (blk_below (g := gb381) (o := .cells #[.slice A0_0 l0_0.length c0_0, .int .i64 a0_1] 49 (0, 0)) (by (with_reducible repeat (first | refine blk_drewN ?_ _ | refine blk_drew ?_ | refine blk_alloc ?_ _)); exact BK381.out) hb); have n2_ := Aside0.mk (blk_below (g := gb382) (o := .cells #[.string a1_0, .int .i64 a1_1] 23 (0, 0)) (by (with_reducible repeat (first | refine blk_drewN ?_ _ | refine blk_drew ?_ | refine blk_alloc ?_ _)); exact BK382.out) hb); have n3_ := Aside0.mk (blk_below (g := gb383) (o := .cells #[.slice none 0 0, .int .i64 0] 49 (0, 0)) (by (with_reducible repeat (first | refine blk_drewN ?_ _ | refine blk_drew ?_ | refine blk_alloc ?_ _)); exact BK383.out) hb); have n4_ := Aside0.mk (blk_below (g := gb384) (o := .cells #[.string (⟨#[]⟩ : ByteArray), .int .i64 0] 23 (0, 0)) (by (with_reducible repeat (first | refine blk_drewN ?_ _ | refine blk_drew ?_ | refine blk_alloc ?_ _)); exact BK384.out) hb); have n5_ := Aside0.mk (below_step (by repeat (first | (with_reducible first | exact HB.out | apply below_alloc | apply pw_below_drewN | apply below_drew1 | refine below_set ?_ GE381.out | refine below_set ?_ GE382.out | refine below_set ?_ GE383.out | refine below_set ?_ GE384.out) | exact HB.out)) hb); clear HO0_0; clear BK381; clear BK382; clear BK383; clear BK384; clear HB; have HO0_0 := n0_; have BK381 := n1_; have BK382 := n2_; have BK383 := n3_; have BK384 := n4_; have HB := n5_; clear n0_ n1_ n2_ n3_ n4_ n5_; (try clear hb); (try clear hb2); (try clear hk); (try clear hi)) | (go_at_call 28; (with_reducible refine (turn_Nodes.calls k _ _ l2 t386 _ ?side1 ?side2 A11.out).mono ?_); (case side1 => repeat (first | exact (Kd.C_below HR2.out HB.out) | (with_reducible refine Kd.C_alloc ?_ _) | (with_reducible refine Kd.C_drewN ?_ _) | (with_reducible refine Kd.C_drew ?_))); (case side2 => exact HC2.out); rintro e w29 ⟨rfl, hb⟩; have n0_ := Aside0.mk (Kd.V_below (by (with_reducible repeat (first | apply Kd.V_alloc | apply Kd.V_drewN | apply Kd.V_drew)); exact HO0_0.out) hb); have n1_ := Aside0.mk (blk_below (g := gb381) (o := .cells #[.slice A0_0 l0_0.length c0_0, .int .i64 a0_1] 49 (0, 0)) (by (with_reducible repeat (first | refine blk_drewN ?_ _ | refine blk_drew ?_ | refine blk_alloc ?_ _)); exact BK381.out) hb); have n2_ := Aside0.mk (blk_below (g := gb382) (o := .cells #[.string a1_0, .int .i64 a1_1] 23 (0, 0)) (by (with_reducible repeat (first | refine blk_drewN ?_ _ | refine blk_drew ?_ | refine blk_alloc ?_ _)); exact BK382.out) hb); have n3_ := Aside0.mk (blk_below (g := gb383) (o := .cells #[.slice none 0 0, .int .i64 0] 49 (0, 0)) (by (with_reducible repeat (first | refine blk_drewN ?_ _ | refine blk_drew ?_ | refine blk_alloc ?_ _)); exact BK383.out) hb); have n4_ := Aside0.mk (blk_below (g := gb384) (o := .cells #[.string (⟨#[]⟩ : ByteArray), .int .i64 0] 23 (0, 0)) (by (with_reducible repeat (first | refine blk_drewN ?_ _ | refine blk_drew ?_ | refine blk_alloc ?_ _)); exact BK384.out) hb); have n5_ := Aside0.mk (below_step (by repeat (first | (with_reducible first | exact HB.out | apply below_alloc | apply pw_below_drewN | apply below_drew1 | refine below_set ?_ GE381.out | refine below_set ?_ GE382.out | refine below_set ?_ GE383.out | refine below_set ?_ GE384.out) | exact HB.out)) hb); clear HO0_0; clear BK381; clear BK382; clear BK383; clear BK384; clear HB; have HO0_0 := n0_; have BK381 := n1_; have BK382 := n2_; have BK383 := n3_; have BK384 := n4_; have HB := n5_; clear n0_ n1_ n2_ n3_ n4_ n5_; (try clear hb); (try clear hb2); (try clear hk); (try clear hi)))
        go_meet
        case rel => exact ⟨_, (true), (by first | rfl | (simp; done) | (simp [*]; done)), H', ⟨by first | omega | exact Nat.le_refl _⟩, ⟨by (with_reducible repeat (first | apply Kd.V_alloc | apply Kd.V_drewN | apply Kd.V_drew)); exact Kd.V_mono HO0_0.out (fun _ hk => ⟨hk.1.1.1.1, ⟨hk.1.1.1.2, ⟨hk.1.1.2, ⟨hk.1.2, hk.2⟩⟩⟩⟩)⟩, ⟨by (with_reducible repeat (first | refine blk_drewN ?_ _ | refine blk_drew ?_ | refine blk_alloc ?_ _)); exact BK381.out⟩, ⟨by (with_reducible repeat (first | refine blk_drewN ?_ _ | refine blk_drew ?_ | refine blk_alloc ?_ _)); exact BK382.out⟩, ⟨by (with_reducible repeat (first | refine blk_drewN ?_ _ | refine blk_drew ?_ | refine blk_alloc ?_ _)); exact BK383.out⟩, ⟨by (with_reducible repeat (first | refine blk_drewN ?_ _ | refine blk_drew ?_ | refine blk_alloc ?_ _)); exact BK384.out⟩, ⟨by repeat (first | (with_reducible first | exact HB.out | apply below_alloc | apply pw_below_drewN | apply below_drew1 | refine below_set ?_ GE381.out | refine below_set ?_ GE382.out | refine below_set ?_ GE383.out | refine below_set ?_ GE384.out) | exact HB.out)⟩⟩
    · rw [if_neg c10] at H
      have c10b0 : (t385 == 0) = false := beq_eq_false_iff_ne.mpr c10
      have c10b1 : (t385 != 0) = true := bne_iff_ne.mpr c10
      (first | rw [c10b0] | (simp only [i64_w, i32_w]; rw [c10b0]) | skip)
      have H' := Aside0.mk H
      clear H
      have hnb30 := NB381_382.out
      have hnc30 := NB382_381.out
      have hnb31 := NB381_383.out
      have hnc31 := NB383_381.out
      have hnb32 := NB381_384.out
      have hnc32 := NB384_381.out
      have hcz33_0 : w8.cell? ⟨gb381, 0, none⟩ = some (.slice A0_0 l0_0.length c0_0) := (blk_cell BK381.out 0).trans rfl
      have hcz33_1 : w8.cell? ⟨gb381, 1, none⟩ = some (.int .i64 a0_1) := (blk_cell BK381.out 1).trans rfl
      have hfz33_0 := blk_frozen BK381.out 0
      have hfz33_1 := blk_frozen BK381.out 1
      go_wp2_with (first | ((with_reducible refine gate_callee (f := 29) rfl ?_); refine goesL_ (some 19) rfl rfl Try.func29 (by kernel_rfl) rfl #[.agg #[.slice A0_0 l0_0.length c0_0, .int .i64 a0_1]] rfl (by (try simp only [List.map_toArray, List.map_cons, List.map_nil]); first | done | rfl | (simp only [List.length_drop, List.length_take]; rfl)) ?_; (with_reducible refine (turn_Check.calls _ _ l0_0 a0_1 t385 _ ?side1 ?side2 A9.out).mono ?_); (case side1 => repeat (first | exact (Kd.V_reads' HO0_0.out).2.2 | (with_reducible refine Kd.C_alloc ?_ _) | (with_reducible refine Kd.C_drewN ?_ _) | (with_reducible refine Kd.C_drew ?_))); (case side2 => exact (Kd.V_reads' HO0_0.out).2.1); rintro e w34 ⟨rfl, hb⟩; refine ⟨_, rfl, ?_⟩; have n0_ := Aside0.mk (Kd.V_below (by (with_reducible repeat (first | apply Kd.V_alloc | apply Kd.V_drewN | apply Kd.V_drew)); exact HO0_0.out) hb); have n1_ := Aside0.mk (blk_below (g := gb381) (o := .cells #[.slice A0_0 l0_0.length c0_0, .int .i64 a0_1] 49 (0, 0)) (by (with_reducible repeat (first | refine blk_drewN ?_ _ | refine blk_drew ?_ | refine blk_alloc ?_ _)); exact BK381.out) hb); have n2_ := Aside0.mk (blk_below (g := gb382) (o := .cells #[.string a1_0, .int .i64 a1_1] 23 (0, 0)) (by (with_reducible repeat (first | refine blk_drewN ?_ _ | refine blk_drew ?_ | refine blk_alloc ?_ _)); exact BK382.out) hb); have n3_ := Aside0.mk (blk_below (g := gb383) (o := .cells #[.slice none 0 0, .int .i64 0] 49 (0, 0)) (by (with_reducible repeat (first | refine blk_drewN ?_ _ | refine blk_drew ?_ | refine blk_alloc ?_ _)); exact BK383.out) hb); have n4_ := Aside0.mk (blk_below (g := gb384) (o := .cells #[.string (⟨#[]⟩ : ByteArray), .int .i64 0] 23 (0, 0)) (by (with_reducible repeat (first | refine blk_drewN ?_ _ | refine blk_drew ?_ | refine blk_alloc ?_ _)); exact BK384.out) hb); have n5_ := Aside0.mk (below_step (by repeat (first | (with_reducible first | exact HB.out | apply below_alloc | apply pw_below_drewN | apply below_drew1 | refine below_set ?_ GE381.out | refine below_set ?_ GE382.out | refine below_set ?_ GE383.out | refine below_set ?_ GE384.out) | exact HB.out)) hb); clear HO0_0; clear BK381; clear BK382; clear BK383; clear BK384; clear HB; have HO0_0 := n0_; have BK381 := n1_; have BK382 := n2_; have BK383 := n3_; have BK384 := n4_; have HB := n5_; clear n0_ n1_ n2_ n3_ n4_ n5_; (try clear hb); (try clear hb2); (try clear hk); (try clear hi)))
      go_meet
      case rel => exact ⟨_, (true), (by first | rfl | (simp; done) | (simp [*]; done)), H', ⟨by first | omega | exact Nat.le_refl _⟩, ⟨by (with_reducible repeat (first | apply Kd.V_alloc | apply Kd.V_drewN | apply Kd.V_drew)); exact Kd.V_mono HO0_0.out (fun _ hk => ⟨hk.1.1.1.1, ⟨hk.1.1.1.2, ⟨hk.1.1.2, ⟨hk.1.2, hk.2⟩⟩⟩⟩)⟩, ⟨by (with_reducible repeat (first | refine blk_drewN ?_ _ | refine blk_drew ?_ | refine blk_alloc ?_ _)); exact BK381.out⟩, ⟨by (with_reducible repeat (first | refine blk_drewN ?_ _ | refine blk_drew ?_ | refine blk_alloc ?_ _)); exact BK382.out⟩, ⟨by (with_reducible repeat (first | refine blk_drewN ?_ _ | refine blk_drew ?_ | refine blk_alloc ?_ _)); exact BK383.out⟩, ⟨by (with_reducible repeat (first | refine blk_drewN ?_ _ | refine blk_drew ?_ | refine blk_alloc ?_ _)); exact BK384.out⟩, ⟨by repeat (first | (with_reducible first | exact HB.out | apply below_alloc | apply pw_below_drewN | apply below_drew1 | refine below_set ?_ GE381.out | refine below_set ?_ GE382.out | refine below_set ?_ GE383.out | refine below_set ?_ GE384.out) | exact HB.out)⟩⟩
  case rest =>
    clear HC4
    try clear c1
    try clear c2
    try clear p2
    try clear c3
    try clear c10
    try clear c10b0
    try clear c10b1
    try clear c12
    try clear c12b0
    try clear c12b1
    try clear c14
    try clear c15
    try clear c16
    try clear c20
    try clear c21
    try clear c24
    try clear c25
    try clear c26
    try clear c29
    try clear c30
    try clear c31
    try clear c32
    try clear hcz17_0
    try clear hcz17_1
    try clear hcz22_0
    try clear hcz22_1
    try clear hcz27_0
    try clear hcz27_1
    try clear hcz33_0
    try clear hcz33_1
    try clear hfz17_0
    try clear hfz17_1
    try clear hfz22_0
    try clear hfz22_1
    try clear hfz27_0
    try clear hfz27_1
    try clear hfz33_0
    try clear hfz33_1
    obtain ⟨kq, x17_3, rfl, HA, HJ3, HO_382000, BK381, BK382, BK383, BK384, HB⟩ := hcut
    cases kq with
    | zero => exact absurd HA.out (by simp [turn_Next.j0])
    | succ kj3 =>
      have H := HA.out
      clear HA
      simp only [turn_Next.j0] at H
      by_cases c35 : x17_3 = true
      · subst c35
        have H1 : (some (0, l0_0, a0_1, a1_0, a1_1, 1)) = some (r1, r2, r3, r4, r5, r6) := by rw [if_pos rfl] at H; exact H
        clear H
        have H := H1
        clear H1
        simp only [Option.some.injEq, Prod.mk.injEq] at H
        obtain ⟨rfl, rfl, rfl, rfl, rfl, rfl⟩ := H
        try go_wp2
        have n0_ := Aside0.mk (Kd.V_drew HO_382000.out)
        have n1_ := Aside0.mk (blk_drew BK381.out)
        have n2_ := Aside0.mk (blk_drew BK382.out)
        have n3_ := Aside0.mk (blk_drew BK383.out)
        have n4_ := Aside0.mk (blk_drew BK384.out)
        have n5_ := Aside0.mk (below_drew1 HB.out)
        clear HO_382000
        clear BK381
        clear BK382
        clear BK383
        clear BK384
        clear HB
        have HO_382000 := n0_
        have BK381 := n1_
        have BK382 := n2_
        have BK383 := n3_
        have BK384 := n4_
        have HB := n5_
        clear n0_ n1_ n2_ n3_ n4_ n5_
        refine start_ (n := 6) (S := fun w' => w'.cell? ⟨gb381, 0, none⟩ = some (.slice A0_0 l0_0.length c0_0) ∧ w'.cell? ⟨gb381, 1, none⟩ = some (.int .i64 a0_1) ∧ w'.cell? ⟨gb382, 0, none⟩ = some (.string a1_0) ∧ w'.cell? ⟨gb382, 1, none⟩ = some (.int .i64 a1_1)) (ds := []) #[false, false, false, false, false, false] (by kernel_rfl) rfl rfl ⟨(blk_cell BK381.out 0).trans rfl, (blk_cell BK381.out 1).trans rfl, (blk_cell BK382.out 0).trans rfl, (blk_cell BK382.out 1).trans rfl⟩ (fun hHeld => ?_)
        generalize wc.drew = w36 at HO_382000 BK381 BK382 BK383 BK384 HB hHeld ⊢
        refine pure_ (i := 2) (N := some 6) (v := ?_) (a' := ?_) #[false, false, true, false, false, false] rfl rfl (by kernel_rfl) (fun _ _ _ h => h) (Or.inl ⟨by rfl, ?_⟩) ?_ ?_
        rotate_left
        · intro w'
          go_simp
          with_reducible rfl
        rotate_left
        · simp only [Act.put, List.setIfInBounds_toArray, List.set_cons_zero, List.set_cons_succ, i64_w, i32_w]
          rfl
        refine take_ (i := 0) (N := some 31) (v := ?_) (a' := ?_) #[true, false, true, false, false, false] rfl rfl (by kernel_rfl) (fun _ _ _ h => h) (Or.inl ⟨by rfl, ?_⟩) hHeld ?_ ?_
        rotate_left
        · rintro w' ⟨s0, s1, s2, s3⟩
          go_simp
          with_reducible rfl
        rotate_left
        · simp only [Act.put, List.setIfInBounds_toArray, List.set_cons_zero, List.set_cons_succ, i64_w, i32_w]
          rfl
        refine take_ (i := 1) (N := some 32) (v := ?_) (a' := ?_) #[true, true, true, false, false, false] rfl rfl (by kernel_rfl) (fun _ _ _ h => h) (Or.inl ⟨by rfl, ?_⟩) hHeld ?_ ?_
        rotate_left
        · rintro w' ⟨s0, s1, s2, s3⟩
          go_simp
          with_reducible rfl
        rotate_left
        · simp only [Act.put, List.setIfInBounds_toArray, List.set_cons_zero, List.set_cons_succ, i64_w, i32_w]
          rfl
        refine one_ (i := 3) (N := none) #[true, true, true, true, false, false] rfl rfl (by kernel_rfl) (by decide) (fun K hK => ?_)
        have hs37 : w36.cell? ⟨gb383, 0, none⟩ = some (.slice none 0 0) := (blk_cell BK383.out 0).trans rfl
        have hfs37 := blk_frozen BK383.out 0
        have hns37_0 := NB381_383.out
        have hns37_1 := NB382_383.out
        have hns37_3 := NB384_383.out
        have hms37_0 := NB383_381.out
        have hms37_1 := NB383_382.out
        have hms37_3 := NB383_384.out
        have hs38 : w36.cell? ⟨gb383, 1, none⟩ = some (.int .i64 0) := (blk_cell BK383.out 1).trans rfl
        have hfs38 := blk_frozen BK383.out 1
        have hns38_0 := NB381_383.out
        have hns38_1 := NB382_383.out
        have hns38_3 := NB384_383.out
        have hms38_0 := NB383_381.out
        have hms38_1 := NB383_382.out
        have hms38_3 := NB383_384.out
        refine skip_ (w1 := ?_) (by rfl) rfl ?_ ?_
        rotate_left
        · go_simp
          rfl
        refine hK.out _ _ ⟨((cell_far (p := ⟨gb383, _, none⟩) NB381_383.out _).trans (((cell_far (p := ⟨gb383, _, none⟩) NB381_383.out _).trans (hHeld.1)))), ((cell_far (p := ⟨gb383, _, none⟩) NB381_383.out _).trans (((cell_far (p := ⟨gb383, _, none⟩) NB381_383.out _).trans (hHeld.2.1)))), ((cell_far (p := ⟨gb383, _, none⟩) NB382_383.out _).trans (((cell_far (p := ⟨gb383, _, none⟩) NB382_383.out _).trans (hHeld.2.2.1)))), ((cell_far (p := ⟨gb383, _, none⟩) NB382_383.out _).trans (((cell_far (p := ⟨gb383, _, none⟩) NB382_383.out _).trans (hHeld.2.2.2))))⟩ (fun hHeld => ?_)
        clear hK K
        refine one_ (i := 4) (N := none) #[true, true, true, true, true, false] rfl rfl (by kernel_rfl) (by decide) (fun K hK => ?_)
        have hs39 : w36.cell? ⟨gb384, 0, none⟩ = some (.string (⟨#[]⟩ : ByteArray)) := (blk_cell BK384.out 0).trans rfl
        have hfs39 := blk_frozen BK384.out 0
        have hns39_0 := NB381_384.out
        have hns39_1 := NB382_384.out
        have hns39_2 := NB383_384.out
        have hms39_0 := NB384_381.out
        have hms39_1 := NB384_382.out
        have hms39_2 := NB384_383.out
        have hs40 : w36.cell? ⟨gb384, 1, none⟩ = some (.int .i64 0) := (blk_cell BK384.out 1).trans rfl
        have hfs40 := blk_frozen BK384.out 1
        have hns40_0 := NB381_384.out
        have hns40_1 := NB382_384.out
        have hns40_2 := NB383_384.out
        have hms40_0 := NB384_381.out
        have hms40_1 := NB384_382.out
        have hms40_2 := NB384_383.out
        refine skip_ (w1 := ?_) (by rfl) rfl ?_ ?_
        rotate_left
        · go_simp
          rfl
        refine hK.out _ _ ⟨((cell_far (p := ⟨gb384, _, none⟩) NB381_384.out _).trans (((cell_far (p := ⟨gb384, _, none⟩) NB381_384.out _).trans (hHeld.1)))), ((cell_far (p := ⟨gb384, _, none⟩) NB381_384.out _).trans (((cell_far (p := ⟨gb384, _, none⟩) NB381_384.out _).trans (hHeld.2.1)))), ((cell_far (p := ⟨gb384, _, none⟩) NB382_384.out _).trans (((cell_far (p := ⟨gb384, _, none⟩) NB382_384.out _).trans (hHeld.2.2.1)))), ((cell_far (p := ⟨gb384, _, none⟩) NB382_384.out _).trans (((cell_far (p := ⟨gb384, _, none⟩) NB382_384.out _).trans (hHeld.2.2.2))))⟩ (fun hHeld => ?_)
        clear hK K
        refine pure_ (i := 5) (N := some 9) (v := ?_) (a' := ?_) #[true, true, true, true, true, true] rfl rfl (by kernel_rfl) (fun _ _ _ h => h) (Or.inl ⟨by rfl, ?_⟩) ?_ ?_
        rotate_left
        · intro w'
          go_simp
          with_reducible rfl
        rotate_left
        · simp only [Act.put, List.setIfInBounds_toArray, List.set_cons_zero, List.set_cons_succ, i64_w, i32_w]
          rfl
        refine done_ (by kernel_rfl) ?_
        try go_wp2
        refine bodyPost_ret (results_list (rs := [.tmp 6, .cell 7 49, .cell 8 23, .tmp 9]) rfl (by simp) (.tmp (.cell gb383 49 #[.slice A0_0 l0_0.length c0_0, .int .i64 a0_1] (0, 0) _ rfl (by (with_reducible repeat (first | refine blk_drewN ?_ _ | refine blk_drew ?_ | refine blk_alloc ?_ _)); refine blk_far ?_ NB383_384.out _; (with_reducible repeat (first | refine blk_drewN ?_ _ | refine blk_drew ?_ | refine blk_alloc ?_ _)); refine blk_far ?_ NB383_384.out _; (with_reducible repeat (first | refine blk_drewN ?_ _ | refine blk_drew ?_ | refine blk_alloc ?_ _)); refine blk_put (cs := #[.slice A0_0 l0_0.length c0_0, .int .i64 0]) ?_ 1 _ rfl; (with_reducible repeat (first | refine blk_drewN ?_ _ | refine blk_drew ?_ | refine blk_alloc ?_ _)); refine blk_put (cs := #[.slice none 0 0, .int .i64 0]) ?_ 0 _ rfl; (with_reducible repeat (first | refine blk_drewN ?_ _ | refine blk_drew ?_ | refine blk_alloc ?_ _)); exact BK383.out) Try.underlying49 rfl (by kernel_rfl) (.cell gb384 23 #[.string a1_0, .int .i64 a1_1] (0, 0) _ rfl (by (with_reducible repeat (first | refine blk_drewN ?_ _ | refine blk_drew ?_ | refine blk_alloc ?_ _)); refine blk_put (cs := #[.string a1_0, .int .i64 0]) ?_ 1 _ rfl; (with_reducible repeat (first | refine blk_drewN ?_ _ | refine blk_drew ?_ | refine blk_alloc ?_ _)); refine blk_put (cs := #[.string (⟨#[]⟩ : ByteArray), .int .i64 0]) ?_ 0 _ rfl; (with_reducible repeat (first | refine blk_drewN ?_ _ | refine blk_drew ?_ | refine blk_alloc ?_ _)); refine blk_far ?_ NB384_383.out _; (with_reducible repeat (first | refine blk_drewN ?_ _ | refine blk_drew ?_ | refine blk_alloc ?_ _)); refine blk_far ?_ NB384_383.out _; (with_reducible repeat (first | refine blk_drewN ?_ _ | refine blk_drew ?_ | refine blk_alloc ?_ _)); exact BK384.out) Try.underlying23 rfl (by kernel_rfl) (.tmp .nil))))) rfl ?_
        exact ⟨_, by first | rfl | (simp [errW_none, errW_some] <;> rfl) | (simp [*, errW_none, errW_some] <;> rfl), by (with_reducible repeat (first | apply Kd.V_alloc | apply Kd.V_drewN | apply Kd.V_drew)); exact Kd.V_mono (Kd.V_far (p := ⟨gb384, 1, none⟩) (Kd.V_far (p := ⟨gb384, 0, none⟩) (Kd.V_far (p := ⟨gb383, 1, none⟩) (Kd.V_far (p := ⟨gb383, 0, none⟩) (Kd.V_mono (Kd.V_mono HO_382000.out (fun k_ hk => (⟨hk, hk.2.2.2.1⟩ : _ ∧ k_ ≠ gb383))) (fun k_ hk => (⟨hk, hk.1.2.2.2.2⟩ : _ ∧ k_ ≠ gb384))) (fun _ hk => hk.1.2) (.slice A0_0 l0_0.length c0_0)) (fun _ hk => hk.1.2) (.int .i64 a0_1)) (fun _ hk => hk.2) (.string a1_0)) (fun _ hk => hk.2) (.int .i64 a1_1)) (fun _ hk => hk.1.1.1), by repeat (first | (with_reducible first | exact HB.out | apply below_alloc | apply pw_below_drewN | apply below_drew1 | refine below_set ?_ GE381.out | refine below_set ?_ GE382.out | refine below_set ?_ GE383.out | refine below_set ?_ GE384.out) | exact HB.out)⟩
      · replace c35 := Bool.eq_false_iff.mpr c35
        subst c35
        have H1 : (if (l2.length : Int) = 0 then (some (0, l0_0, a0_1, a1_0, a1_1, 6)) else (if 0 ≤ a0_1 then (if a0_1 ≤ (l0_0.length : Int) then ((some (l0_0.drop (a0_1 : Int).toNat : List Int)).bind fun y388 => (turn_Next.l0 kj3 l2 y388 (y388.length : Int) 0 l0_0 a0_1 a1_0 a1_1)) else (none)) else (none))) = some (r1, r2, r3, r4, r5, r6) := by rw [if_neg (show ¬ (false = true) by decide)] at H; exact H
        clear H
        have H := H1
        clear H1
        by_cases c41 : (l2.length : Int) = 0
        · rw [if_pos c41] at H
          have c41b0 : ((l2.length : Int) == 0) = true := beq_iff_eq.mpr c41
          have c41b1 : ((l2.length : Int) != 0) = false := bne_eq_false_iff_eq.mpr c41
          clear c41
          simp only [Option.some.injEq, Prod.mk.injEq] at H
          obtain ⟨rfl, rfl, rfl, rfl, rfl, rfl⟩ := H
          try go_wp2
          have n0_ := Aside0.mk (Kd.V_drew HO_382000.out)
          have n1_ := Aside0.mk (blk_drew BK381.out)
          have n2_ := Aside0.mk (blk_drew BK382.out)
          have n3_ := Aside0.mk (blk_drew BK383.out)
          have n4_ := Aside0.mk (blk_drew BK384.out)
          have n5_ := Aside0.mk (below_drew1 HB.out)
          clear HO_382000
          clear BK381
          clear BK382
          clear BK383
          clear BK384
          clear HB
          have HO_382000 := n0_
          have BK381 := n1_
          have BK382 := n2_
          have BK383 := n3_
          have BK384 := n4_
          have HB := n5_
          clear n0_ n1_ n2_ n3_ n4_ n5_
          refine start_ (n := 6) (S := fun w' => w'.cell? ⟨gb381, 0, none⟩ = some (.slice A0_0 l0_0.length c0_0) ∧ w'.cell? ⟨gb381, 1, none⟩ = some (.int .i64 a0_1) ∧ w'.cell? ⟨gb382, 0, none⟩ = some (.string a1_0) ∧ w'.cell? ⟨gb382, 1, none⟩ = some (.int .i64 a1_1)) (ds := []) #[false, false, false, false, false, false] (by kernel_rfl) rfl rfl ⟨(blk_cell BK381.out 0).trans rfl, (blk_cell BK381.out 1).trans rfl, (blk_cell BK382.out 0).trans rfl, (blk_cell BK382.out 1).trans rfl⟩ (fun hHeld => ?_)
          generalize wc.drew = w42 at HO_382000 BK381 BK382 BK383 BK384 HB hHeld ⊢
          refine pure_ (i := 2) (N := some 6) (v := ?_) (a' := ?_) #[false, false, true, false, false, false] rfl rfl (by kernel_rfl) (fun _ _ _ h => h) (Or.inl ⟨by rfl, ?_⟩) ?_ ?_
          rotate_left
          · intro w'
            go_simp
            with_reducible rfl
          rotate_left
          · simp only [Act.put, List.setIfInBounds_toArray, List.set_cons_zero, List.set_cons_succ, i64_w, i32_w]
            rfl
          refine take_ (i := 0) (N := some 37) (v := ?_) (a' := ?_) #[true, false, true, false, false, false] rfl rfl (by kernel_rfl) (fun _ _ _ h => h) (Or.inl ⟨by rfl, ?_⟩) hHeld ?_ ?_
          rotate_left
          · rintro w' ⟨s0, s1, s2, s3⟩
            go_simp
            with_reducible rfl
          rotate_left
          · simp only [Act.put, List.setIfInBounds_toArray, List.set_cons_zero, List.set_cons_succ, i64_w, i32_w]
            rfl
          refine take_ (i := 1) (N := some 38) (v := ?_) (a' := ?_) #[true, true, true, false, false, false] rfl rfl (by kernel_rfl) (fun _ _ _ h => h) (Or.inl ⟨by rfl, ?_⟩) hHeld ?_ ?_
          rotate_left
          · rintro w' ⟨s0, s1, s2, s3⟩
            go_simp
            with_reducible rfl
          rotate_left
          · simp only [Act.put, List.setIfInBounds_toArray, List.set_cons_zero, List.set_cons_succ, i64_w, i32_w]
            rfl
          refine one_ (i := 3) (N := none) #[true, true, true, true, false, false] rfl rfl (by kernel_rfl) (by decide) (fun K hK => ?_)
          have hs43 : w42.cell? ⟨gb383, 0, none⟩ = some (.slice none 0 0) := (blk_cell BK383.out 0).trans rfl
          have hfs43 := blk_frozen BK383.out 0
          have hns43_0 := NB381_383.out
          have hns43_1 := NB382_383.out
          have hns43_3 := NB384_383.out
          have hms43_0 := NB383_381.out
          have hms43_1 := NB383_382.out
          have hms43_3 := NB383_384.out
          have hs44 : w42.cell? ⟨gb383, 1, none⟩ = some (.int .i64 0) := (blk_cell BK383.out 1).trans rfl
          have hfs44 := blk_frozen BK383.out 1
          have hns44_0 := NB381_383.out
          have hns44_1 := NB382_383.out
          have hns44_3 := NB384_383.out
          have hms44_0 := NB383_381.out
          have hms44_1 := NB383_382.out
          have hms44_3 := NB383_384.out
          refine skip_ (w1 := ?_) (by rfl) rfl ?_ ?_
          rotate_left
          · go_simp
            rfl
          refine hK.out _ _ ⟨((cell_far (p := ⟨gb383, _, none⟩) NB381_383.out _).trans (((cell_far (p := ⟨gb383, _, none⟩) NB381_383.out _).trans (hHeld.1)))), ((cell_far (p := ⟨gb383, _, none⟩) NB381_383.out _).trans (((cell_far (p := ⟨gb383, _, none⟩) NB381_383.out _).trans (hHeld.2.1)))), ((cell_far (p := ⟨gb383, _, none⟩) NB382_383.out _).trans (((cell_far (p := ⟨gb383, _, none⟩) NB382_383.out _).trans (hHeld.2.2.1)))), ((cell_far (p := ⟨gb383, _, none⟩) NB382_383.out _).trans (((cell_far (p := ⟨gb383, _, none⟩) NB382_383.out _).trans (hHeld.2.2.2))))⟩ (fun hHeld => ?_)
          clear hK K
          refine one_ (i := 4) (N := none) #[true, true, true, true, true, false] rfl rfl (by kernel_rfl) (by decide) (fun K hK => ?_)
          have hs45 : w42.cell? ⟨gb384, 0, none⟩ = some (.string (⟨#[]⟩ : ByteArray)) := (blk_cell BK384.out 0).trans rfl
          have hfs45 := blk_frozen BK384.out 0
          have hns45_0 := NB381_384.out
          have hns45_1 := NB382_384.out
          have hns45_2 := NB383_384.out
          have hms45_0 := NB384_381.out
          have hms45_1 := NB384_382.out
          have hms45_2 := NB384_383.out
          have hs46 : w42.cell? ⟨gb384, 1, none⟩ = some (.int .i64 0) := (blk_cell BK384.out 1).trans rfl
          have hfs46 := blk_frozen BK384.out 1
          have hns46_0 := NB381_384.out
          have hns46_1 := NB382_384.out
          have hns46_2 := NB383_384.out
          have hms46_0 := NB384_381.out
          have hms46_1 := NB384_382.out
          have hms46_2 := NB384_383.out
          refine skip_ (w1 := ?_) (by rfl) rfl ?_ ?_
          rotate_left
          · go_simp
            rfl
          refine hK.out _ _ ⟨((cell_far (p := ⟨gb384, _, none⟩) NB381_384.out _).trans (((cell_far (p := ⟨gb384, _, none⟩) NB381_384.out _).trans (hHeld.1)))), ((cell_far (p := ⟨gb384, _, none⟩) NB381_384.out _).trans (((cell_far (p := ⟨gb384, _, none⟩) NB381_384.out _).trans (hHeld.2.1)))), ((cell_far (p := ⟨gb384, _, none⟩) NB382_384.out _).trans (((cell_far (p := ⟨gb384, _, none⟩) NB382_384.out _).trans (hHeld.2.2.1)))), ((cell_far (p := ⟨gb384, _, none⟩) NB382_384.out _).trans (((cell_far (p := ⟨gb384, _, none⟩) NB382_384.out _).trans (hHeld.2.2.2))))⟩ (fun hHeld => ?_)
          clear hK K
          refine pure_ (i := 5) (N := some 9) (v := ?_) (a' := ?_) #[true, true, true, true, true, true] rfl rfl (by kernel_rfl) (fun _ _ _ h => h) (Or.inl ⟨by rfl, ?_⟩) ?_ ?_
          rotate_left
          · intro w'
            go_simp
            with_reducible rfl
          rotate_left
          · simp only [Act.put, List.setIfInBounds_toArray, List.set_cons_zero, List.set_cons_succ, i64_w, i32_w]
            rfl
          refine done_ (by kernel_rfl) ?_
          try go_wp2
          refine bodyPost_ret (results_list (rs := [.tmp 6, .cell 7 49, .cell 8 23, .tmp 9]) rfl (by simp) (.tmp (.cell gb383 49 #[.slice A0_0 l0_0.length c0_0, .int .i64 a0_1] (0, 0) _ rfl (by (with_reducible repeat (first | refine blk_drewN ?_ _ | refine blk_drew ?_ | refine blk_alloc ?_ _)); refine blk_far ?_ NB383_384.out _; (with_reducible repeat (first | refine blk_drewN ?_ _ | refine blk_drew ?_ | refine blk_alloc ?_ _)); refine blk_far ?_ NB383_384.out _; (with_reducible repeat (first | refine blk_drewN ?_ _ | refine blk_drew ?_ | refine blk_alloc ?_ _)); refine blk_put (cs := #[.slice A0_0 l0_0.length c0_0, .int .i64 0]) ?_ 1 _ rfl; (with_reducible repeat (first | refine blk_drewN ?_ _ | refine blk_drew ?_ | refine blk_alloc ?_ _)); refine blk_put (cs := #[.slice none 0 0, .int .i64 0]) ?_ 0 _ rfl; (with_reducible repeat (first | refine blk_drewN ?_ _ | refine blk_drew ?_ | refine blk_alloc ?_ _)); exact BK383.out) Try.underlying49 rfl (by kernel_rfl) (.cell gb384 23 #[.string a1_0, .int .i64 a1_1] (0, 0) _ rfl (by (with_reducible repeat (first | refine blk_drewN ?_ _ | refine blk_drew ?_ | refine blk_alloc ?_ _)); refine blk_put (cs := #[.string a1_0, .int .i64 0]) ?_ 1 _ rfl; (with_reducible repeat (first | refine blk_drewN ?_ _ | refine blk_drew ?_ | refine blk_alloc ?_ _)); refine blk_put (cs := #[.string (⟨#[]⟩ : ByteArray), .int .i64 0]) ?_ 0 _ rfl; (with_reducible repeat (first | refine blk_drewN ?_ _ | refine blk_drew ?_ | refine blk_alloc ?_ _)); refine blk_far ?_ NB384_383.out _; (with_reducible repeat (first | refine blk_drewN ?_ _ | refine blk_drew ?_ | refine blk_alloc ?_ _)); refine blk_far ?_ NB384_383.out _; (with_reducible repeat (first | refine blk_drewN ?_ _ | refine blk_drew ?_ | refine blk_alloc ?_ _)); exact BK384.out) Try.underlying23 rfl (by kernel_rfl) (.tmp .nil))))) rfl ?_
          exact ⟨_, by first | rfl | (simp [errW_none, errW_some] <;> rfl) | (simp [*, errW_none, errW_some] <;> rfl), by (with_reducible repeat (first | apply Kd.V_alloc | apply Kd.V_drewN | apply Kd.V_drew)); exact Kd.V_mono (Kd.V_far (p := ⟨gb384, 1, none⟩) (Kd.V_far (p := ⟨gb384, 0, none⟩) (Kd.V_far (p := ⟨gb383, 1, none⟩) (Kd.V_far (p := ⟨gb383, 0, none⟩) (Kd.V_mono (Kd.V_mono HO_382000.out (fun k_ hk => (⟨hk, hk.2.2.2.1⟩ : _ ∧ k_ ≠ gb383))) (fun k_ hk => (⟨hk, hk.1.2.2.2.2⟩ : _ ∧ k_ ≠ gb384))) (fun _ hk => hk.1.2) (.slice A0_0 l0_0.length c0_0)) (fun _ hk => hk.1.2) (.int .i64 a0_1)) (fun _ hk => hk.2) (.string a1_0)) (fun _ hk => hk.2) (.int .i64 a1_1)) (fun _ hk => hk.1.1.1), by repeat (first | (with_reducible first | exact HB.out | apply below_alloc | apply pw_below_drewN | apply below_drew1 | refine below_set ?_ GE381.out | refine below_set ?_ GE382.out | refine below_set ?_ GE383.out | refine below_set ?_ GE384.out) | exact HB.out)⟩
        · rw [if_neg c41] at H
          have c41b0 : ((l2.length : Int) == 0) = false := beq_eq_false_iff_ne.mpr c41
          have c41b1 : ((l2.length : Int) != 0) = true := bne_iff_ne.mpr c41
          have c41b2 : ¬ (l2 = []) := fun h_ => c41 (by rw [h_]; rfl)
          by_cases c47 : 0 ≤ a0_1
          · rw [if_pos c47] at H
            have c47b0 := eq_true c47
            have c47b1 : decide (0 ≤ a0_1) = true := decide_eq_true c47
            clear c47
            by_cases c48 : a0_1 ≤ (l0_0.length : Int)
            · rw [if_pos c48] at H
              have c48b0 := eq_true c48
              have c48b1 : decide (a0_1 ≤ (l0_0.length : Int)) = true := decide_eq_true c48
              clear c48
              obtain ⟨y388, hy388⟩ : ∃ y_ : List Int, y_ = (l0_0.drop (a0_1 : Int).toNat) := ⟨_, rfl⟩
              replace H : (turn_Next.l0 kj3 l2 y388 (y388.length : Int) 0 l0_0 a0_1 a1_0 a1_1) = some (r1, r2, r3, r4, r5, r6) := by first | (rw [hy388]; with_reducible exact H) | (have H2_ := (Option.bind_some _ _).symm.trans H; rw [hy388]; with_reducible exact H2_) | (have H2_ := (Option.bind_some _ _).symm.trans H; with_reducible exact H2_) | with_reducible exact H | (rw [hy388]; exact H) | exact H
              have Ny388 := Aside0.mk hy388
              clear hy388
              have H' := Aside0.mk H
              clear H
              have hnb49 := NB381_382.out
              have hnc49 := NB382_381.out
              have hnb50 := NB381_383.out
              have hnc50 := NB383_381.out
              have hnb51 := NB381_384.out
              have hnc51 := NB384_381.out
              have hcz52_0 : wc.cell? ⟨gb381, 0, none⟩ = some (.slice A0_0 l0_0.length c0_0) := (blk_cell BK381.out 0).trans rfl
              have hcz52_1 : wc.cell? ⟨gb381, 1, none⟩ = some (.int .i64 a0_1) := (blk_cell BK381.out 1).trans rfl
              have hfz52_0 := blk_frozen BK381.out 0
              have hfz52_1 := blk_frozen BK381.out 1
              have q53 : (a0_1 : Int) ≤ ((l0_0.length : Int) : Int) := of_decide_eq_true (by first | (with_reducible assumption) | assumption)
              obtain ⟨i053, hi053, _, hsz53, _⟩ := info_parts info3
              have hroom53 : l0_0.length ≤ c0_0 := (Kd.V_reads' HO_382000.out).2.1
              have hC53 : Kd.F (Kd.int .i64) _ _ A0_0 l0_0.length l0_0 := (Kd.V_at (base := w.heap.size) HO_382000.out).2.2
              have q053 : (0 : Int) ≤ (a0_1 : Int) := of_decide_eq_true (by first | (with_reducible assumption) | assumption)
              have hcut53 := cut_from (P := Try.prog) 24 3 .i64 Try.underlying24 hi053 1 hsz53 A0_0 l0_0.length c0_0 a0_1 q053 q53
              have hr53 := Kd.F_cut (m := (a0_1 : Int).toNat) (c := c0_0) hC53 (by omega) hroom53
              obtain ⟨A53, hA53⟩ : ∃ A1, A1 = (if c0_0 = (a0_1 : Int).toNat then A0_0 else (A0_0 : Option Addr).map (·.add ((a0_1 : Int).toNat * 1))) := ⟨_, rfl⟩
              obtain ⟨c53, hc53⟩ : ∃ c1, c1 = c0_0 - (a0_1 : Int).toNat := ⟨_, rfl⟩
              have hy53 : y388.length = l0_0.length - (a0_1 : Int).toNat := (by rw [Ny388.out, List.length_drop] <;> omega)
              rw [show (l0_0).drop (a0_1 : Int).toNat = y388 from Ny388.out.symm] at hr53
              replace hr53 : Kd.F (Kd.int .i64) _ _ A53 y388.length y388 := (by rw [hA53]; exact hr53)
              rw [← hy53, ← hA53, ← hc53] at hcut53
              have HO392 := Aside0.mk (show Kd.V (Kd.int .i64) 3 _ w.heap.size _ (.slice A53 y388.length c53) y388 from Kd.V_mk (by rw [hy53, hc53]; exact Nat.sub_le_sub_right hroom53 _) hr53)
              have HC392 := Aside0.mk (show y388.length ≤ c53 from by rw [hy53, hc53]; exact Nat.sub_le_sub_right hroom53 _)
              clear hr53 hC53 hroom53 hi053 hsz53 hc53
              have KY53 := Aside0.mk hy53
              have KA53 := Aside0.mk hA53
              clear hy53 hA53
              replace q53 := eq_true q53
              go_wp2
              go_loopg [45] kj3 (fun kq v45 w' => ∃ (x45_2 : Int) (x384001_2 : Int) (x385000_2 : ByteArray) (x385001_2 : Int), v45 = .int .i64 x45_2 ∧ Aside0 (turn_Next.l0 kq l2 y388 (y388.length : Int) x45_2 l0_0 a0_1 a1_0 a1_1 = some (r1, r2, r3, r4, r5, r6)) ∧ Aside0 (kq ≤ kj3) ∧ Aside0 (Kd.V (Kd.int .i64) 3 w' w.heap.size (fun k_ => (P0_0_ k_ ∨ w.heap.size ≤ k_) ∧ k_ ≠ gb381 ∧ k_ ≠ gb382 ∧ k_ ≠ gb383 ∧ k_ ≠ gb384) (.slice A53 y388.length c53) y388) ∧ Aside0 (Kd.V (Kd.int .i64) 3 w' w.heap.size (fun k_ => (P0_0_ k_ ∨ w.heap.size ≤ k_) ∧ k_ ≠ gb381 ∧ k_ ≠ gb382 ∧ k_ ≠ gb383 ∧ k_ ≠ gb384) (.slice A0_0 l0_0.length c0_0) l0_0) ∧ Aside0 (w'.heap[gb381]? = some (.cells #[(.slice A0_0 l0_0.length c0_0), .int .i64 a0_1] 49 (0, 0))) ∧ Aside0 (w'.heap[gb382]? = some (.cells #[.string a1_0, .int .i64 a1_1] 23 (0, 0))) ∧ Aside0 (w'.heap[gb383]? = some (.cells #[(.slice none 0 0), .int .i64 x384001_2] 49 (0, 0))) ∧ Aside0 (w'.heap[gb384]? = some (.cells #[.string x385000_2, .int .i64 x385001_2] 23 (0, 0))) ∧ Aside0 (Below w.heap.size w w'))
              case atStart => exact ⟨(0), (0), ((⟨#[]⟩ : ByteArray)), (0), (by first | rfl | (simp; done) | (simp [*]; done)), H', ⟨Nat.le_refl _⟩, ⟨by (with_reducible repeat (first | apply Kd.V_alloc | apply Kd.V_drewN | apply Kd.V_drew)); exact HO392.out⟩, ⟨by (with_reducible repeat (first | apply Kd.V_alloc | apply Kd.V_drewN | apply Kd.V_drew)); exact HO_382000.out⟩, ⟨by (with_reducible repeat (first | refine blk_drewN ?_ _ | refine blk_drew ?_ | refine blk_alloc ?_ _)); exact BK381.out⟩, ⟨by (with_reducible repeat (first | refine blk_drewN ?_ _ | refine blk_drew ?_ | refine blk_alloc ?_ _)); exact BK382.out⟩, ⟨by (with_reducible repeat (first | refine blk_drewN ?_ _ | refine blk_drew ?_ | refine blk_alloc ?_ _)); exact BK383.out⟩, ⟨by (with_reducible repeat (first | refine blk_drewN ?_ _ | refine blk_drew ?_ | refine blk_alloc ?_ _)); exact BK384.out⟩, ⟨by repeat (first | (with_reducible first | exact HB.out | apply below_alloc | apply pw_below_drewN | apply below_drew1 | refine below_set ?_ GE381.out | refine below_set ?_ GE382.out | refine below_set ?_ GE383.out | refine below_set ?_ GE384.out) | exact HB.out)⟩⟩
              case round =>
                clear H'
                try clear c1
                try clear c2
                try clear p2
                try clear c3
                try clear c4
                try clear c5
                try clear q5
                try clear c10
                try clear c10b0
                try clear c10b1
                try clear c12
                try clear c12b0
                try clear c12b1
                try clear c14
                try clear c15
                try clear c16
                try clear c20
                try clear c21
                try clear c24
                try clear c25
                try clear c26
                try clear c29
                try clear c30
                try clear c31
                try clear c32
                try clear c35
                try clear c41
                try clear c41b0
                try clear c41b1
                try clear c41b2
                try clear c47
                try clear c47b0
                try clear c47b1
                try clear c48
                try clear c48b0
                try clear c48b1
                try clear c49
                try clear c50
                try clear c51
                try clear c53
                try clear q53
                try clear hcz17_0
                try clear hcz17_1
                try clear hcz22_0
                try clear hcz22_1
                try clear hcz27_0
                try clear hcz27_1
                try clear hcz33_0
                try clear hcz33_1
                try clear hcz52_0
                try clear hcz52_1
                try clear hfz17_0
                try clear hfz17_1
                try clear hfz22_0
                try clear hfz22_1
                try clear hfz27_0
                try clear hfz27_1
                try clear hfz33_0
                try clear hfz33_1
                try clear hfz52_0
                try clear hfz52_1
                try clear p2
                try clear q053
                try clear q53
                obtain ⟨x45_2, x384001_2, x385000_2, x385001_2, rfl, HA, HK2, HO_43, HO_382000, BK381, BK382, BK383, BK384, HB⟩ := hrel
                cases gk with
                | zero => exact absurd HA.out (by simp [turn_Next.l0])
                | succ k2 =>
                  have H := HA.out
                  clear HA
                  simp only [turn_Next.l0] at H
                  by_cases c54 : x45_2 < (y388.length : Int)
                  · rw [if_pos c54] at H
                    have c54b0 : decide (x45_2 < (y388.length : Int)) = true := decide_eq_true c54
                    clear c54
                    by_cases c55 : 0 ≤ x45_2
                    · rw [if_pos c55] at H
                      have c55b0 : decide (0 ≤ x45_2) = true := decide_eq_true c55
                      clear c55
                      by_cases c56 : x45_2 < (y388.length : Int)
                      · rw [if_pos c56] at H
                        have c56b0 : decide (x45_2 < (y388.length : Int)) = true := decide_eq_true c56
                        clear c56
                        replace H := Option.bind_eq_some_iff.mp H
                        obtain ⟨⟨t402, t403⟩, A570, H⟩ := H
                        replace H : (if t403 = true then ((slices_Clone_int_int.f l0_0).bind fun t404 => (some (rd y388 x45_2, t404, wrap64 ((wrap64 (a0_1 + x45_2)) + 1), a1_0, a1_1, 0))) else (turn_Next.l0 k2 l2 y388 (y388.length : Int) (wrap64 (x45_2 + 1)) l0_0 a0_1 a1_0 a1_1)) = some (r1, r2, r3, r4, r5, r6) := H
                        have A57 := Aside0.mk A570
                        clear A570
                        by_cases c58 : t403 = true
                        · subst c58
                          have H1 : ((slices_Clone_int_int.f l0_0).bind fun t404 => (some (rd y388 x45_2, t404, wrap64 ((wrap64 (a0_1 + x45_2)) + 1), a1_0, a1_1, 0))) = some (r1, r2, r3, r4, r5, r6) := by rw [if_pos rfl] at H; exact H
                          clear H
                          have H := H1
                          clear H1
                          replace H := Option.bind_eq_some_iff.mp H
                          obtain ⟨t404, A590, H⟩ := H
                          replace H : (some (rd y388 x45_2, t404, wrap64 ((wrap64 (a0_1 + x45_2)) + 1), a1_0, a1_1, 0)) = some (r1, r2, r3, r4, r5, r6) := H
                          have A59 := Aside0.mk A590
                          clear A590
                          simp only [Option.some.injEq, Prod.mk.injEq] at H
                          obtain ⟨rfl, rfl, rfl, rfl, rfl, rfl⟩ := H
                          have p401 : 0 ≤ (x45_2 : Int) := of_decide_eq_true (by first | (with_reducible assumption) | assumption)
                          have q401 : x45_2 < (y388.length : Int) := of_decide_eq_true (by first | (with_reducible assumption) | assumption)
                          obtain ⟨ad401, e401, hx401_0⟩ := Kd.at_int (Kd.V_reads' HO_43.out).2.2 x45_2 p401 q401
                          cases e401
                          replace p401 := eq_true p401
                          replace q401 := eq_true q401
                          try go_wp2_with (first | ((with_reducible refine gate_callee (f := 42) rfl ?_); refine goesL_ (some 53) rfl rfl Try.func42 (by kernel_rfl) rfl #[.slice A2 l2.length c2, .int .i64 (rd y388 x45_2)] rfl (by (try simp only [List.map_toArray, List.map_cons, List.map_nil]); first | done | rfl | (simp only [List.length_drop, List.length_take]; rfl)) ?_; (with_reducible refine (slices_BinarySearch_int_int.calls k2 _ _ l2 (rd y388 x45_2) t402 true _ ?side1 ?side2 A57.out).mono ?_); (case side1 => repeat (first | exact (Kd.C_below HR2.out HB.out) | (with_reducible refine Kd.C_alloc ?_ _) | (with_reducible refine Kd.C_drewN ?_ _) | (with_reducible refine Kd.C_drew ?_))); (case side2 => exact HC2.out); rintro e w' ⟨rfl, ⟨nd, rfl⟩⟩; refine ⟨_, rfl, ?_⟩; (try (rw [drewN_self wr]; generalize hq_ : World.drewN wr _ = wr; have n0_ : Aside0 (Kd.V (Kd.int .i64) 3 wr w.heap.size (fun k_ => (P0_0_ k_ ∨ w.heap.size ≤ k_) ∧ k_ ≠ gb381 ∧ k_ ≠ gb382 ∧ k_ ≠ gb383 ∧ k_ ≠ gb384) (.slice A0_0 l0_0.length c0_0) l0_0) := ⟨by rw [← hq_]; exact (by (with_reducible repeat (first | apply Kd.V_alloc | apply Kd.V_drewN | apply Kd.V_drew)); exact HO_382000.out)⟩; have n1_ : Aside0 (Kd.V (Kd.int .i64) 3 wr w.heap.size (fun k_ => (P0_0_ k_ ∨ w.heap.size ≤ k_) ∧ k_ ≠ gb381 ∧ k_ ≠ gb382 ∧ k_ ≠ gb383 ∧ k_ ≠ gb384) (.slice (some ad401) y388.length c53) y388) := ⟨by rw [← hq_]; exact (by (with_reducible repeat (first | apply Kd.V_alloc | apply Kd.V_drewN | apply Kd.V_drew)); exact HO_43.out)⟩; have n2_ : Aside0 (wr.heap[gb381]? = some (.cells #[.slice A0_0 l0_0.length c0_0, .int .i64 a0_1] 49 (0, 0))) := ⟨by rw [← hq_]; exact (by (with_reducible repeat (first | refine blk_drewN ?_ _ | refine blk_drew ?_ | refine blk_alloc ?_ _)); exact BK381.out)⟩; have n3_ : Aside0 (wr.heap[gb382]? = some (.cells #[.string a1_0, .int .i64 a1_1] 23 (0, 0))) := ⟨by rw [← hq_]; exact (by (with_reducible repeat (first | refine blk_drewN ?_ _ | refine blk_drew ?_ | refine blk_alloc ?_ _)); exact BK382.out)⟩; have n4_ : Aside0 (wr.heap[gb383]? = some (.cells #[.slice none 0 0, .int .i64 x384001_2] 49 (0, 0))) := ⟨by rw [← hq_]; exact (by (with_reducible repeat (first | refine blk_drewN ?_ _ | refine blk_drew ?_ | refine blk_alloc ?_ _)); exact BK383.out)⟩; have n5_ : Aside0 (wr.heap[gb384]? = some (.cells #[.string x385000_2, .int .i64 x385001_2] 23 (0, 0))) := ⟨by rw [← hq_]; exact (by (with_reducible repeat (first | refine blk_drewN ?_ _ | refine blk_drew ?_ | refine blk_alloc ?_ _)); exact BK384.out)⟩; have n6_ : Aside0 (Below w.heap.size w wr) := ⟨by rw [← hq_]; exact (by repeat (first | (with_reducible first | exact HB.out | apply below_alloc | apply pw_below_drewN | apply below_drew1 | refine below_set ?_ GE381.out | refine below_set ?_ GE382.out | refine below_set ?_ GE383.out | refine below_set ?_ GE384.out) | exact HB.out))⟩; clear HO_382000 HO_43 BK381 BK382 BK383 BK384 HB hq_; have HO_382000 := n0_; have HO_43 := n1_; have BK381 := n2_; have BK382 := n3_; have BK383 := n4_; have BK384 := n5_; have HB := n6_; clear n0_ n1_ n2_ n3_ n4_ n5_ n6_))))
                          have n0_ := Aside0.mk (Kd.V_drew HO_43.out)
                          have n1_ := Aside0.mk (Kd.V_drew HO_382000.out)
                          have n2_ := Aside0.mk (blk_drew BK381.out)
                          have n3_ := Aside0.mk (blk_drew BK382.out)
                          have n4_ := Aside0.mk (blk_drew BK383.out)
                          have n5_ := Aside0.mk (blk_drew BK384.out)
                          have n6_ := Aside0.mk (below_drew1 HB.out)
                          clear HO_43
                          clear HO_382000
                          clear BK381
                          clear BK382
                          clear BK383
                          clear BK384
                          clear HB
                          have HO_43 := n0_
                          have HO_382000 := n1_
                          have BK381 := n2_
                          have BK382 := n3_
                          have BK383 := n4_
                          have BK384 := n5_
                          have HB := n6_
                          clear n0_ n1_ n2_ n3_ n4_ n5_ n6_
                          refine start_ (n := 15) (S := fun w' => w'.cell? ⟨gb381, 0, none⟩ = some (.slice A0_0 l0_0.length c0_0) ∧ w'.cell? ⟨gb381, 1, none⟩ = some (.int .i64 a0_1) ∧ w'.cell? ⟨gb382, 0, none⟩ = some (.string a1_0) ∧ w'.cell? ⟨gb382, 1, none⟩ = some (.int .i64 a1_1)) (ds := []) #[false, false, false, false, false, false, false, false, false, false, false, false, false, false, false] (by kernel_rfl) rfl rfl ⟨(blk_cell BK381.out 0).trans rfl, (blk_cell BK381.out 1).trans rfl, (blk_cell BK382.out 0).trans rfl, (blk_cell BK382.out 1).trans rfl⟩ (fun hHeld => ?_); refine with_tabW turn_Next.tab10 turn_Next.bits10 (fun HT_ HW_ => ?_)
                          generalize wr.drew = w60 at HO_43 HO_382000 BK381 BK382 BK383 BK384 HB hHeld ⊢
                          refine pure_ (i := 0) (N := some 57) (v := ?_) (a' := ?_) #[true, false, false, false, false, false, false, false, false, false, false, false, false, false, false] rfl rfl (any_of HT_.out (by kernel_rfl)) (fun _ _ _ h => h) (Or.inl ⟨by rfl, ?_⟩) ?_ ?_
                          rotate_left
                          · intro w'
                            go_simp
                            with_reducible rfl
                          rotate_left
                          · simp only [Act.put, List.setIfInBounds_toArray, List.set_cons_zero, List.set_cons_succ, i64_w, i32_w]
                            rfl
                          refine pure_ (i := 1) (N := some 58) (v := ?_) (a' := ?_) #[true, true, false, false, false, false, false, false, false, false, false, false, false, false, false] rfl rfl (any_of HT_.out (by kernel_rfl)) (fun _ _ _ h => h) (Or.inl ⟨by rfl, ?_⟩) ?_ ?_
                          rotate_left
                          · intro w'
                            go_simp
                            with_reducible rfl
                          rotate_left
                          · simp only [Act.put, List.setIfInBounds_toArray, List.set_cons_zero, List.set_cons_succ, i64_w, i32_w]
                            rfl
                          refine pure_ (i := 4) (N := some 61) (v := ?_) (a' := ?_) #[true, true, false, false, true, false, false, false, false, false, false, false, false, false, false] rfl rfl (any_of HT_.out (by kernel_rfl)) (fun _ _ _ h => h) (Or.inl ⟨by rfl, ?_⟩) ?_ ?_
                          rotate_left
                          · intro w'
                            go_simp
                            with_reducible rfl
                          rotate_left
                          · simp only [Act.put, List.setIfInBounds_toArray, List.set_cons_zero, List.set_cons_succ, i64_w, i32_w]
                            rfl
                          refine pure_ (i := 6) (N := some 63) (v := ?_) (a' := ?_) #[true, true, false, false, true, false, true, false, false, false, false, false, false, false, false] rfl rfl (any_of HT_.out (by kernel_rfl)) (fun _ _ _ h => h) (Or.inl ⟨by rfl, ?_⟩) ?_ ?_
                          rotate_left
                          · intro w'
                            go_simp
                            with_reducible rfl
                          rotate_left
                          · simp only [Act.put, List.setIfInBounds_toArray, List.set_cons_zero, List.set_cons_succ, i64_w, i32_w]
                            rfl
                          refine take_ (i := 2) (N := some 59) (v := ?_) (a' := ?_) #[true, true, true, false, true, false, true, false, false, false, false, false, false, false, false] rfl rfl (take_ofW HT_.out HW_.out (by kernel_rfl)) (fun _ _ _ h => h) (Or.inl ⟨by rfl, ?_⟩) hHeld ?_ ?_
                          rotate_left
                          · rintro w' ⟨s0, s1, s2, s3⟩
                            go_simp
                            with_reducible rfl
                          rotate_left
                          · simp only [Act.put, List.setIfInBounds_toArray, List.set_cons_zero, List.set_cons_succ, i64_w, i32_w]
                            rfl
                          refine take_ (i := 5) (N := some 62) (v := ?_) (a' := ?_) #[true, true, true, false, true, true, true, false, false, false, false, false, false, false, false] rfl rfl (take_ofW HT_.out HW_.out (by kernel_rfl)) (fun _ _ _ h => h) (Or.inl ⟨by rfl, ?_⟩) hHeld ?_ ?_
                          rotate_left
                          · rintro w' ⟨s0, s1, s2, s3⟩
                            go_simp
                            with_reducible rfl
                          rotate_left
                          · simp only [Act.put, List.setIfInBounds_toArray, List.set_cons_zero, List.set_cons_succ, i64_w, i32_w]
                            rfl
                          refine pure_ (i := 7) (N := some 64) (v := ?_) (a' := ?_) #[true, true, true, false, true, true, true, true, false, false, false, false, false, false, false] rfl rfl (any_of HT_.out (by kernel_rfl)) (fun _ _ _ h => h) (Or.inl ⟨by rfl, ?_⟩) ?_ ?_
                          rotate_left
                          · intro w'
                            go_simp
                            with_reducible rfl
                          rotate_left
                          · simp only [Act.put, List.setIfInBounds_toArray, List.set_cons_zero, List.set_cons_succ, i64_w, i32_w]
                            rfl
                          refine pure_ (i := 8) (N := some 65) (v := ?_) (a' := ?_) #[true, true, true, false, true, true, true, true, true, false, false, false, false, false, false] rfl rfl (any_of HT_.out (by kernel_rfl)) (fun _ _ _ h => h) (Or.inl ⟨by rfl, ?_⟩) ?_ ?_
                          rotate_left
                          · intro w'
                            go_simp
                            with_reducible rfl
                          rotate_left
                          · simp only [Act.put, List.setIfInBounds_toArray, List.set_cons_zero, List.set_cons_succ, i64_w, i32_w]
                            rfl
                          refine take_ (i := 10) (N := some 67) (v := ?_) (a' := ?_) #[true, true, true, false, true, true, true, true, true, false, true, false, false, false, false] rfl rfl (take_ofW HT_.out HW_.out (by kernel_rfl)) (fun _ _ _ h => h) (Or.inl ⟨by rfl, ?_⟩) hHeld ?_ ?_
                          rotate_left
                          · rintro w' ⟨s0, s1, s2, s3⟩
                            go_simp
                            with_reducible rfl
                          rotate_left
                          · simp only [Act.put, List.setIfInBounds_toArray, List.set_cons_zero, List.set_cons_succ, i64_w, i32_w]
                            rfl
                          refine one_ (i := 3) (N := some 60) #[true, true, true, true, true, true, true, true, true, false, true, false, false, false, false] rfl rfl (one_of HT_.out (by kernel_rfl)) (by decide) (fun K hK => ?_)
                          refine goes_ Try.func43 (by kernel_rfl) rfl #[.slice A0_0 l0_0.length c0_0] (by rfl) rfl rfl (by (try simp only [List.map_toArray, List.map_cons, List.map_nil]); first | done | rfl | (simp only [List.length_drop, List.length_take]; rfl)) ?_
                          with_reducible refine (slices_Clone_int_int.calls _ _ l0_0 t404 _ ?side1 ?side2 A59.out).mono ?_
                          (case side1 => repeat (first | exact (Kd.V_reads' HO_382000.out).2.2 | (with_reducible refine Kd.C_alloc ?_ _) | (with_reducible refine Kd.C_drewN ?_ _) | (with_reducible refine Kd.C_drew ?_)))
                          (case side2 => exact (Kd.V_reads' HO_382000.out).2.1)
                          rintro e w61 ⟨v405, rfl, ho0, hb⟩
                          refine ⟨_, rfl, ?_⟩
                          have n0_ := Aside0.mk (Kd.V_elder' (by (with_reducible repeat (first | apply Kd.V_alloc | apply Kd.V_drewN | apply Kd.V_drew)); exact HO_43.out) (Kd.R_base ho0) hb)
                          have n1_ := Aside0.mk (Kd.V_elder' (by (with_reducible repeat (first | apply Kd.V_alloc | apply Kd.V_drewN | apply Kd.V_drew)); exact HO_382000.out) (Kd.R_base ho0) hb)
                          have n2_ := Aside0.mk (Kd.R_lower (Kd.R_newM (M := fun k_ => (w.heap.size ≤ k_)) ho0 (below_size (by repeat (first | (with_reducible first | exact HB.out | apply below_alloc | apply pw_below_drewN | apply below_drew1 | refine below_set ?_ GE381.out | refine below_set ?_ GE382.out | refine below_set ?_ GE383.out | refine below_set ?_ GE384.out) | exact HB.out))) (fun k_ h_ => h_)) (below_size (by repeat (first | (with_reducible first | exact HB.out | apply below_alloc | apply pw_below_drewN | apply below_drew1 | refine below_set ?_ GE381.out | refine below_set ?_ GE382.out | refine below_set ?_ GE383.out | refine below_set ?_ GE384.out) | exact HB.out))))
                          have n3_ := Aside0.mk (blk_below (g := gb381) (o := .cells #[.slice A0_0 l0_0.length c0_0, .int .i64 a0_1] 49 (0, 0)) (by (with_reducible repeat (first | refine blk_drewN ?_ _ | refine blk_drew ?_ | refine blk_alloc ?_ _)); exact BK381.out) hb)
                          have n4_ := Aside0.mk (blk_below (g := gb382) (o := .cells #[.string a1_0, .int .i64 a1_1] 23 (0, 0)) (by (with_reducible repeat (first | refine blk_drewN ?_ _ | refine blk_drew ?_ | refine blk_alloc ?_ _)); exact BK382.out) hb)
                          have n5_ := Aside0.mk (blk_below (g := gb383) (o := .cells #[.slice none 0 0, .int .i64 x384001_2] 49 (0, 0)) (by (with_reducible repeat (first | refine blk_drewN ?_ _ | refine blk_drew ?_ | refine blk_alloc ?_ _)); exact BK383.out) hb)
                          have n6_ := Aside0.mk (blk_below (g := gb384) (o := .cells #[.string x385000_2, .int .i64 x385001_2] 23 (0, 0)) (by (with_reducible repeat (first | refine blk_drewN ?_ _ | refine blk_drew ?_ | refine blk_alloc ?_ _)); exact BK384.out) hb)
                          have n7_ := Aside0.mk (below_step (by repeat (first | (with_reducible first | exact HB.out | apply below_alloc | apply pw_below_drewN | apply below_drew1 | refine below_set ?_ GE381.out | refine below_set ?_ GE382.out | refine below_set ?_ GE383.out | refine below_set ?_ GE384.out) | exact HB.out)) hb)
                          clear HO_43
                          clear HO_382000
                          clear BK381
                          clear BK382
                          clear BK383
                          clear BK384
                          clear HB
                          have HO_43 := n0_
                          have HO_382000 := n1_
                          have HO406 := n2_
                          have BK381 := n3_
                          have BK382 := n4_
                          have BK383 := n5_
                          have BK384 := n6_
                          have HB := n7_
                          clear n0_ n1_ n2_ n3_ n4_ n5_ n6_ n7_
                          (try clear hb)
                          (try clear hb2)
                          (try clear hk)
                          (try clear hi)
                          (try clear ho0)
                          obtain ⟨Ao62, co62, eo62⟩ := Kd.R_slice HO406.out
                          (first | subst eo62 | (injection eo62 with f1_ f2_ f3_; have f4_ := f1_.symm; have f5_ := f3_.symm; clear f1_ f2_ f3_; subst f4_; subst f5_))
                          refine hK.out _ _ ⟨(blk_cell BK381.out 0).trans rfl, (blk_cell BK381.out 1).trans rfl, (blk_cell BK382.out 0).trans rfl, (blk_cell BK382.out 1).trans rfl⟩ (fun hHeld => ?_)
                          clear hK K
                          refine norm_ (a' := ?_) ?_ ?_
                          rotate_left
                          · show Act.put _ (some 60) _ = _
                            simp only [Act.put, List.setIfInBounds_toArray, List.set_cons_zero, List.set_cons_succ, i64_w, i32_w]
                            rfl
                          refine pure_ (i := 9) (N := some 66) (v := ?_) (a' := ?_) #[true, true, true, true, true, true, true, true, true, true, true, false, false, false, false] rfl rfl (any_of HT_.out (by kernel_rfl)) (fun _ _ _ h => h) (Or.inl ⟨by rfl, ?_⟩) ?_ ?_
                          rotate_left
                          · intro w'
                            go_simp
                            with_reducible rfl
                          rotate_left
                          · simp only [Act.put, List.setIfInBounds_toArray, List.set_cons_zero, List.set_cons_succ, i64_w, i32_w]
                            rfl
                          refine pure_ (i := 11) (N := some 6) (v := ?_) (a' := ?_) #[true, true, true, true, true, true, true, true, true, true, true, true, false, false, false] rfl rfl (any_of HT_.out (by kernel_rfl)) (fun _ _ _ h => h) (Or.inl ⟨by rfl, ?_⟩) ?_ ?_
                          rotate_left
                          · intro w'
                            go_simp
                            with_reducible rfl
                          rotate_left
                          · simp only [Act.put, List.setIfInBounds_toArray, List.set_cons_zero, List.set_cons_succ, i64_w, i32_w]
                            rfl
                          refine one_ (i := 12) (N := none) #[true, true, true, true, true, true, true, true, true, true, true, true, true, false, false] rfl rfl (one_of HT_.out (by kernel_rfl)) (by decide) (fun K hK => ?_)
                          have hs63 : w61.cell? ⟨gb383, 0, none⟩ = some (.slice none 0 0) := (blk_cell BK383.out 0).trans rfl
                          have hfs63 := blk_frozen BK383.out 0
                          have hns63_0 := NB381_383.out
                          have hns63_1 := NB382_383.out
                          have hns63_3 := NB384_383.out
                          have hms63_0 := NB383_381.out
                          have hms63_1 := NB383_382.out
                          have hms63_3 := NB383_384.out
                          have hs64 : w61.cell? ⟨gb383, 1, none⟩ = some (.int .i64 x384001_2) := (blk_cell BK383.out 1).trans rfl
                          have hfs64 := blk_frozen BK383.out 1
                          have hns64_0 := NB381_383.out
                          have hns64_1 := NB382_383.out
                          have hns64_3 := NB384_383.out
                          have hms64_0 := NB383_381.out
                          have hms64_1 := NB383_382.out
                          have hms64_3 := NB383_384.out
                          refine skip_ (w1 := ?_) (by rfl) rfl ?_ ?_
                          rotate_left
                          · go_simp
                            rfl
                          refine hK.out _ _ ⟨((cell_far (p := ⟨gb383, _, none⟩) NB381_383.out _).trans (((cell_far (p := ⟨gb383, _, none⟩) NB381_383.out _).trans (hHeld.1)))), ((cell_far (p := ⟨gb383, _, none⟩) NB381_383.out _).trans (((cell_far (p := ⟨gb383, _, none⟩) NB381_383.out _).trans (hHeld.2.1)))), ((cell_far (p := ⟨gb383, _, none⟩) NB382_383.out _).trans (((cell_far (p := ⟨gb383, _, none⟩) NB382_383.out _).trans (hHeld.2.2.1)))), ((cell_far (p := ⟨gb383, _, none⟩) NB382_383.out _).trans (((cell_far (p := ⟨gb383, _, none⟩) NB382_383.out _).trans (hHeld.2.2.2))))⟩ (fun hHeld => ?_)
                          clear hK K
                          refine one_ (i := 13) (N := none) #[true, true, true, true, true, true, true, true, true, true, true, true, true, true, false] rfl rfl (one_of HT_.out (by kernel_rfl)) (by decide) (fun K hK => ?_)
                          have hs65 : w61.cell? ⟨gb384, 0, none⟩ = some (.string x385000_2) := (blk_cell BK384.out 0).trans rfl
                          have hfs65 := blk_frozen BK384.out 0
                          have hns65_0 := NB381_384.out
                          have hns65_1 := NB382_384.out
                          have hns65_2 := NB383_384.out
                          have hms65_0 := NB384_381.out
                          have hms65_1 := NB384_382.out
                          have hms65_2 := NB384_383.out
                          have hs66 : w61.cell? ⟨gb384, 1, none⟩ = some (.int .i64 x385001_2) := (blk_cell BK384.out 1).trans rfl
                          have hfs66 := blk_frozen BK384.out 1
                          have hns66_0 := NB381_384.out
                          have hns66_1 := NB382_384.out
                          have hns66_2 := NB383_384.out
                          have hms66_0 := NB384_381.out
                          have hms66_1 := NB384_382.out
                          have hms66_2 := NB384_383.out
                          refine skip_ (w1 := ?_) (by rfl) rfl ?_ ?_
                          rotate_left
                          · go_simp
                            rfl
                          refine hK.out _ _ ⟨((cell_far (p := ⟨gb384, _, none⟩) NB381_384.out _).trans (((cell_far (p := ⟨gb384, _, none⟩) NB381_384.out _).trans (hHeld.1)))), ((cell_far (p := ⟨gb384, _, none⟩) NB381_384.out _).trans (((cell_far (p := ⟨gb384, _, none⟩) NB381_384.out _).trans (hHeld.2.1)))), ((cell_far (p := ⟨gb384, _, none⟩) NB382_384.out _).trans (((cell_far (p := ⟨gb384, _, none⟩) NB382_384.out _).trans (hHeld.2.2.1)))), ((cell_far (p := ⟨gb384, _, none⟩) NB382_384.out _).trans (((cell_far (p := ⟨gb384, _, none⟩) NB382_384.out _).trans (hHeld.2.2.2))))⟩ (fun hHeld => ?_)
                          clear hK K
                          refine pure_ (i := 14) (N := some 9) (v := ?_) (a' := ?_) #[true, true, true, true, true, true, true, true, true, true, true, true, true, true, true] rfl rfl (any_of HT_.out (by kernel_rfl)) (fun _ _ _ h => h) (Or.inl ⟨by rfl, ?_⟩) ?_ ?_
                          rotate_left
                          · intro w'
                            go_simp
                            with_reducible rfl
                          rotate_left
                          · simp only [Act.put, List.setIfInBounds_toArray, List.set_cons_zero, List.set_cons_succ, i64_w, i32_w]
                            rfl
                          refine done_ (done_of HT_.out (by kernel_rfl)) ?_
                          try go_wp2
                          refine bodyPost_ret (results_list (rs := [.tmp 6, .cell 7 49, .cell 8 23, .tmp 9]) rfl (by simp) (.tmp (.cell gb383 49 #[.slice Ao62 t404.length co62, .int .i64 (wrap64 ((wrap64 (a0_1 + x45_2)) + 1))] (0, 0) _ rfl (by (with_reducible repeat (first | refine blk_drewN ?_ _ | refine blk_drew ?_ | refine blk_alloc ?_ _)); refine blk_far ?_ NB383_384.out _; (with_reducible repeat (first | refine blk_drewN ?_ _ | refine blk_drew ?_ | refine blk_alloc ?_ _)); refine blk_far ?_ NB383_384.out _; (with_reducible repeat (first | refine blk_drewN ?_ _ | refine blk_drew ?_ | refine blk_alloc ?_ _)); refine blk_put (cs := #[.slice Ao62 t404.length co62, .int .i64 x384001_2]) ?_ 1 _ rfl; (with_reducible repeat (first | refine blk_drewN ?_ _ | refine blk_drew ?_ | refine blk_alloc ?_ _)); refine blk_put (cs := #[.slice none 0 0, .int .i64 x384001_2]) ?_ 0 _ rfl; (with_reducible repeat (first | refine blk_drewN ?_ _ | refine blk_drew ?_ | refine blk_alloc ?_ _)); exact BK383.out) Try.underlying49 rfl (by kernel_rfl) (.cell gb384 23 #[.string a1_0, .int .i64 a1_1] (0, 0) _ rfl (by (with_reducible repeat (first | refine blk_drewN ?_ _ | refine blk_drew ?_ | refine blk_alloc ?_ _)); refine blk_put (cs := #[.string a1_0, .int .i64 x385001_2]) ?_ 1 _ rfl; (with_reducible repeat (first | refine blk_drewN ?_ _ | refine blk_drew ?_ | refine blk_alloc ?_ _)); refine blk_put (cs := #[.string x385000_2, .int .i64 x385001_2]) ?_ 0 _ rfl; (with_reducible repeat (first | refine blk_drewN ?_ _ | refine blk_drew ?_ | refine blk_alloc ?_ _)); refine blk_far ?_ NB384_383.out _; (with_reducible repeat (first | refine blk_drewN ?_ _ | refine blk_drew ?_ | refine blk_alloc ?_ _)); refine blk_far ?_ NB384_383.out _; (with_reducible repeat (first | refine blk_drewN ?_ _ | refine blk_drew ?_ | refine blk_alloc ?_ _)); exact BK384.out) Try.underlying23 rfl (by kernel_rfl) (.tmp .nil))))) rfl ?_
                          exact ⟨_, by first | rfl | (simp [errW_none, errW_some] <;> rfl) | (simp [*, errW_none, errW_some] <;> rfl), Kd.V_mono (Kd.R_V (by (with_reducible repeat (first | apply Kd.R_alloc | apply Kd.R_drewN | apply Kd.R_drew)); exact Kd.R_mono (Kd.R_far (p := ⟨gb384, 1, none⟩) (Kd.R_far (p := ⟨gb384, 0, none⟩) (Kd.R_far (p := ⟨gb383, 1, none⟩) (Kd.R_far (p := ⟨gb383, 0, none⟩) (Kd.R_types (Kd.R_types HO406.out BK383.out (by decide)) BK384.out (by decide)) (fun _ hk => hk.1.2) (.slice Ao62 t404.length co62)) (fun _ hk => hk.1.2) (.int .i64 (wrap64 ((wrap64 (a0_1 + x45_2)) + 1)))) (fun _ hk => hk.2) (.string a1_0)) (fun _ hk => hk.2) (.int .i64 a1_1)) (fun _ hk => hk.1.1.1))) (fun k_ hk => by first | exact ⟨(.inr (hk.1)), hk.2⟩ | exact (.inr (hk))), by repeat (first | (with_reducible first | exact HB.out | apply below_alloc | apply pw_below_drewN | apply below_drew1 | refine below_set ?_ GE381.out | refine below_set ?_ GE382.out | refine below_set ?_ GE383.out | refine below_set ?_ GE384.out) | exact HB.out)⟩
                        · replace c58 := Bool.eq_false_iff.mpr c58
                          subst c58
                          have H1 : (turn_Next.l0 k2 l2 y388 (y388.length : Int) (wrap64 (x45_2 + 1)) l0_0 a0_1 a1_0 a1_1) = some (r1, r2, r3, r4, r5, r6) := by rw [if_neg (show ¬ (false = true) by decide)] at H; exact H
                          clear H
                          have H := H1
                          clear H1
                          have H' := Aside0.mk H
                          clear H
                          have p401 : 0 ≤ (x45_2 : Int) := of_decide_eq_true (by first | (with_reducible assumption) | assumption)
                          have q401 : x45_2 < (y388.length : Int) := of_decide_eq_true (by first | (with_reducible assumption) | assumption)
                          obtain ⟨ad401, e401, hx401_0⟩ := Kd.at_int (Kd.V_reads' HO_43.out).2.2 x45_2 p401 q401
                          cases e401
                          replace p401 := eq_true p401
                          replace q401 := eq_true q401
                          go_wp2_with (first | ((with_reducible refine gate_callee (f := 42) rfl ?_); refine goesL_ (some 53) rfl rfl Try.func42 (by kernel_rfl) rfl #[.slice A2 l2.length c2, .int .i64 (rd y388 x45_2)] rfl (by (try simp only [List.map_toArray, List.map_cons, List.map_nil]); first | done | rfl | (simp only [List.length_drop, List.length_take]; rfl)) ?_; (with_reducible refine (slices_BinarySearch_int_int.calls k2 _ _ l2 (rd y388 x45_2) t402 false _ ?side1 ?side2 A57.out).mono ?_); (case side1 => repeat (first | exact (Kd.C_below HR2.out HB.out) | (with_reducible refine Kd.C_alloc ?_ _) | (with_reducible refine Kd.C_drewN ?_ _) | (with_reducible refine Kd.C_drew ?_))); (case side2 => exact HC2.out); rintro e w' ⟨rfl, ⟨nd, rfl⟩⟩; refine ⟨_, rfl, ?_⟩))
                          go_roundg k2
                          case measure => have := HJ3.out; have := HK2.out; omega
                          case rel => exact ⟨(wrap64 (x45_2 + 1)), (x384001_2), (x385000_2), (x385001_2), (by first | rfl | (simp; done) | (simp [*]; done)), H', ⟨by have := HJ3.out; have := HK2.out; omega⟩, ⟨by (with_reducible repeat (first | apply Kd.V_alloc | apply Kd.V_drewN | apply Kd.V_drew)); exact HO_43.out⟩, ⟨by (with_reducible repeat (first | apply Kd.V_alloc | apply Kd.V_drewN | apply Kd.V_drew)); exact HO_382000.out⟩, ⟨by (with_reducible repeat (first | refine blk_drewN ?_ _ | refine blk_drew ?_ | refine blk_alloc ?_ _)); exact BK381.out⟩, ⟨by (with_reducible repeat (first | refine blk_drewN ?_ _ | refine blk_drew ?_ | refine blk_alloc ?_ _)); exact BK382.out⟩, ⟨by (with_reducible repeat (first | refine blk_drewN ?_ _ | refine blk_drew ?_ | refine blk_alloc ?_ _)); exact BK383.out⟩, ⟨by (with_reducible repeat (first | refine blk_drewN ?_ _ | refine blk_drew ?_ | refine blk_alloc ?_ _)); exact BK384.out⟩, ⟨by repeat (first | (with_reducible first | exact HB.out | apply below_alloc | apply pw_below_drewN | apply below_drew1 | refine below_set ?_ GE381.out | refine below_set ?_ GE382.out | refine below_set ?_ GE383.out | refine below_set ?_ GE384.out) | exact HB.out)⟩⟩
                      · rw [if_neg c56] at H
                        exact absurd H (by simp)
                    · rw [if_neg c55] at H
                      exact absurd H (by simp)
                  · rw [if_neg c54] at H
                    have c54b0 : decide (x45_2 < (y388.length : Int)) = false := decide_eq_false c54
                    clear c54
                    replace H := Option.bind_eq_some_iff.mp H
                    obtain ⟨⟨t393, t396, t397, t398⟩, A670, H⟩ := H
                    replace H : (if t398 = 0 then (if 0 < (t393.length : Int) then (some (rd t393 0, t393, 1, t396, t397, 0)) else (none)) else (some (0, l0_0, a0_1, a1_0, a1_1, t398))) = some (r1, r2, r3, r4, r5, r6) := H
                    have A67 := Aside0.mk A670
                    clear A670
                    by_cases c68 : t398 = 0
                    · rw [if_pos c68] at H
                      have c68b0 : (t398 == 0) = true := beq_iff_eq.mpr c68
                      have c68b1 : (t398 != 0) = false := bne_eq_false_iff_eq.mpr c68
                      clear c68
                      by_cases c69 : 0 < (t393.length : Int)
                      · rw [if_pos c69] at H
                        have c69b0 : decide (0 < (t393.length : Int)) = true := decide_eq_true c69
                        have c69b1 : decide (0 < t393.length) = true := decide_eq_true (by omega)
                        clear c69
                        simp only [Option.some.injEq, Prod.mk.injEq] at H
                        obtain ⟨rfl, rfl, rfl, rfl, rfl, rfl⟩ := H
                        have hnb70 := NB382_381.out
                        have hnc70 := NB381_382.out
                        have hnb71 := NB382_383.out
                        have hnc71 := NB383_382.out
                        have hnb72 := NB382_384.out
                        have hnc72 := NB384_382.out
                        have hcz73_0 : wr.cell? ⟨gb382, 0, none⟩ = some (.string a1_0) := (blk_cell BK382.out 0).trans rfl
                        have hcz73_1 : wr.cell? ⟨gb382, 1, none⟩ = some (.int .i64 a1_1) := (blk_cell BK382.out 1).trans rfl
                        have hfz73_0 := blk_frozen BK382.out 0
                        have hfz73_1 := blk_frozen BK382.out 1
                        try go_wp2_with (first | ((with_reducible refine gate_callee (f := 20) rfl ?_); refine goesL_ (some 72) rfl rfl Try.func20 (by kernel_rfl) rfl #[.agg #[.string a1_0, .int .i64 a1_1], .slice A2 l2.length c2] rfl (by (try simp only [List.map_toArray, List.map_cons, List.map_nil]); first | done | rfl | (simp only [List.length_drop, List.length_take]; rfl)) ?_; (with_reducible refine (dice_Shuffle.calls a1_0 a1_1 _ _ l2 t393 t396 t397 t398 _ ?side1 ?side2 A67.out).mono ?_); (case side1 => repeat (first | exact (Kd.C_below HR2.out HB.out) | (with_reducible refine Kd.C_alloc ?_ _) | (with_reducible refine Kd.C_drewN ?_ _) | (with_reducible refine Kd.C_drew ?_))); (case side2 => exact HC2.out); rintro e w74 ⟨v394, rfl, ho0, hb⟩; refine ⟨_, rfl, ?_⟩; have n0_ := Aside0.mk (Kd.V_elder' (by (with_reducible repeat (first | apply Kd.V_alloc | apply Kd.V_drewN | apply Kd.V_drew)); exact HO_43.out) (Kd.R_base ho0) hb); have n1_ := Aside0.mk (Kd.V_elder' (by (with_reducible repeat (first | apply Kd.V_alloc | apply Kd.V_drewN | apply Kd.V_drew)); exact HO_382000.out) (Kd.R_base ho0) hb); have n2_ := Aside0.mk (Kd.R_lower (Kd.R_newM (M := fun k_ => (w.heap.size ≤ k_)) ho0 (below_size (by repeat (first | (with_reducible first | exact HB.out | apply below_alloc | apply pw_below_drewN | apply below_drew1 | refine below_set ?_ GE381.out | refine below_set ?_ GE382.out | refine below_set ?_ GE383.out | refine below_set ?_ GE384.out) | exact HB.out))) (fun k_ h_ => h_)) (below_size (by repeat (first | (with_reducible first | exact HB.out | apply below_alloc | apply pw_below_drewN | apply below_drew1 | refine below_set ?_ GE381.out | refine below_set ?_ GE382.out | refine below_set ?_ GE383.out | refine below_set ?_ GE384.out) | exact HB.out)))); have n3_ := Aside0.mk (blk_below (g := gb381) (o := .cells #[.slice A0_0 l0_0.length c0_0, .int .i64 a0_1] 49 (0, 0)) (by (with_reducible repeat (first | refine blk_drewN ?_ _ | refine blk_drew ?_ | refine blk_alloc ?_ _)); exact BK381.out) hb); have n4_ := Aside0.mk (blk_below (g := gb382) (o := .cells #[.string a1_0, .int .i64 a1_1] 23 (0, 0)) (by (with_reducible repeat (first | refine blk_drewN ?_ _ | refine blk_drew ?_ | refine blk_alloc ?_ _)); exact BK382.out) hb); have n5_ := Aside0.mk (blk_below (g := gb383) (o := .cells #[.slice none 0 0, .int .i64 x384001_2] 49 (0, 0)) (by (with_reducible repeat (first | refine blk_drewN ?_ _ | refine blk_drew ?_ | refine blk_alloc ?_ _)); exact BK383.out) hb); have n6_ := Aside0.mk (blk_below (g := gb384) (o := .cells #[.string x385000_2, .int .i64 x385001_2] 23 (0, 0)) (by (with_reducible repeat (first | refine blk_drewN ?_ _ | refine blk_drew ?_ | refine blk_alloc ?_ _)); exact BK384.out) hb); have n7_ := Aside0.mk (below_step (by repeat (first | (with_reducible first | exact HB.out | apply below_alloc | apply pw_below_drewN | apply below_drew1 | refine below_set ?_ GE381.out | refine below_set ?_ GE382.out | refine below_set ?_ GE383.out | refine below_set ?_ GE384.out) | exact HB.out)) hb); clear HO_43; clear HO_382000; clear BK381; clear BK382; clear BK383; clear BK384; clear HB; have HO_43 := n0_; have HO_382000 := n1_; have HO395 := n2_; have BK381 := n3_; have BK382 := n4_; have BK383 := n5_; have BK384 := n6_; have HB := n7_; clear n0_ n1_ n2_ n3_ n4_ n5_ n6_ n7_; (try clear hb); (try clear hb2); (try clear hk); (try clear hi); (try clear ho0)) | ((with_reducible refine gate_dst (N := 15) rfl ?_); refine box_event ?hg (N := 15) ?hd (cs := #[.string (⟨#[]⟩ : ByteArray), .int .i64 0]) (t := 23) ?hr ?_; (case hd => rfl); (case hg => rfl); (case hr => first | (go_simp; done) | (go_simp; rfl)); intro gb399 hg w75 hbox hb; have n0_ := Aside0.mk (Kd.V_below (Kd.V_elderB (by (with_reducible repeat (first | apply Kd.V_alloc | apply Kd.V_drewN | apply Kd.V_drew)); exact HO_43.out) gb399 (Nat.le_of_eq hg.symm)) hb); have n1_ := Aside0.mk (Kd.V_below (Kd.V_elderB (by (with_reducible repeat (first | apply Kd.V_alloc | apply Kd.V_drewN | apply Kd.V_drew)); exact HO_382000.out) gb399 (Nat.le_of_eq hg.symm)) hb); have n2_ := Aside0.mk (Kd.R_below (by (with_reducible repeat (first | apply Kd.R_alloc | apply Kd.R_drewN | apply Kd.R_drew)); exact HO395.out) hb); have n3_ := Aside0.mk (blk_below (g := gb381) (o := .cells #[.slice A0_0 l0_0.length c0_0, .int .i64 a0_1] 49 (0, 0)) (by (with_reducible repeat (first | refine blk_drewN ?_ _ | refine blk_drew ?_ | refine blk_alloc ?_ _)); exact BK381.out) hb); have n4_ := Aside0.mk (blk_below (g := gb382) (o := .cells #[.string a1_0, .int .i64 a1_1] 23 (0, 0)) (by (with_reducible repeat (first | refine blk_drewN ?_ _ | refine blk_drew ?_ | refine blk_alloc ?_ _)); exact BK382.out) hb); have n5_ := Aside0.mk (blk_below (g := gb383) (o := .cells #[.slice none 0 0, .int .i64 x384001_2] 49 (0, 0)) (by (with_reducible repeat (first | refine blk_drewN ?_ _ | refine blk_drew ?_ | refine blk_alloc ?_ _)); exact BK383.out) hb); have n6_ := Aside0.mk (blk_below (g := gb384) (o := .cells #[.string x385000_2, .int .i64 x385001_2] 23 (0, 0)) (by (with_reducible repeat (first | refine blk_drewN ?_ _ | refine blk_drew ?_ | refine blk_alloc ?_ _)); exact BK384.out) hb); have n7_ := Aside0.mk (below_step (by repeat (first | (with_reducible first | exact HB.out | apply below_alloc | apply pw_below_drewN | apply below_drew1 | refine below_set ?_ GE381.out | refine below_set ?_ GE382.out | refine below_set ?_ GE383.out | refine below_set ?_ GE384.out) | exact HB.out)) hb); have n8_ := Aside0.mk (hbox); have n9_ := Aside0.mk ((by rw [hg]; exact (below_size (by repeat (first | (with_reducible first | exact HB.out | apply below_alloc | apply pw_below_drewN | apply below_drew1 | refine below_set ?_ GE381.out | refine below_set ?_ GE382.out | refine below_set ?_ GE383.out | refine below_set ?_ GE384.out) | exact HB.out))) : w.heap.size ≤ gb399)); have n10_ := Aside0.mk ((by rw [hg]; exact (below_size (by repeat (first | (with_reducible first | exact HB.out | apply below_alloc | apply pw_below_drewN | apply below_drew1 | refine below_set ?_ GE381.out | refine below_set ?_ GE382.out | refine below_set ?_ GE383.out | refine below_set ?_ GE384.out) | exact HB.out))) : w.heap.size ≤ gb399)); have n11_ := Aside0.mk ((by rw [hg]; exact Nat.ne_of_lt (blk_lt (g := gb381) (o := .cells #[.slice A0_0 l0_0.length c0_0, .int .i64 a0_1] 49 (0, 0)) (by (with_reducible repeat (first | refine blk_drewN ?_ _ | refine blk_drew ?_ | refine blk_alloc ?_ _)); exact BK381.out)) : gb381 ≠ gb399)); have n12_ := Aside0.mk ((by rw [hg]; exact Nat.ne_of_gt (blk_lt (g := gb381) (o := .cells #[.slice A0_0 l0_0.length c0_0, .int .i64 a0_1] 49 (0, 0)) (by (with_reducible repeat (first | refine blk_drewN ?_ _ | refine blk_drew ?_ | refine blk_alloc ?_ _)); exact BK381.out)) : gb399 ≠ gb381)); have n13_ := Aside0.mk ((by rw [hg]; exact Nat.ne_of_lt (blk_lt (g := gb382) (o := .cells #[.string a1_0, .int .i64 a1_1] 23 (0, 0)) (by (with_reducible repeat (first | refine blk_drewN ?_ _ | refine blk_drew ?_ | refine blk_alloc ?_ _)); exact BK382.out)) : gb382 ≠ gb399)); have n14_ := Aside0.mk ((by rw [hg]; exact Nat.ne_of_gt (blk_lt (g := gb382) (o := .cells #[.string a1_0, .int .i64 a1_1] 23 (0, 0)) (by (with_reducible repeat (first | refine blk_drewN ?_ _ | refine blk_drew ?_ | refine blk_alloc ?_ _)); exact BK382.out)) : gb399 ≠ gb382)); have n15_ := Aside0.mk ((by rw [hg]; exact Nat.ne_of_lt (blk_lt (g := gb383) (o := .cells #[.slice none 0 0, .int .i64 x384001_2] 49 (0, 0)) (by (with_reducible repeat (first | refine blk_drewN ?_ _ | refine blk_drew ?_ | refine blk_alloc ?_ _)); exact BK383.out)) : gb383 ≠ gb399)); have n16_ := Aside0.mk ((by rw [hg]; exact Nat.ne_of_gt (blk_lt (g := gb383) (o := .cells #[.slice none 0 0, .int .i64 x384001_2] 49 (0, 0)) (by (with_reducible repeat (first | refine blk_drewN ?_ _ | refine blk_drew ?_ | refine blk_alloc ?_ _)); exact BK383.out)) : gb399 ≠ gb383)); have n17_ := Aside0.mk ((by rw [hg]; exact Nat.ne_of_lt (blk_lt (g := gb384) (o := .cells #[.string x385000_2, .int .i64 x385001_2] 23 (0, 0)) (by (with_reducible repeat (first | refine blk_drewN ?_ _ | refine blk_drew ?_ | refine blk_alloc ?_ _)); exact BK384.out)) : gb384 ≠ gb399)); have n18_ := Aside0.mk ((by rw [hg]; exact Nat.ne_of_gt (blk_lt (g := gb384) (o := .cells #[.string x385000_2, .int .i64 x385001_2] 23 (0, 0)) (by (with_reducible repeat (first | refine blk_drewN ?_ _ | refine blk_drew ?_ | refine blk_alloc ?_ _)); exact BK384.out)) : gb399 ≠ gb384)); clear HO_43; clear HO_382000; clear HO395; clear BK381; clear BK382; clear BK383; clear BK384; clear HB; have HO_43 := n0_; have HO_382000 := n1_; have HO395 := n2_; have BK381 := n3_; have BK382 := n4_; have BK383 := n5_; have BK384 := n6_; have HB := n7_; have BK399 := n8_; have GW399 := n9_; have GE399 := n10_; have NB381_399 := n11_; have NB399_381 := n12_; have NB382_399 := n13_; have NB399_382 := n14_; have NB383_399 := n15_; have NB399_383 := n16_; have NB384_399 := n17_; have NB399_384 := n18_; clear n0_ n1_ n2_ n3_ n4_ n5_ n6_ n7_ n8_ n9_ n10_ n11_ n12_ n13_ n14_ n15_ n16_ n17_ n18_; clear hb hbox hg; have hnb76 := NB399_381.out; have hnc76 := NB381_399.out; have hnb77 := NB399_382.out; have hnc77 := NB382_399.out; have hnb78 := NB399_383.out; have hnc78 := NB383_399.out; have hnb79 := NB399_384.out; have hnc79 := NB384_399.out; have hcz80_0 : w75.cell? ⟨gb399, 0, none⟩ = some (.string (⟨#[]⟩ : ByteArray)) := (blk_cell BK399.out 0).trans rfl; have hcz80_1 : w75.cell? ⟨gb399, 1, none⟩ = some (.int .i64 0) := (blk_cell BK399.out 1).trans rfl; have hfz80_0 := blk_frozen BK399.out 0; have hfz80_1 := blk_frozen BK399.out 1))
                        have n0_ : Aside0 (Kd.V (Kd.int .i64) 3 ((w75.setCell ⟨gb399, 0, none⟩ (.string t396)).setCell ⟨gb399, 1, none⟩ (.int .i64 t397)) w.heap.size (fun k_ => (P0_0_ k_ ∨ w.heap.size ≤ k_) ∧ some k_ ≠ (v394 : Value).ownBlock ∧ k_ ≠ gb381 ∧ k_ ≠ gb382 ∧ k_ ≠ gb383 ∧ k_ ≠ gb384 ∧ k_ ≠ gb399) (.slice A53 y388.length c53) y388) := ⟨by (with_reducible repeat (first | apply Kd.V_alloc | apply Kd.V_drewN | apply Kd.V_drew)); exact Kd.V_mono (Kd.V_far (p := ⟨gb399, 1, none⟩) (Kd.V_far (p := ⟨gb399, 0, none⟩) (Kd.V_mono HO_43.out (fun k_ hk => (⟨hk, hk.2⟩ : _ ∧ k_ ≠ gb399))) (fun _ hk => hk.2) (.string t396)) (fun _ hk => hk.2) (.int .i64 t397)) (fun _ hk => ⟨hk.1.1.1.1, ⟨hk.1.1.2, ⟨hk.1.1.1.2.1, ⟨hk.1.1.1.2.2.1, ⟨hk.1.1.1.2.2.2.1, ⟨hk.1.1.1.2.2.2.2, hk.1.2⟩⟩⟩⟩⟩⟩)⟩
                        have n1_ : Aside0 (Kd.V (Kd.int .i64) 3 ((w75.setCell ⟨gb399, 0, none⟩ (.string t396)).setCell ⟨gb399, 1, none⟩ (.int .i64 t397)) w.heap.size (fun k_ => (P0_0_ k_ ∨ w.heap.size ≤ k_) ∧ some k_ ≠ (v394 : Value).ownBlock ∧ k_ ≠ gb381 ∧ k_ ≠ gb382 ∧ k_ ≠ gb383 ∧ k_ ≠ gb384 ∧ k_ ≠ gb399) (.slice A0_0 l0_0.length c0_0) l0_0) := ⟨by (with_reducible repeat (first | apply Kd.V_alloc | apply Kd.V_drewN | apply Kd.V_drew)); exact Kd.V_mono (Kd.V_far (p := ⟨gb399, 1, none⟩) (Kd.V_far (p := ⟨gb399, 0, none⟩) (Kd.V_mono HO_382000.out (fun k_ hk => (⟨hk, hk.2⟩ : _ ∧ k_ ≠ gb399))) (fun _ hk => hk.2) (.string t396)) (fun _ hk => hk.2) (.int .i64 t397)) (fun _ hk => ⟨hk.1.1.1.1, ⟨hk.1.1.2, ⟨hk.1.1.1.2.1, ⟨hk.1.1.1.2.2.1, ⟨hk.1.1.1.2.2.2.1, ⟨hk.1.1.1.2.2.2.2, hk.1.2⟩⟩⟩⟩⟩⟩)⟩
                        have n2_ : Aside0 (Kd.R (Kd.int .i64) 3 ((w75.setCell ⟨gb399, 0, none⟩ (.string t396)).setCell ⟨gb399, 1, none⟩ (.int .i64 t397)) w.heap.size (fun k_ => (w.heap.size ≤ k_)) v394 t393) := ⟨by (with_reducible repeat (first | apply Kd.R_alloc | apply Kd.R_drewN | apply Kd.R_drew)); exact Kd.R_mono (Kd.R_far (p := ⟨gb399, 1, none⟩) (Kd.R_far (p := ⟨gb399, 0, none⟩) (Kd.R_types HO395.out BK399.out (by decide)) (fun _ hk => hk.2) (.string t396)) (fun _ hk => hk.2) (.int .i64 t397)) (fun _ hk => hk.1.1)⟩
                        have n3_ : Aside0 (((w75.setCell ⟨gb399, 0, none⟩ (.string t396)).setCell ⟨gb399, 1, none⟩ (.int .i64 t397)).heap[gb381]? = some (.cells #[.slice A0_0 l0_0.length c0_0, .int .i64 a0_1] 49 (0, 0))) := ⟨by (with_reducible repeat (first | refine blk_drewN ?_ _ | refine blk_drew ?_ | refine blk_alloc ?_ _)); refine blk_far ?_ NB381_399.out _; (with_reducible repeat (first | refine blk_drewN ?_ _ | refine blk_drew ?_ | refine blk_alloc ?_ _)); refine blk_far ?_ NB381_399.out _; (with_reducible repeat (first | refine blk_drewN ?_ _ | refine blk_drew ?_ | refine blk_alloc ?_ _)); exact BK381.out⟩
                        have n4_ : Aside0 (((w75.setCell ⟨gb399, 0, none⟩ (.string t396)).setCell ⟨gb399, 1, none⟩ (.int .i64 t397)).heap[gb382]? = some (.cells #[.string a1_0, .int .i64 a1_1] 23 (0, 0))) := ⟨by (with_reducible repeat (first | refine blk_drewN ?_ _ | refine blk_drew ?_ | refine blk_alloc ?_ _)); refine blk_far ?_ NB382_399.out _; (with_reducible repeat (first | refine blk_drewN ?_ _ | refine blk_drew ?_ | refine blk_alloc ?_ _)); refine blk_far ?_ NB382_399.out _; (with_reducible repeat (first | refine blk_drewN ?_ _ | refine blk_drew ?_ | refine blk_alloc ?_ _)); exact BK382.out⟩
                        have n5_ : Aside0 (((w75.setCell ⟨gb399, 0, none⟩ (.string t396)).setCell ⟨gb399, 1, none⟩ (.int .i64 t397)).heap[gb383]? = some (.cells #[.slice none 0 0, .int .i64 x384001_2] 49 (0, 0))) := ⟨by (with_reducible repeat (first | refine blk_drewN ?_ _ | refine blk_drew ?_ | refine blk_alloc ?_ _)); refine blk_far ?_ NB383_399.out _; (with_reducible repeat (first | refine blk_drewN ?_ _ | refine blk_drew ?_ | refine blk_alloc ?_ _)); refine blk_far ?_ NB383_399.out _; (with_reducible repeat (first | refine blk_drewN ?_ _ | refine blk_drew ?_ | refine blk_alloc ?_ _)); exact BK383.out⟩
                        have n6_ : Aside0 (((w75.setCell ⟨gb399, 0, none⟩ (.string t396)).setCell ⟨gb399, 1, none⟩ (.int .i64 t397)).heap[gb384]? = some (.cells #[.string x385000_2, .int .i64 x385001_2] 23 (0, 0))) := ⟨by (with_reducible repeat (first | refine blk_drewN ?_ _ | refine blk_drew ?_ | refine blk_alloc ?_ _)); refine blk_far ?_ NB384_399.out _; (with_reducible repeat (first | refine blk_drewN ?_ _ | refine blk_drew ?_ | refine blk_alloc ?_ _)); refine blk_far ?_ NB384_399.out _; (with_reducible repeat (first | refine blk_drewN ?_ _ | refine blk_drew ?_ | refine blk_alloc ?_ _)); exact BK384.out⟩
                        have n7_ : Aside0 (((w75.setCell ⟨gb399, 0, none⟩ (.string t396)).setCell ⟨gb399, 1, none⟩ (.int .i64 t397)).heap[gb399]? = some (.cells #[.string t396, .int .i64 t397] 23 (0, 0))) := ⟨by (with_reducible repeat (first | refine blk_drewN ?_ _ | refine blk_drew ?_ | refine blk_alloc ?_ _)); refine blk_put (cs := #[.string t396, .int .i64 0]) ?_ 1 _ rfl; (with_reducible repeat (first | refine blk_drewN ?_ _ | refine blk_drew ?_ | refine blk_alloc ?_ _)); refine blk_put (cs := #[.string (⟨#[]⟩ : ByteArray), .int .i64 0]) ?_ 0 _ rfl; (with_reducible repeat (first | refine blk_drewN ?_ _ | refine blk_drew ?_ | refine blk_alloc ?_ _)); exact BK399.out⟩
                        have n8_ : Aside0 (Below w.heap.size w ((w75.setCell ⟨gb399, 0, none⟩ (.string t396)).setCell ⟨gb399, 1, none⟩ (.int .i64 t397))) := ⟨by repeat (first | (with_reducible first | exact HB.out | apply below_alloc | apply pw_below_drewN | apply below_drew1 | refine below_set ?_ GE381.out | refine below_set ?_ GE382.out | refine below_set ?_ GE383.out | refine below_set ?_ GE384.out | refine below_set ?_ GE399.out) | exact HB.out)⟩
                        (try clear HO_43)
                        (try clear HO_382000)
                        (try clear HO395)
                        (try clear BK381)
                        (try clear BK382)
                        (try clear BK383)
                        (try clear BK384)
                        (try clear BK399)
                        (try clear HB)
                        generalize ((w75.setCell ⟨gb399, 0, none⟩ (.string t396)).setCell ⟨gb399, 1, none⟩ (.int .i64 t397)) = w81 at n0_ n1_ n2_ n3_ n4_ n5_ n6_ n7_ n8_ ⊢
                        have HO_43 := n0_
                        have HO_382000 := n1_
                        have HO395 := n2_
                        have BK381 := n3_
                        have BK382 := n4_
                        have BK383 := n5_
                        have BK384 := n6_
                        have BK399 := n7_
                        have HB := n8_
                        clear n0_ n1_ n2_ n3_ n4_ n5_ n6_ n7_ n8_
                        have n0_ := Aside0.mk (Kd.V_drew HO_43.out)
                        have n1_ := Aside0.mk (Kd.V_drew HO_382000.out)
                        have n2_ := Aside0.mk (Kd.R_drew HO395.out)
                        have n3_ := Aside0.mk (blk_drew BK381.out)
                        have n4_ := Aside0.mk (blk_drew BK382.out)
                        have n5_ := Aside0.mk (blk_drew BK383.out)
                        have n6_ := Aside0.mk (blk_drew BK384.out)
                        have n7_ := Aside0.mk (blk_drew BK399.out)
                        have n8_ := Aside0.mk (below_drew1 HB.out)
                        clear HO_43
                        clear HO_382000
                        clear HO395
                        clear BK381
                        clear BK382
                        clear BK383
                        clear BK384
                        clear BK399
                        clear HB
                        have HO_43 := n0_
                        have HO_382000 := n1_
                        have HO395 := n2_
                        have BK381 := n3_
                        have BK382 := n4_
                        have BK383 := n5_
                        have BK384 := n6_
                        have BK399 := n7_
                        have HB := n8_
                        clear n0_ n1_ n2_ n3_ n4_ n5_ n6_ n7_ n8_
                        obtain ⟨Ao83, co83, eo83⟩ := Kd.R_slice HO395.out
                        (first | subst eo83 | (injection eo83 with f1_ f2_ f3_; have f4_ := f1_.symm; have f5_ := f3_.symm; clear f1_ f2_ f3_; subst f4_; subst f5_))
                        have p400 : 0 ≤ (0 : Int) := (by omega)
                        have q400 : 0 < (t393.length : Int) := of_decide_eq_true (by first | (with_reducible assumption) | assumption)
                        obtain ⟨ad400, e400, hx400_0⟩ := Kd.at_int (Kd.R_reads' HO395.out).2.2 0 p400 q400
                        cases e400
                        have qi400 : (0 < t393.length) = True := eq_true (by omega)
                        (try rw [show ((0 : Int)).toNat = 0 from rfl] at hx400_0)
                        (try rw [Addr.add_zero'] at hx400_0)
                        replace p400 := eq_true p400
                        replace q400 := eq_true q400
                        refine start_ (n := 10) (S := fun w' => w'.cell? ⟨gb399, 0, none⟩ = some (.string t396) ∧ w'.cell? ⟨gb399, 1, none⟩ = some (.int .i64 t397) ∧ w'.cell? ad400 = some (.int .i64 (rd t393 0))) (ds := []) #[false, false, false, false, false, false, false, false, false, false] (by kernel_rfl) rfl rfl ⟨(blk_cell BK399.out 0).trans rfl, (blk_cell BK399.out 1).trans rfl, hx400_0⟩ (fun hHeld => ?_); refine with_tabW turn_Next.tab15 turn_Next.bits15 (fun HT_ HW_ => ?_)
                        generalize w81.drew = w82 at HO_43 HO_382000 HO395 BK381 BK382 BK383 BK384 BK399 HB hx400_0 hHeld ⊢
                        refine pure_ (i := 0) (N := some 81) (v := ?_) (a' := ?_) #[true, false, false, false, false, false, false, false, false, false] rfl rfl (any_of HT_.out (by kernel_rfl)) (fun _ _ _ h => h) (Or.inl ⟨by rfl, ?_⟩) ?_ ?_
                        rotate_left
                        · intro w'
                          go_simp
                          with_reducible rfl
                        rotate_left
                        · simp only [Act.put, List.setIfInBounds_toArray, List.set_cons_zero, List.set_cons_succ, i64_w, i32_w]
                          rfl
                        refine pure_ (i := 1) (N := some 82) (v := ?_) (a' := ?_) #[true, true, false, false, false, false, false, false, false, false] rfl rfl (any_of HT_.out (by kernel_rfl)) (fun _ _ _ h => h) (Or.inl ⟨by rfl, ?_⟩) ?_ ?_
                        rotate_left
                        · intro w'
                          go_simp
                          with_reducible rfl
                        rotate_left
                        · simp only [Act.put, List.setIfInBounds_toArray, List.set_cons_zero, List.set_cons_succ, i64_w, i32_w]
                          rfl
                        refine pure_ (i := 3) (N := some 84) (v := ?_) (a' := ?_) #[true, true, false, true, false, false, false, false, false, false] rfl rfl (any_of HT_.out (by kernel_rfl)) (fun _ _ _ h => h) (Or.inl ⟨by rfl, ?_⟩) ?_ ?_
                        rotate_left
                        · intro w'
                          go_simp
                          with_reducible rfl
                        rotate_left
                        · simp only [Act.put, List.setIfInBounds_toArray, List.set_cons_zero, List.set_cons_succ, i64_w, i32_w]
                          rfl
                        refine pure_ (i := 4) (N := some 85) (v := ?_) (a' := ?_) #[true, true, false, true, true, false, false, false, false, false] rfl rfl (any_of HT_.out (by kernel_rfl)) (fun _ _ _ h => h) (Or.inl ⟨by rfl, ?_⟩) ?_ ?_
                        rotate_left
                        · intro w'
                          go_simp
                          with_reducible rfl
                        rotate_left
                        · simp only [Act.put, List.setIfInBounds_toArray, List.set_cons_zero, List.set_cons_succ, i64_w, i32_w]
                          rfl
                        refine take_ (i := 2) (N := some 83) (v := ?_) (a' := ?_) #[true, true, true, true, true, false, false, false, false, false] rfl rfl (take_ofW HT_.out HW_.out (by kernel_rfl)) (fun _ _ _ h => h) (Or.inl ⟨by rfl, ?_⟩) hHeld ?_ ?_
                        rotate_left
                        · rintro w' ⟨s0, s1, s2⟩
                          go_simp
                          with_reducible rfl
                        rotate_left
                        · simp only [Act.put, List.setIfInBounds_toArray, List.set_cons_zero, List.set_cons_succ, i64_w, i32_w]
                          rfl
                        refine pure_ (i := 6) (N := some 6) (v := ?_) (a' := ?_) #[true, true, true, true, true, false, true, false, false, false] rfl rfl (any_of HT_.out (by kernel_rfl)) (fun _ _ _ h => h) (Or.inl ⟨by rfl, ?_⟩) ?_ ?_
                        rotate_left
                        · intro w'
                          go_simp
                          with_reducible rfl
                        rotate_left
                        · simp only [Act.put, List.setIfInBounds_toArray, List.set_cons_zero, List.set_cons_succ, i64_w, i32_w]
                          rfl
                        refine take_ (i := 5) (N := some 86) (v := ?_) (a' := ?_) #[true, true, true, true, true, true, true, false, false, false] rfl rfl (take_ofW HT_.out HW_.out (by kernel_rfl)) (fun _ _ _ h => h) (Or.inl ⟨by rfl, ?_⟩) hHeld ?_ ?_
                        rotate_left
                        · rintro w' ⟨s0, s1, s2⟩
                          go_simp
                          with_reducible rfl
                        rotate_left
                        · simp only [Act.put, List.setIfInBounds_toArray, List.set_cons_zero, List.set_cons_succ, i64_w, i32_w]
                          rfl
                        refine one_ (i := 7) (N := none) #[true, true, true, true, true, true, true, true, false, false] rfl rfl (one_of HT_.out (by kernel_rfl)) (by decide) (fun K hK => ?_)
                        have hs84 : w82.cell? ⟨gb383, 0, none⟩ = some (.slice none 0 0) := (blk_cell BK383.out 0).trans rfl
                        have hfs84 := blk_frozen BK383.out 0
                        have hns84_0 := NB381_383.out
                        have hns84_1 := NB382_383.out
                        have hns84_3 := NB384_383.out
                        have hns84_4 := NB399_383.out
                        have hms84_0 := NB383_381.out
                        have hms84_1 := NB383_382.out
                        have hms84_3 := NB383_384.out
                        have hms84_4 := NB383_399.out
                        have hs85 : w82.cell? ⟨gb383, 1, none⟩ = some (.int .i64 x384001_2) := (blk_cell BK383.out 1).trans rfl
                        have hfs85 := blk_frozen BK383.out 1
                        have hns85_0 := NB381_383.out
                        have hns85_1 := NB382_383.out
                        have hns85_3 := NB384_383.out
                        have hns85_4 := NB399_383.out
                        have hms85_0 := NB383_381.out
                        have hms85_1 := NB383_382.out
                        have hms85_3 := NB383_384.out
                        have hms85_4 := NB383_399.out
                        refine skip_ (w1 := ?_) (by rfl) rfl ?_ ?_
                        rotate_left
                        · go_simp
                          rfl
                        refine hK.out _ _ ⟨((cell_far (p := ⟨gb383, _, none⟩) NB399_383.out _).trans (((cell_far (p := ⟨gb383, _, none⟩) NB399_383.out _).trans (hHeld.1)))), ((cell_far (p := ⟨gb383, _, none⟩) NB399_383.out _).trans (((cell_far (p := ⟨gb383, _, none⟩) NB399_383.out _).trans (hHeld.2.1)))), ((cell_far (p := ⟨gb383, _, none⟩) (by first | exact Kd.own_blk (Kd.R_ne HO395.out BK383.out (by decide)) | (rw [add_block]; exact Kd.own_blk (Kd.R_ne HO395.out BK383.out (by decide))) | (show (Addr.add _ _).block ≠ _; rw [add_block]; exact Kd.own_blk (Kd.R_ne HO395.out BK383.out (by decide))) | (dsimp only; exact Kd.own_blk (Kd.R_ne HO395.out BK383.out (by decide)))) _).trans (((cell_far (p := ⟨gb383, _, none⟩) (by first | exact Kd.own_blk (Kd.R_ne HO395.out BK383.out (by decide)) | (rw [add_block]; exact Kd.own_blk (Kd.R_ne HO395.out BK383.out (by decide))) | (show (Addr.add _ _).block ≠ _; rw [add_block]; exact Kd.own_blk (Kd.R_ne HO395.out BK383.out (by decide))) | (dsimp only; exact Kd.own_blk (Kd.R_ne HO395.out BK383.out (by decide)))) _).trans (hHeld.2.2))))⟩ (fun hHeld => ?_)
                        clear hK K
                        refine one_ (i := 8) (N := none) #[true, true, true, true, true, true, true, true, true, false] rfl rfl (one_of HT_.out (by kernel_rfl)) (by decide) (fun K hK => ?_)
                        have hs86 : w82.cell? ⟨gb384, 0, none⟩ = some (.string x385000_2) := (blk_cell BK384.out 0).trans rfl
                        have hfs86 := blk_frozen BK384.out 0
                        have hns86_0 := NB381_384.out
                        have hns86_1 := NB382_384.out
                        have hns86_2 := NB383_384.out
                        have hns86_4 := NB399_384.out
                        have hms86_0 := NB384_381.out
                        have hms86_1 := NB384_382.out
                        have hms86_2 := NB384_383.out
                        have hms86_4 := NB384_399.out
                        have hs87 : w82.cell? ⟨gb384, 1, none⟩ = some (.int .i64 x385001_2) := (blk_cell BK384.out 1).trans rfl
                        have hfs87 := blk_frozen BK384.out 1
                        have hns87_0 := NB381_384.out
                        have hns87_1 := NB382_384.out
                        have hns87_2 := NB383_384.out
                        have hns87_4 := NB399_384.out
                        have hms87_0 := NB384_381.out
                        have hms87_1 := NB384_382.out
                        have hms87_2 := NB384_383.out
                        have hms87_4 := NB384_399.out
                        refine skip_ (w1 := ?_) (by rfl) rfl ?_ ?_
                        rotate_left
                        · go_simp
                          rfl
                        refine hK.out _ _ ⟨((cell_far (p := ⟨gb384, _, none⟩) NB399_384.out _).trans (((cell_far (p := ⟨gb384, _, none⟩) NB399_384.out _).trans (hHeld.1)))), ((cell_far (p := ⟨gb384, _, none⟩) NB399_384.out _).trans (((cell_far (p := ⟨gb384, _, none⟩) NB399_384.out _).trans (hHeld.2.1)))), ((cell_far (p := ⟨gb384, _, none⟩) (by first | exact Kd.own_blk (Kd.R_ne HO395.out BK384.out (by decide)) | (rw [add_block]; exact Kd.own_blk (Kd.R_ne HO395.out BK384.out (by decide))) | (show (Addr.add _ _).block ≠ _; rw [add_block]; exact Kd.own_blk (Kd.R_ne HO395.out BK384.out (by decide))) | (dsimp only; exact Kd.own_blk (Kd.R_ne HO395.out BK384.out (by decide)))) _).trans (((cell_far (p := ⟨gb384, _, none⟩) (by first | exact Kd.own_blk (Kd.R_ne HO395.out BK384.out (by decide)) | (rw [add_block]; exact Kd.own_blk (Kd.R_ne HO395.out BK384.out (by decide))) | (show (Addr.add _ _).block ≠ _; rw [add_block]; exact Kd.own_blk (Kd.R_ne HO395.out BK384.out (by decide))) | (dsimp only; exact Kd.own_blk (Kd.R_ne HO395.out BK384.out (by decide)))) _).trans (hHeld.2.2))))⟩ (fun hHeld => ?_)
                        clear hK K
                        refine pure_ (i := 9) (N := some 9) (v := ?_) (a' := ?_) #[true, true, true, true, true, true, true, true, true, true] rfl rfl (any_of HT_.out (by kernel_rfl)) (fun _ _ _ h => h) (Or.inl ⟨by rfl, ?_⟩) ?_ ?_
                        rotate_left
                        · intro w'
                          go_simp
                          with_reducible rfl
                        rotate_left
                        · simp only [Act.put, List.setIfInBounds_toArray, List.set_cons_zero, List.set_cons_succ, i64_w, i32_w]
                          rfl
                        refine done_ (done_of HT_.out (by kernel_rfl)) ?_
                        try go_wp2
                        refine bodyPost_ret (results_list (rs := [.tmp 6, .cell 7 49, .cell 8 23, .tmp 9]) rfl (by simp) (.tmp (.cell gb383 49 #[.slice (some ad400) t393.length co83, .int .i64 1] (0, 0) _ rfl (by (with_reducible repeat (first | refine blk_drewN ?_ _ | refine blk_drew ?_ | refine blk_alloc ?_ _)); refine blk_far ?_ NB383_384.out _; (with_reducible repeat (first | refine blk_drewN ?_ _ | refine blk_drew ?_ | refine blk_alloc ?_ _)); refine blk_far ?_ NB383_384.out _; (with_reducible repeat (first | refine blk_drewN ?_ _ | refine blk_drew ?_ | refine blk_alloc ?_ _)); refine blk_put (cs := #[.slice (some ad400) t393.length co83, .int .i64 x384001_2]) ?_ 1 _ rfl; (with_reducible repeat (first | refine blk_drewN ?_ _ | refine blk_drew ?_ | refine blk_alloc ?_ _)); refine blk_put (cs := #[.slice none 0 0, .int .i64 x384001_2]) ?_ 0 _ rfl; (with_reducible repeat (first | refine blk_drewN ?_ _ | refine blk_drew ?_ | refine blk_alloc ?_ _)); exact BK383.out) Try.underlying49 rfl (by kernel_rfl) (.cell gb384 23 #[.string t396, .int .i64 t397] (0, 0) _ rfl (by (with_reducible repeat (first | refine blk_drewN ?_ _ | refine blk_drew ?_ | refine blk_alloc ?_ _)); refine blk_put (cs := #[.string t396, .int .i64 x385001_2]) ?_ 1 _ rfl; (with_reducible repeat (first | refine blk_drewN ?_ _ | refine blk_drew ?_ | refine blk_alloc ?_ _)); refine blk_put (cs := #[.string x385000_2, .int .i64 x385001_2]) ?_ 0 _ rfl; (with_reducible repeat (first | refine blk_drewN ?_ _ | refine blk_drew ?_ | refine blk_alloc ?_ _)); refine blk_far ?_ NB384_383.out _; (with_reducible repeat (first | refine blk_drewN ?_ _ | refine blk_drew ?_ | refine blk_alloc ?_ _)); refine blk_far ?_ NB384_383.out _; (with_reducible repeat (first | refine blk_drewN ?_ _ | refine blk_drew ?_ | refine blk_alloc ?_ _)); exact BK384.out) Try.underlying23 rfl (by kernel_rfl) (.tmp .nil))))) rfl ?_
                        exact ⟨_, by first | rfl | (simp [errW_none, errW_some] <;> rfl) | (simp [*, errW_none, errW_some] <;> rfl), Kd.V_mono (Kd.R_V (by (with_reducible repeat (first | apply Kd.R_alloc | apply Kd.R_drewN | apply Kd.R_drew)); exact Kd.R_mono (Kd.R_far (p := ⟨gb384, 1, none⟩) (Kd.R_far (p := ⟨gb384, 0, none⟩) (Kd.R_far (p := ⟨gb383, 1, none⟩) (Kd.R_far (p := ⟨gb383, 0, none⟩) (Kd.R_types (Kd.R_types HO395.out BK383.out (by decide)) BK384.out (by decide)) (fun _ hk => hk.1.2) (.slice (some ad400) t393.length co83)) (fun _ hk => hk.1.2) (.int .i64 1)) (fun _ hk => hk.2) (.string t396)) (fun _ hk => hk.2) (.int .i64 t397)) (fun _ hk => hk.1.1))) (fun k_ hk => by first | exact ⟨(.inr (hk.1)), hk.2⟩ | exact (.inr (hk))), by repeat (first | (with_reducible first | exact HB.out | apply below_alloc | apply pw_below_drewN | apply below_drew1 | refine below_set ?_ GE381.out | refine below_set ?_ GE382.out | refine below_set ?_ GE383.out | refine below_set ?_ GE384.out | refine below_set ?_ GE399.out) | exact HB.out)⟩
                      · rw [if_neg c69] at H
                        exact absurd H (by simp)
                    · rw [if_neg c68] at H
                      have c68b0 : (t398 == 0) = false := beq_eq_false_iff_ne.mpr c68
                      have c68b1 : (t398 != 0) = true := bne_iff_ne.mpr c68
                      simp only [Option.some.injEq, Prod.mk.injEq] at H
                      obtain ⟨rfl, rfl, rfl, rfl, rfl, rfl⟩ := H
                      have hnb88 := NB382_381.out
                      have hnc88 := NB381_382.out
                      have hnb89 := NB382_383.out
                      have hnc89 := NB383_382.out
                      have hnb90 := NB382_384.out
                      have hnc90 := NB384_382.out
                      have hcz91_0 : wr.cell? ⟨gb382, 0, none⟩ = some (.string a1_0) := (blk_cell BK382.out 0).trans rfl
                      have hcz91_1 : wr.cell? ⟨gb382, 1, none⟩ = some (.int .i64 a1_1) := (blk_cell BK382.out 1).trans rfl
                      have hfz91_0 := blk_frozen BK382.out 0
                      have hfz91_1 := blk_frozen BK382.out 1
                      try go_wp2_with (first | ((with_reducible refine gate_callee (f := 20) rfl ?_); refine goesL_ (some 72) rfl rfl Try.func20 (by kernel_rfl) rfl #[.agg #[.string a1_0, .int .i64 a1_1], .slice A2 l2.length c2] rfl (by (try simp only [List.map_toArray, List.map_cons, List.map_nil]); first | done | rfl | (simp only [List.length_drop, List.length_take]; rfl)) ?_; (with_reducible refine (dice_Shuffle.calls a1_0 a1_1 _ _ l2 t393 t396 t397 t398 _ ?side1 ?side2 A67.out).mono ?_); (case side1 => repeat (first | exact (Kd.C_below HR2.out HB.out) | (with_reducible refine Kd.C_alloc ?_ _) | (with_reducible refine Kd.C_drewN ?_ _) | (with_reducible refine Kd.C_drew ?_))); (case side2 => exact HC2.out); rintro e w92 ⟨v394, rfl, ho0, hb⟩; refine ⟨_, rfl, ?_⟩; have n0_ := Aside0.mk (Kd.V_elder' (by (with_reducible repeat (first | apply Kd.V_alloc | apply Kd.V_drewN | apply Kd.V_drew)); exact HO_43.out) (Kd.R_base ho0) hb); have n1_ := Aside0.mk (Kd.V_elder' (by (with_reducible repeat (first | apply Kd.V_alloc | apply Kd.V_drewN | apply Kd.V_drew)); exact HO_382000.out) (Kd.R_base ho0) hb); have n2_ := Aside0.mk (Kd.R_lower (Kd.R_newM (M := fun k_ => (w.heap.size ≤ k_)) ho0 (below_size (by repeat (first | (with_reducible first | exact HB.out | apply below_alloc | apply pw_below_drewN | apply below_drew1 | refine below_set ?_ GE381.out | refine below_set ?_ GE382.out | refine below_set ?_ GE383.out | refine below_set ?_ GE384.out) | exact HB.out))) (fun k_ h_ => h_)) (below_size (by repeat (first | (with_reducible first | exact HB.out | apply below_alloc | apply pw_below_drewN | apply below_drew1 | refine below_set ?_ GE381.out | refine below_set ?_ GE382.out | refine below_set ?_ GE383.out | refine below_set ?_ GE384.out) | exact HB.out)))); have n3_ := Aside0.mk (blk_below (g := gb381) (o := .cells #[.slice A0_0 l0_0.length c0_0, .int .i64 a0_1] 49 (0, 0)) (by (with_reducible repeat (first | refine blk_drewN ?_ _ | refine blk_drew ?_ | refine blk_alloc ?_ _)); exact BK381.out) hb); have n4_ := Aside0.mk (blk_below (g := gb382) (o := .cells #[.string a1_0, .int .i64 a1_1] 23 (0, 0)) (by (with_reducible repeat (first | refine blk_drewN ?_ _ | refine blk_drew ?_ | refine blk_alloc ?_ _)); exact BK382.out) hb); have n5_ := Aside0.mk (blk_below (g := gb383) (o := .cells #[.slice none 0 0, .int .i64 x384001_2] 49 (0, 0)) (by (with_reducible repeat (first | refine blk_drewN ?_ _ | refine blk_drew ?_ | refine blk_alloc ?_ _)); exact BK383.out) hb); have n6_ := Aside0.mk (blk_below (g := gb384) (o := .cells #[.string x385000_2, .int .i64 x385001_2] 23 (0, 0)) (by (with_reducible repeat (first | refine blk_drewN ?_ _ | refine blk_drew ?_ | refine blk_alloc ?_ _)); exact BK384.out) hb); have n7_ := Aside0.mk (below_step (by repeat (first | (with_reducible first | exact HB.out | apply below_alloc | apply pw_below_drewN | apply below_drew1 | refine below_set ?_ GE381.out | refine below_set ?_ GE382.out | refine below_set ?_ GE383.out | refine below_set ?_ GE384.out) | exact HB.out)) hb); clear HO_43; clear HO_382000; clear BK381; clear BK382; clear BK383; clear BK384; clear HB; have HO_43 := n0_; have HO_382000 := n1_; have HO395 := n2_; have BK381 := n3_; have BK382 := n4_; have BK383 := n5_; have BK384 := n6_; have HB := n7_; clear n0_ n1_ n2_ n3_ n4_ n5_ n6_ n7_; (try clear hb); (try clear hb2); (try clear hk); (try clear hi); (try clear ho0)) | ((with_reducible refine gate_dst (N := 15) rfl ?_); refine box_event ?hg (N := 15) ?hd (cs := #[.string (⟨#[]⟩ : ByteArray), .int .i64 0]) (t := 23) ?hr ?_; (case hd => rfl); (case hg => rfl); (case hr => first | (go_simp; done) | (go_simp; rfl)); intro gb399 hg w93 hbox hb; have n0_ := Aside0.mk (Kd.V_below (Kd.V_elderB (by (with_reducible repeat (first | apply Kd.V_alloc | apply Kd.V_drewN | apply Kd.V_drew)); exact HO_43.out) gb399 (Nat.le_of_eq hg.symm)) hb); have n1_ := Aside0.mk (Kd.V_below (Kd.V_elderB (by (with_reducible repeat (first | apply Kd.V_alloc | apply Kd.V_drewN | apply Kd.V_drew)); exact HO_382000.out) gb399 (Nat.le_of_eq hg.symm)) hb); have n2_ := Aside0.mk (Kd.R_below (by (with_reducible repeat (first | apply Kd.R_alloc | apply Kd.R_drewN | apply Kd.R_drew)); exact HO395.out) hb); have n3_ := Aside0.mk (blk_below (g := gb381) (o := .cells #[.slice A0_0 l0_0.length c0_0, .int .i64 a0_1] 49 (0, 0)) (by (with_reducible repeat (first | refine blk_drewN ?_ _ | refine blk_drew ?_ | refine blk_alloc ?_ _)); exact BK381.out) hb); have n4_ := Aside0.mk (blk_below (g := gb382) (o := .cells #[.string a1_0, .int .i64 a1_1] 23 (0, 0)) (by (with_reducible repeat (first | refine blk_drewN ?_ _ | refine blk_drew ?_ | refine blk_alloc ?_ _)); exact BK382.out) hb); have n5_ := Aside0.mk (blk_below (g := gb383) (o := .cells #[.slice none 0 0, .int .i64 x384001_2] 49 (0, 0)) (by (with_reducible repeat (first | refine blk_drewN ?_ _ | refine blk_drew ?_ | refine blk_alloc ?_ _)); exact BK383.out) hb); have n6_ := Aside0.mk (blk_below (g := gb384) (o := .cells #[.string x385000_2, .int .i64 x385001_2] 23 (0, 0)) (by (with_reducible repeat (first | refine blk_drewN ?_ _ | refine blk_drew ?_ | refine blk_alloc ?_ _)); exact BK384.out) hb); have n7_ := Aside0.mk (below_step (by repeat (first | (with_reducible first | exact HB.out | apply below_alloc | apply pw_below_drewN | apply below_drew1 | refine below_set ?_ GE381.out | refine below_set ?_ GE382.out | refine below_set ?_ GE383.out | refine below_set ?_ GE384.out) | exact HB.out)) hb); have n8_ := Aside0.mk (hbox); have n9_ := Aside0.mk ((by rw [hg]; exact (below_size (by repeat (first | (with_reducible first | exact HB.out | apply below_alloc | apply pw_below_drewN | apply below_drew1 | refine below_set ?_ GE381.out | refine below_set ?_ GE382.out | refine below_set ?_ GE383.out | refine below_set ?_ GE384.out) | exact HB.out))) : w.heap.size ≤ gb399)); have n10_ := Aside0.mk ((by rw [hg]; exact (below_size (by repeat (first | (with_reducible first | exact HB.out | apply below_alloc | apply pw_below_drewN | apply below_drew1 | refine below_set ?_ GE381.out | refine below_set ?_ GE382.out | refine below_set ?_ GE383.out | refine below_set ?_ GE384.out) | exact HB.out))) : w.heap.size ≤ gb399)); have n11_ := Aside0.mk ((by rw [hg]; exact Nat.ne_of_lt (blk_lt (g := gb381) (o := .cells #[.slice A0_0 l0_0.length c0_0, .int .i64 a0_1] 49 (0, 0)) (by (with_reducible repeat (first | refine blk_drewN ?_ _ | refine blk_drew ?_ | refine blk_alloc ?_ _)); exact BK381.out)) : gb381 ≠ gb399)); have n12_ := Aside0.mk ((by rw [hg]; exact Nat.ne_of_gt (blk_lt (g := gb381) (o := .cells #[.slice A0_0 l0_0.length c0_0, .int .i64 a0_1] 49 (0, 0)) (by (with_reducible repeat (first | refine blk_drewN ?_ _ | refine blk_drew ?_ | refine blk_alloc ?_ _)); exact BK381.out)) : gb399 ≠ gb381)); have n13_ := Aside0.mk ((by rw [hg]; exact Nat.ne_of_lt (blk_lt (g := gb382) (o := .cells #[.string a1_0, .int .i64 a1_1] 23 (0, 0)) (by (with_reducible repeat (first | refine blk_drewN ?_ _ | refine blk_drew ?_ | refine blk_alloc ?_ _)); exact BK382.out)) : gb382 ≠ gb399)); have n14_ := Aside0.mk ((by rw [hg]; exact Nat.ne_of_gt (blk_lt (g := gb382) (o := .cells #[.string a1_0, .int .i64 a1_1] 23 (0, 0)) (by (with_reducible repeat (first | refine blk_drewN ?_ _ | refine blk_drew ?_ | refine blk_alloc ?_ _)); exact BK382.out)) : gb399 ≠ gb382)); have n15_ := Aside0.mk ((by rw [hg]; exact Nat.ne_of_lt (blk_lt (g := gb383) (o := .cells #[.slice none 0 0, .int .i64 x384001_2] 49 (0, 0)) (by (with_reducible repeat (first | refine blk_drewN ?_ _ | refine blk_drew ?_ | refine blk_alloc ?_ _)); exact BK383.out)) : gb383 ≠ gb399)); have n16_ := Aside0.mk ((by rw [hg]; exact Nat.ne_of_gt (blk_lt (g := gb383) (o := .cells #[.slice none 0 0, .int .i64 x384001_2] 49 (0, 0)) (by (with_reducible repeat (first | refine blk_drewN ?_ _ | refine blk_drew ?_ | refine blk_alloc ?_ _)); exact BK383.out)) : gb399 ≠ gb383)); have n17_ := Aside0.mk ((by rw [hg]; exact Nat.ne_of_lt (blk_lt (g := gb384) (o := .cells #[.string x385000_2, .int .i64 x385001_2] 23 (0, 0)) (by (with_reducible repeat (first | refine blk_drewN ?_ _ | refine blk_drew ?_ | refine blk_alloc ?_ _)); exact BK384.out)) : gb384 ≠ gb399)); have n18_ := Aside0.mk ((by rw [hg]; exact Nat.ne_of_gt (blk_lt (g := gb384) (o := .cells #[.string x385000_2, .int .i64 x385001_2] 23 (0, 0)) (by (with_reducible repeat (first | refine blk_drewN ?_ _ | refine blk_drew ?_ | refine blk_alloc ?_ _)); exact BK384.out)) : gb399 ≠ gb384)); clear HO_43; clear HO_382000; clear HO395; clear BK381; clear BK382; clear BK383; clear BK384; clear HB; have HO_43 := n0_; have HO_382000 := n1_; have HO395 := n2_; have BK381 := n3_; have BK382 := n4_; have BK383 := n5_; have BK384 := n6_; have HB := n7_; have BK399 := n8_; have GW399 := n9_; have GE399 := n10_; have NB381_399 := n11_; have NB399_381 := n12_; have NB382_399 := n13_; have NB399_382 := n14_; have NB383_399 := n15_; have NB399_383 := n16_; have NB384_399 := n17_; have NB399_384 := n18_; clear n0_ n1_ n2_ n3_ n4_ n5_ n6_ n7_ n8_ n9_ n10_ n11_ n12_ n13_ n14_ n15_ n16_ n17_ n18_; clear hb hbox hg; have hnb94 := NB399_381.out; have hnc94 := NB381_399.out; have hnb95 := NB399_382.out; have hnc95 := NB382_399.out; have hnb96 := NB399_383.out; have hnc96 := NB383_399.out; have hnb97 := NB399_384.out; have hnc97 := NB384_399.out; have hcz98_0 : w93.cell? ⟨gb399, 0, none⟩ = some (.string (⟨#[]⟩ : ByteArray)) := (blk_cell BK399.out 0).trans rfl; have hcz98_1 : w93.cell? ⟨gb399, 1, none⟩ = some (.int .i64 0) := (blk_cell BK399.out 1).trans rfl; have hfz98_0 := blk_frozen BK399.out 0; have hfz98_1 := blk_frozen BK399.out 1))
                      have n0_ : Aside0 (Kd.V (Kd.int .i64) 3 ((w93.setCell ⟨gb399, 0, none⟩ (.string t396)).setCell ⟨gb399, 1, none⟩ (.int .i64 t397)) w.heap.size (fun k_ => (P0_0_ k_ ∨ w.heap.size ≤ k_) ∧ some k_ ≠ (v394 : Value).ownBlock ∧ k_ ≠ gb381 ∧ k_ ≠ gb382 ∧ k_ ≠ gb383 ∧ k_ ≠ gb384 ∧ k_ ≠ gb399) (.slice A53 y388.length c53) y388) := ⟨by (with_reducible repeat (first | apply Kd.V_alloc | apply Kd.V_drewN | apply Kd.V_drew)); exact Kd.V_mono (Kd.V_far (p := ⟨gb399, 1, none⟩) (Kd.V_far (p := ⟨gb399, 0, none⟩) (Kd.V_mono HO_43.out (fun k_ hk => (⟨hk, hk.2⟩ : _ ∧ k_ ≠ gb399))) (fun _ hk => hk.2) (.string t396)) (fun _ hk => hk.2) (.int .i64 t397)) (fun _ hk => ⟨hk.1.1.1.1, ⟨hk.1.1.2, ⟨hk.1.1.1.2.1, ⟨hk.1.1.1.2.2.1, ⟨hk.1.1.1.2.2.2.1, ⟨hk.1.1.1.2.2.2.2, hk.1.2⟩⟩⟩⟩⟩⟩)⟩
                      have n1_ : Aside0 (Kd.V (Kd.int .i64) 3 ((w93.setCell ⟨gb399, 0, none⟩ (.string t396)).setCell ⟨gb399, 1, none⟩ (.int .i64 t397)) w.heap.size (fun k_ => (P0_0_ k_ ∨ w.heap.size ≤ k_) ∧ some k_ ≠ (v394 : Value).ownBlock ∧ k_ ≠ gb381 ∧ k_ ≠ gb382 ∧ k_ ≠ gb383 ∧ k_ ≠ gb384 ∧ k_ ≠ gb399) (.slice A0_0 l0_0.length c0_0) l0_0) := ⟨by (with_reducible repeat (first | apply Kd.V_alloc | apply Kd.V_drewN | apply Kd.V_drew)); exact Kd.V_mono (Kd.V_far (p := ⟨gb399, 1, none⟩) (Kd.V_far (p := ⟨gb399, 0, none⟩) (Kd.V_mono HO_382000.out (fun k_ hk => (⟨hk, hk.2⟩ : _ ∧ k_ ≠ gb399))) (fun _ hk => hk.2) (.string t396)) (fun _ hk => hk.2) (.int .i64 t397)) (fun _ hk => ⟨hk.1.1.1.1, ⟨hk.1.1.2, ⟨hk.1.1.1.2.1, ⟨hk.1.1.1.2.2.1, ⟨hk.1.1.1.2.2.2.1, ⟨hk.1.1.1.2.2.2.2, hk.1.2⟩⟩⟩⟩⟩⟩)⟩
                      have n2_ : Aside0 (Kd.R (Kd.int .i64) 3 ((w93.setCell ⟨gb399, 0, none⟩ (.string t396)).setCell ⟨gb399, 1, none⟩ (.int .i64 t397)) w.heap.size (fun k_ => (w.heap.size ≤ k_)) v394 t393) := ⟨by (with_reducible repeat (first | apply Kd.R_alloc | apply Kd.R_drewN | apply Kd.R_drew)); exact Kd.R_mono (Kd.R_far (p := ⟨gb399, 1, none⟩) (Kd.R_far (p := ⟨gb399, 0, none⟩) (Kd.R_types HO395.out BK399.out (by decide)) (fun _ hk => hk.2) (.string t396)) (fun _ hk => hk.2) (.int .i64 t397)) (fun _ hk => hk.1.1)⟩
                      have n3_ : Aside0 (((w93.setCell ⟨gb399, 0, none⟩ (.string t396)).setCell ⟨gb399, 1, none⟩ (.int .i64 t397)).heap[gb381]? = some (.cells #[.slice A0_0 l0_0.length c0_0, .int .i64 a0_1] 49 (0, 0))) := ⟨by (with_reducible repeat (first | refine blk_drewN ?_ _ | refine blk_drew ?_ | refine blk_alloc ?_ _)); refine blk_far ?_ NB381_399.out _; (with_reducible repeat (first | refine blk_drewN ?_ _ | refine blk_drew ?_ | refine blk_alloc ?_ _)); refine blk_far ?_ NB381_399.out _; (with_reducible repeat (first | refine blk_drewN ?_ _ | refine blk_drew ?_ | refine blk_alloc ?_ _)); exact BK381.out⟩
                      have n4_ : Aside0 (((w93.setCell ⟨gb399, 0, none⟩ (.string t396)).setCell ⟨gb399, 1, none⟩ (.int .i64 t397)).heap[gb382]? = some (.cells #[.string a1_0, .int .i64 a1_1] 23 (0, 0))) := ⟨by (with_reducible repeat (first | refine blk_drewN ?_ _ | refine blk_drew ?_ | refine blk_alloc ?_ _)); refine blk_far ?_ NB382_399.out _; (with_reducible repeat (first | refine blk_drewN ?_ _ | refine blk_drew ?_ | refine blk_alloc ?_ _)); refine blk_far ?_ NB382_399.out _; (with_reducible repeat (first | refine blk_drewN ?_ _ | refine blk_drew ?_ | refine blk_alloc ?_ _)); exact BK382.out⟩
                      have n5_ : Aside0 (((w93.setCell ⟨gb399, 0, none⟩ (.string t396)).setCell ⟨gb399, 1, none⟩ (.int .i64 t397)).heap[gb383]? = some (.cells #[.slice none 0 0, .int .i64 x384001_2] 49 (0, 0))) := ⟨by (with_reducible repeat (first | refine blk_drewN ?_ _ | refine blk_drew ?_ | refine blk_alloc ?_ _)); refine blk_far ?_ NB383_399.out _; (with_reducible repeat (first | refine blk_drewN ?_ _ | refine blk_drew ?_ | refine blk_alloc ?_ _)); refine blk_far ?_ NB383_399.out _; (with_reducible repeat (first | refine blk_drewN ?_ _ | refine blk_drew ?_ | refine blk_alloc ?_ _)); exact BK383.out⟩
                      have n6_ : Aside0 (((w93.setCell ⟨gb399, 0, none⟩ (.string t396)).setCell ⟨gb399, 1, none⟩ (.int .i64 t397)).heap[gb384]? = some (.cells #[.string x385000_2, .int .i64 x385001_2] 23 (0, 0))) := ⟨by (with_reducible repeat (first | refine blk_drewN ?_ _ | refine blk_drew ?_ | refine blk_alloc ?_ _)); refine blk_far ?_ NB384_399.out _; (with_reducible repeat (first | refine blk_drewN ?_ _ | refine blk_drew ?_ | refine blk_alloc ?_ _)); refine blk_far ?_ NB384_399.out _; (with_reducible repeat (first | refine blk_drewN ?_ _ | refine blk_drew ?_ | refine blk_alloc ?_ _)); exact BK384.out⟩
                      have n7_ : Aside0 (((w93.setCell ⟨gb399, 0, none⟩ (.string t396)).setCell ⟨gb399, 1, none⟩ (.int .i64 t397)).heap[gb399]? = some (.cells #[.string t396, .int .i64 t397] 23 (0, 0))) := ⟨by (with_reducible repeat (first | refine blk_drewN ?_ _ | refine blk_drew ?_ | refine blk_alloc ?_ _)); refine blk_put (cs := #[.string t396, .int .i64 0]) ?_ 1 _ rfl; (with_reducible repeat (first | refine blk_drewN ?_ _ | refine blk_drew ?_ | refine blk_alloc ?_ _)); refine blk_put (cs := #[.string (⟨#[]⟩ : ByteArray), .int .i64 0]) ?_ 0 _ rfl; (with_reducible repeat (first | refine blk_drewN ?_ _ | refine blk_drew ?_ | refine blk_alloc ?_ _)); exact BK399.out⟩
                      have n8_ : Aside0 (Below w.heap.size w ((w93.setCell ⟨gb399, 0, none⟩ (.string t396)).setCell ⟨gb399, 1, none⟩ (.int .i64 t397))) := ⟨by repeat (first | (with_reducible first | exact HB.out | apply below_alloc | apply pw_below_drewN | apply below_drew1 | refine below_set ?_ GE381.out | refine below_set ?_ GE382.out | refine below_set ?_ GE383.out | refine below_set ?_ GE384.out | refine below_set ?_ GE399.out) | exact HB.out)⟩
                      (try clear HO_43)
                      (try clear HO_382000)
                      (try clear HO395)
                      (try clear BK381)
                      (try clear BK382)
                      (try clear BK383)
                      (try clear BK384)
                      (try clear BK399)
                      (try clear HB)
                      generalize ((w93.setCell ⟨gb399, 0, none⟩ (.string t396)).setCell ⟨gb399, 1, none⟩ (.int .i64 t397)) = w99 at n0_ n1_ n2_ n3_ n4_ n5_ n6_ n7_ n8_ ⊢
                      have HO_43 := n0_
                      have HO_382000 := n1_
                      have HO395 := n2_
                      have BK381 := n3_
                      have BK382 := n4_
                      have BK383 := n5_
                      have BK384 := n6_
                      have BK399 := n7_
                      have HB := n8_
                      clear n0_ n1_ n2_ n3_ n4_ n5_ n6_ n7_ n8_
                      have n0_ := Aside0.mk (Kd.V_drew HO_43.out)
                      have n1_ := Aside0.mk (Kd.V_drew HO_382000.out)
                      have n2_ := Aside0.mk (Kd.R_drew HO395.out)
                      have n3_ := Aside0.mk (blk_drew BK381.out)
                      have n4_ := Aside0.mk (blk_drew BK382.out)
                      have n5_ := Aside0.mk (blk_drew BK383.out)
                      have n6_ := Aside0.mk (blk_drew BK384.out)
                      have n7_ := Aside0.mk (blk_drew BK399.out)
                      have n8_ := Aside0.mk (below_drew1 HB.out)
                      clear HO_43
                      clear HO_382000
                      clear HO395
                      clear BK381
                      clear BK382
                      clear BK383
                      clear BK384
                      clear BK399
                      clear HB
                      have HO_43 := n0_
                      have HO_382000 := n1_
                      have HO395 := n2_
                      have BK381 := n3_
                      have BK382 := n4_
                      have BK383 := n5_
                      have BK384 := n6_
                      have BK399 := n7_
                      have HB := n8_
                      clear n0_ n1_ n2_ n3_ n4_ n5_ n6_ n7_ n8_
                      refine start_ (n := 7) (S := fun w' => w'.cell? ⟨gb381, 0, none⟩ = some (.slice A0_0 l0_0.length c0_0) ∧ w'.cell? ⟨gb381, 1, none⟩ = some (.int .i64 a0_1) ∧ w'.cell? ⟨gb382, 0, none⟩ = some (.string a1_0) ∧ w'.cell? ⟨gb382, 1, none⟩ = some (.int .i64 a1_1)) (ds := []) #[false, false, false, false, false, false, false] (by kernel_rfl) rfl rfl ⟨(blk_cell BK381.out 0).trans rfl, (blk_cell BK381.out 1).trans rfl, (blk_cell BK382.out 0).trans rfl, (blk_cell BK382.out 1).trans rfl⟩ (fun hHeld => ?_)
                      generalize w99.drew = w100 at HO_43 HO_382000 HO395 BK381 BK382 BK383 BK384 BK399 HB hHeld ⊢
                      refine pure_ (i := 2) (N := some 80) (v := ?_) (a' := ?_) #[false, false, true, false, false, false, false] rfl rfl (by kernel_rfl) (fun _ _ _ h => h) (Or.inl ⟨by rfl, ?_⟩) ?_ ?_
                      rotate_left
                      · intro w'
                        go_simp
                        with_reducible rfl
                      rotate_left
                      · simp only [Act.put, List.setIfInBounds_toArray, List.set_cons_zero, List.set_cons_succ, i64_w, i32_w]
                        rfl
                      refine pure_ (i := 3) (N := some 6) (v := ?_) (a' := ?_) #[false, false, true, true, false, false, false] rfl rfl (by kernel_rfl) (fun _ _ _ h => h) (Or.inl ⟨by rfl, ?_⟩) ?_ ?_
                      rotate_left
                      · intro w'
                        go_simp
                        with_reducible rfl
                      rotate_left
                      · simp only [Act.put, List.setIfInBounds_toArray, List.set_cons_zero, List.set_cons_succ, i64_w, i32_w]
                        rfl
                      refine take_ (i := 0) (N := some 78) (v := ?_) (a' := ?_) #[true, false, true, true, false, false, false] rfl rfl (by kernel_rfl) (fun _ _ _ h => h) (Or.inl ⟨by rfl, ?_⟩) hHeld ?_ ?_
                      rotate_left
                      · rintro w' ⟨s0, s1, s2, s3⟩
                        go_simp
                        with_reducible rfl
                      rotate_left
                      · simp only [Act.put, List.setIfInBounds_toArray, List.set_cons_zero, List.set_cons_succ, i64_w, i32_w]
                        rfl
                      refine take_ (i := 1) (N := some 79) (v := ?_) (a' := ?_) #[true, true, true, true, false, false, false] rfl rfl (by kernel_rfl) (fun _ _ _ h => h) (Or.inl ⟨by rfl, ?_⟩) hHeld ?_ ?_
                      rotate_left
                      · rintro w' ⟨s0, s1, s2, s3⟩
                        go_simp
                        with_reducible rfl
                      rotate_left
                      · simp only [Act.put, List.setIfInBounds_toArray, List.set_cons_zero, List.set_cons_succ, i64_w, i32_w]
                        rfl
                      refine one_ (i := 4) (N := none) #[true, true, true, true, true, false, false] rfl rfl (by kernel_rfl) (by decide) (fun K hK => ?_)
                      have hs101 : w100.cell? ⟨gb383, 0, none⟩ = some (.slice none 0 0) := (blk_cell BK383.out 0).trans rfl
                      have hfs101 := blk_frozen BK383.out 0
                      have hns101_0 := NB381_383.out
                      have hns101_1 := NB382_383.out
                      have hns101_3 := NB384_383.out
                      have hns101_4 := NB399_383.out
                      have hms101_0 := NB383_381.out
                      have hms101_1 := NB383_382.out
                      have hms101_3 := NB383_384.out
                      have hms101_4 := NB383_399.out
                      have hs102 : w100.cell? ⟨gb383, 1, none⟩ = some (.int .i64 x384001_2) := (blk_cell BK383.out 1).trans rfl
                      have hfs102 := blk_frozen BK383.out 1
                      have hns102_0 := NB381_383.out
                      have hns102_1 := NB382_383.out
                      have hns102_3 := NB384_383.out
                      have hns102_4 := NB399_383.out
                      have hms102_0 := NB383_381.out
                      have hms102_1 := NB383_382.out
                      have hms102_3 := NB383_384.out
                      have hms102_4 := NB383_399.out
                      refine skip_ (w1 := ?_) (by rfl) rfl ?_ ?_
                      rotate_left
                      · go_simp
                        rfl
                      refine hK.out _ _ ⟨((cell_far (p := ⟨gb383, _, none⟩) NB381_383.out _).trans (((cell_far (p := ⟨gb383, _, none⟩) NB381_383.out _).trans (hHeld.1)))), ((cell_far (p := ⟨gb383, _, none⟩) NB381_383.out _).trans (((cell_far (p := ⟨gb383, _, none⟩) NB381_383.out _).trans (hHeld.2.1)))), ((cell_far (p := ⟨gb383, _, none⟩) NB382_383.out _).trans (((cell_far (p := ⟨gb383, _, none⟩) NB382_383.out _).trans (hHeld.2.2.1)))), ((cell_far (p := ⟨gb383, _, none⟩) NB382_383.out _).trans (((cell_far (p := ⟨gb383, _, none⟩) NB382_383.out _).trans (hHeld.2.2.2))))⟩ (fun hHeld => ?_)
                      clear hK K
                      refine one_ (i := 5) (N := none) #[true, true, true, true, true, true, false] rfl rfl (by kernel_rfl) (by decide) (fun K hK => ?_)
                      have hs103 : w100.cell? ⟨gb384, 0, none⟩ = some (.string x385000_2) := (blk_cell BK384.out 0).trans rfl
                      have hfs103 := blk_frozen BK384.out 0
                      have hns103_0 := NB381_384.out
                      have hns103_1 := NB382_384.out
                      have hns103_2 := NB383_384.out
                      have hns103_4 := NB399_384.out
                      have hms103_0 := NB384_381.out
                      have hms103_1 := NB384_382.out
                      have hms103_2 := NB384_383.out
                      have hms103_4 := NB384_399.out
                      have hs104 : w100.cell? ⟨gb384, 1, none⟩ = some (.int .i64 x385001_2) := (blk_cell BK384.out 1).trans rfl
                      have hfs104 := blk_frozen BK384.out 1
                      have hns104_0 := NB381_384.out
                      have hns104_1 := NB382_384.out
                      have hns104_2 := NB383_384.out
                      have hns104_4 := NB399_384.out
                      have hms104_0 := NB384_381.out
                      have hms104_1 := NB384_382.out
                      have hms104_2 := NB384_383.out
                      have hms104_4 := NB384_399.out
                      refine skip_ (w1 := ?_) (by rfl) rfl ?_ ?_
                      rotate_left
                      · go_simp
                        rfl
                      refine hK.out _ _ ⟨((cell_far (p := ⟨gb384, _, none⟩) NB381_384.out _).trans (((cell_far (p := ⟨gb384, _, none⟩) NB381_384.out _).trans (hHeld.1)))), ((cell_far (p := ⟨gb384, _, none⟩) NB381_384.out _).trans (((cell_far (p := ⟨gb384, _, none⟩) NB381_384.out _).trans (hHeld.2.1)))), ((cell_far (p := ⟨gb384, _, none⟩) NB382_384.out _).trans (((cell_far (p := ⟨gb384, _, none⟩) NB382_384.out _).trans (hHeld.2.2.1)))), ((cell_far (p := ⟨gb384, _, none⟩) NB382_384.out _).trans (((cell_far (p := ⟨gb384, _, none⟩) NB382_384.out _).trans (hHeld.2.2.2))))⟩ (fun hHeld => ?_)
                      clear hK K
                      refine pure_ (i := 6) (N := some 9) (v := ?_) (a' := ?_) #[true, true, true, true, true, true, true] rfl rfl (by kernel_rfl) (fun _ _ _ h => h) (Or.inl ⟨by rfl, ?_⟩) ?_ ?_
                      rotate_left
                      · intro w'
                        go_simp
                        with_reducible rfl
                      rotate_left
                      · simp only [Act.put, List.setIfInBounds_toArray, List.set_cons_zero, List.set_cons_succ, i64_w, i32_w]
                        rfl
                      refine done_ (by kernel_rfl) ?_
                      try go_wp2
                      refine bodyPost_ret (results_list (rs := [.tmp 6, .cell 7 49, .cell 8 23, .tmp 9]) rfl (by simp) (.tmp (.cell gb383 49 #[.slice A0_0 l0_0.length c0_0, .int .i64 a0_1] (0, 0) _ rfl (by (with_reducible repeat (first | refine blk_drewN ?_ _ | refine blk_drew ?_ | refine blk_alloc ?_ _)); refine blk_far ?_ NB383_384.out _; (with_reducible repeat (first | refine blk_drewN ?_ _ | refine blk_drew ?_ | refine blk_alloc ?_ _)); refine blk_far ?_ NB383_384.out _; (with_reducible repeat (first | refine blk_drewN ?_ _ | refine blk_drew ?_ | refine blk_alloc ?_ _)); refine blk_put (cs := #[.slice A0_0 l0_0.length c0_0, .int .i64 x384001_2]) ?_ 1 _ rfl; (with_reducible repeat (first | refine blk_drewN ?_ _ | refine blk_drew ?_ | refine blk_alloc ?_ _)); refine blk_put (cs := #[.slice none 0 0, .int .i64 x384001_2]) ?_ 0 _ rfl; (with_reducible repeat (first | refine blk_drewN ?_ _ | refine blk_drew ?_ | refine blk_alloc ?_ _)); exact BK383.out) Try.underlying49 rfl (by kernel_rfl) (.cell gb384 23 #[.string a1_0, .int .i64 a1_1] (0, 0) _ rfl (by (with_reducible repeat (first | refine blk_drewN ?_ _ | refine blk_drew ?_ | refine blk_alloc ?_ _)); refine blk_put (cs := #[.string a1_0, .int .i64 x385001_2]) ?_ 1 _ rfl; (with_reducible repeat (first | refine blk_drewN ?_ _ | refine blk_drew ?_ | refine blk_alloc ?_ _)); refine blk_put (cs := #[.string x385000_2, .int .i64 x385001_2]) ?_ 0 _ rfl; (with_reducible repeat (first | refine blk_drewN ?_ _ | refine blk_drew ?_ | refine blk_alloc ?_ _)); refine blk_far ?_ NB384_383.out _; (with_reducible repeat (first | refine blk_drewN ?_ _ | refine blk_drew ?_ | refine blk_alloc ?_ _)); refine blk_far ?_ NB384_383.out _; (with_reducible repeat (first | refine blk_drewN ?_ _ | refine blk_drew ?_ | refine blk_alloc ?_ _)); exact BK384.out) Try.underlying23 rfl (by kernel_rfl) (.tmp .nil))))) rfl ?_
                      exact ⟨_, by first | rfl | (simp [errW_none, errW_some] <;> rfl) | (simp [*, errW_none, errW_some] <;> rfl), by (with_reducible repeat (first | apply Kd.V_alloc | apply Kd.V_drewN | apply Kd.V_drew)); exact Kd.V_mono (Kd.V_far (p := ⟨gb384, 1, none⟩) (Kd.V_far (p := ⟨gb384, 0, none⟩) (Kd.V_far (p := ⟨gb383, 1, none⟩) (Kd.V_far (p := ⟨gb383, 0, none⟩) (Kd.V_mono (Kd.V_mono HO_382000.out (fun k_ hk => (⟨hk, hk.2.2.2.2.1⟩ : _ ∧ k_ ≠ gb383))) (fun k_ hk => (⟨hk, hk.1.2.2.2.2.2.1⟩ : _ ∧ k_ ≠ gb384))) (fun _ hk => hk.1.2) (.slice A0_0 l0_0.length c0_0)) (fun _ hk => hk.1.2) (.int .i64 a0_1)) (fun _ hk => hk.2) (.string a1_0)) (fun _ hk => hk.2) (.int .i64 a1_1)) (fun _ hk => hk.1.1.1), by repeat (first | (with_reducible first | exact HB.out | apply below_alloc | apply pw_below_drewN | apply below_drew1 | refine below_set ?_ GE381.out | refine below_set ?_ GE382.out | refine below_set ?_ GE383.out | refine below_set ?_ GE384.out | refine below_set ?_ GE399.out) | exact HB.out)⟩
            · rw [if_neg c48] at H
              exact absurd H (by simp)
          · rw [if_neg c47] at H
            exact absurd H (by simp)

end Go.Proofs.Ytlanodnbdgiihaa.Fn
