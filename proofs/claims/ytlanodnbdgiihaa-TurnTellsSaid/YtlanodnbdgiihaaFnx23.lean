-- Written by program (a turned copy of the kit's print) for this seat: functions, contracts. Lean checks it.
import Derived.Test.YtlanodnbdgiihaaFnx0
import Derived.Test.YtlanodnbdgiihaaFnx2
import Derived.Test.YtlanodnbdgiihaaFnx4
import Derived.Test.YtlanodnbdgiihaaFnx8
import Derived.Test.YtlanodnbdgiihaaFnx22
namespace Go.Proofs.Ytlanodnbdgiihaa.Fn
open Go.RowKit Go.Proofs.YtlanodnbdgiihaaW.PrintWords Go.Proofs.YtlanodnbdgiihaaW.PrintLast Go.Proofs.YtlanodnbdgiihaaW.PrintMore
attribute [local go_sem] max2_int min2_int max_two min_two max_three min_three max_four min_four   -- for this text's walks alone
set_option linter.unusedVariables false
set_option linter.unusedSimpArgs false

/-! ### tattleref08_Next: function 33 -/
mutual
def tattleref08_Next.j0 : Nat → List Int → Bool → List Int → Int → ByteArray → Int → Option (Int × List Int × Int × ByteArray × Int × Int)
  | 0, _, _, _, _, _, _ => none
  | k + 1, x2, x26, x639000, x639001, x640000, x640001 => if x26 = true then (some (0, x639000, x639001, x640000, x640001, 1)) else (if (x2.length : Int) = 0 then (some (0, x639000, x639001, x640000, x640001, 6)) else (tattleref08_Next.l0 k x2 x639001 x639000 x639001 x640000 x640001))
def tattleref08_Next.l0 : Nat → List Int → Int → List Int → Int → ByteArray → Int → Option (Int × List Int × Int × ByteArray × Int × Int)
  | 0, _, _, _, _, _, _ => none
  | k + 1, x2, x10, x639000, x639001, x640000, x640001 => if x10 < (x639000.length : Int) then (if 0 ≤ x10 then ((tattleref02_Many.f k x2 (rd x639000 x10)).bind fun t646 => (if t646 > 0 then (some (rd x639000 x10, x639000, wrap64 (x10 + 1), x640000, x640001, 0)) else (tattleref08_Next.l0 k x2 (wrap64 (x10 + 1)) x639000 x639001 x640000 x640001))) else (none)) else ((tattleref02_Shuffle.f k x640000 x640001 x2).bind fun bt648 => (if 0 < (bt648.1.length : Int) then (some (rd bt648.1 0, bt648.1, 1, bt648.2.1, bt648.2.2.1, 0)) else (none)))
end
def tattleref08_Next.f (k : Nat) (l0_0 : List Int) (a0_1 : Int) (a1_0 : ByteArray) (a1_1 : Int) (l2 : List Int) : Option (Int × List Int × Int × ByteArray × Int × Int) := (tattleref08_May.f k l0_0 a0_1).bind fun t642 => (if t642 = true then ((tattleref08_Nodes.f k l2).bind fun t643 => (if t643 = true then ((tattleref02_May.f a1_0 a1_1).bind fun t644 => (tattleref08_Next.j0 k l2 (!t644) l0_0 a0_1 a1_0 a1_1)) else (tattleref08_Next.j0 k l2 true l0_0 a0_1 a1_0 a1_1))) else (tattleref08_Next.j0 k l2 true l0_0 a0_1 a1_0 a1_1))
theorem tattleref08_Next.mono_l : ∀ k, (∀ y0 y1 y2 y3 y4 y5, LeO (tattleref08_Next.j0 k y0 y1 y2 y3 y4 y5) (tattleref08_Next.j0 (k + 1) y0 y1 y2 y3 y4 y5)) ∧ (∀ y0 y1 y2 y3 y4 y5, LeO (tattleref08_Next.l0 k y0 y1 y2 y3 y4 y5) (tattleref08_Next.l0 (k + 1) y0 y1 y2 y3 y4 y5))
  | 0 => ⟨fun _ _ _ _ _ _ r h => by simp [tattleref08_Next.j0] at h, fun _ _ _ _ _ _ r h => by simp [tattleref08_Next.l0] at h⟩
  | k + 1 => by
    obtain ⟨ih0, ih1⟩ := tattleref08_Next.mono_l k
    refine ⟨?_, ?_⟩
    · intro y0 y1 y2 y3 y4 y5
      unfold tattleref08_Next.j0
      repeat' first
      | (with_reducible exact ih0 _ _ _ _ _ _)
      | (with_reducible exact ih1 _ _ _ _ _ _)
      | (with_reducible exact tattleref02_Many.mono _ _ _)
      | (with_reducible exact tattleref02_Shuffle.mono _ _ _ _)
      | (with_reducible exact tattleref08_May.mono _ _ _)
      | (with_reducible exact tattleref08_Nodes.mono _ _)
      | (with_reducible exact LeO.refl _)
      | (with_reducible exact LeO.none _)
      | (with_reducible refine LeO.ite ?_ ?_)
      | (with_reducible refine LeO.bind ?_ (fun _ => ?_))
      | exact ih0 _ _ _ _ _ _
      | exact ih1 _ _ _ _ _ _
      | exact tattleref02_Many.mono _ _ _
      | exact tattleref02_Shuffle.mono _ _ _ _
      | exact tattleref08_May.mono _ _ _
      | exact tattleref08_Nodes.mono _ _
      | exact LeO.none _
      | refine LeO.ite ?_ ?_
      | refine LeO.bind ?_ (fun _ => ?_)
    · intro y0 y1 y2 y3 y4 y5
      unfold tattleref08_Next.l0
      repeat' first
      | (with_reducible exact ih0 _ _ _ _ _ _)
      | (with_reducible exact ih1 _ _ _ _ _ _)
      | (with_reducible exact tattleref02_Many.mono _ _ _)
      | (with_reducible exact tattleref02_Shuffle.mono _ _ _ _)
      | (with_reducible exact tattleref08_May.mono _ _ _)
      | (with_reducible exact tattleref08_Nodes.mono _ _)
      | (with_reducible exact LeO.refl _)
      | (with_reducible exact LeO.none _)
      | (with_reducible refine LeO.ite ?_ ?_)
      | (with_reducible refine LeO.bind ?_ (fun _ => ?_))
      | exact ih0 _ _ _ _ _ _
      | exact ih1 _ _ _ _ _ _
      | exact tattleref02_Many.mono _ _ _
      | exact tattleref02_Shuffle.mono _ _ _ _
      | exact tattleref08_May.mono _ _ _
      | exact tattleref08_Nodes.mono _ _
      | exact LeO.none _
      | refine LeO.ite ?_ ?_
      | refine LeO.bind ?_ (fun _ => ?_)
theorem tattleref08_Next.mono : ∀ a0 a1 a2 a3 a4 k, LeO (tattleref08_Next.f k a0 a1 a2 a3 a4) (tattleref08_Next.f (k + 1) a0 a1 a2 a3 a4) := by
  intro a0 a1 a2 a3 a4 k
  obtain ⟨ih0, ih1⟩ := tattleref08_Next.mono_l k
  unfold tattleref08_Next.f
  repeat' first
      | (with_reducible exact ih0 _ _ _ _ _ _)
      | (with_reducible exact ih1 _ _ _ _ _ _)
      | (with_reducible exact tattleref02_Many.mono _ _ _)
      | (with_reducible exact tattleref02_Shuffle.mono _ _ _ _)
      | (with_reducible exact tattleref08_May.mono _ _ _)
      | (with_reducible exact tattleref08_Nodes.mono _ _)
      | (with_reducible exact LeO.refl _)
      | (with_reducible exact LeO.none _)
      | (with_reducible refine LeO.ite ?_ ?_)
      | (with_reducible refine LeO.bind ?_ (fun _ => ?_))
      | exact ih0 _ _ _ _ _ _
      | exact ih1 _ _ _ _ _ _
      | exact tattleref02_Many.mono _ _ _
      | exact tattleref02_Shuffle.mono _ _ _ _
      | exact tattleref08_May.mono _ _ _
      | exact tattleref08_Nodes.mono _ _
      | exact LeO.none _
      | refine LeO.ite ?_ ?_
      | refine LeO.bind ?_ (fun _ => ?_)
def tattleref08_Next.T9 : Bool × List (List Nat × List Nat) := (true, [([], []), ([0], [0]), ([], []), ([1, 2], [1, 2]), ([3], [3]), ([], []), ([5], [5]), ([], []), ([7], [7]), ([6, 8], [6, 8]), ([], []), ([4, 0, 1, 2, 3, 4], [4]), ([9, 11, 0, 1, 2, 3, 4, 5, 6, 7, 8, 9, 11], [9]), ([10, 12, 0, 1, 2, 3, 4, 5, 6, 7, 8, 9, 10, 11, 12], [10]), ([13, 0, 1, 2, 3, 4, 5, 6, 7, 8, 9, 10, 11, 12, 13], [])])
def tattleref08_Next.B9 : List Nat := [0, 1, 0, 7, 15, 0, 32, 0, 128, 480, 0, 31, 3071, 8191, 16383]
theorem tattleref08_Next.tab9 : rtab .any (opsOf Try.f33 9) = tattleref08_Next.T9 := by kernel_rfl
theorem tattleref08_Next.bits9 : waitsOk tattleref08_Next.T9.2 tattleref08_Next.B9 = true := by kernel_rfl
def tattleref08_Next.T11 : Bool × List (List Nat × List Nat) := (true, [([], []), ([0], [0]), ([1], [1]), ([], []), ([3], [3]), ([], []), ([2, 0, 1, 2], [2]), ([4, 6, 0, 1, 2, 3, 4, 6], [4]), ([5, 7, 0, 1, 2, 3, 4, 5, 6, 7], [5]), ([8, 0, 1, 2, 3, 4, 5, 6, 7, 8], [])])
def tattleref08_Next.B11 : List Nat := [0, 1, 3, 0, 8, 0, 7, 95, 255, 511]
theorem tattleref08_Next.tab11 : rtab .any (opsOf Try.f33 11) = tattleref08_Next.T11 := by kernel_rfl
theorem tattleref08_Next.bits11 : waitsOk tattleref08_Next.T11.2 tattleref08_Next.B11 = true := by kernel_rfl
set_option maxHeartbeats 8000000 in
set_option maxRecDepth 100000 in
theorem tattleref08_Next.calls (k : Nat) (P0_0_ : Nat → Prop) (A0_0 : Option Addr) (c0_0 : Nat) (l0_0 : List Int) (a0_1 : Int) (a1_0 : ByteArray) (a1_1 : Int) (A2 : Option Addr) (c2 : Nat) (l2 : List Int) (r1 : Int) (r2 : List Int) (r3 : Int) (r4 : ByteArray) (r5 : Int) (r6 : Int) (w : World) (hs0_0 : Kd.V (Kd.int .i64) 3 w w.heap.size (fun k_ => P0_0_ k_) (.slice A0_0 l0_0.length c0_0) l0_0) (hr2 : Kd.C (Kd.int .i64) w A2 l2.length l2) (hc2 : l2.length ≤ c2) (h : tattleref08_Next.f k l0_0 a0_1 a1_0 a1_1 l2 = some (r1, r2, r3, r4, r5, r6)) :
    Calls Try.prog 33 #[.agg #[.slice A0_0 l0_0.length c0_0, .int .i64 a0_1], .agg #[.string a1_0, .int .i64 a1_1], .slice A2 l2.length c2] w fun e w' => ∃ v1_ : Value, e = .returned (.tuple #[.int .i64 r1, .agg #[v1_, .int .i64 r3], .agg #[.string r4, .int .i64 r5], .int .i64 r6]) ∧ Kd.V (Kd.int .i64) 3 w' w.heap.size (fun k_ => (P0_0_ k_ ∨ w.heap.size ≤ k_)) v1_ r2 ∧ Below w.heap.size w w' := by
  have hu49 := Try.underlying49
  have hu23 := Try.underlying23
  have HO0_0 := Aside0.mk (show Kd.V (Kd.int .i64) 3 w w.heap.size (fun k_ => (P0_0_ k_ ∨ w.heap.size ≤ k_)) (.slice A0_0 l0_0.length c0_0) l0_0 from Kd.V_mono hs0_0 (fun k_ hk => .inl hk))
  have HR2 := Aside0.mk hr2
  have HC2 := Aside0.mk hc2
  clear hr2 hc2
  have HB := Aside0.mk (Below.refl w.heap.size w)
  have H : ((tattleref08_May.f k l0_0 a0_1).bind fun t642 => (if t642 = true then ((tattleref08_Nodes.f k l2).bind fun t643 => (if t643 = true then ((tattleref02_May.f a1_0 a1_1).bind fun t644 => (tattleref08_Next.j0 k l2 (!t644) l0_0 a0_1 a1_0 a1_1)) else (tattleref08_Next.j0 k l2 true l0_0 a0_1 a1_0 a1_1))) else (tattleref08_Next.j0 k l2 true l0_0 a0_1 a1_0 a1_1))) = some (r1, r2, r3, r4, r5, r6) := h
  clear h
  have HC4 := Aside0.mk H
  clear H
  go_enter Try.func33, Try.ntmps33
  go_upto_region 1 with (first | ((with_reducible refine gate_dst (N := 3) rfl ?_); refine box_event ?hg (N := 3) ?hd (cs := #[.slice A0_0 l0_0.length c0_0, .int .i64 a0_1]) (t := 49) ?hr ?_; (case hd => rfl); (case hg => rfl); (case hr => first | (go_simp; done) | (go_simp; rfl)); intro gb638 hg w5 hbox hb; have n0_ := Aside0.mk (Kd.V_below (Kd.V_elderB (by (with_reducible repeat (first | apply Kd.V_alloc | apply Kd.V_drewN | apply Kd.V_drew)); exact HO0_0.out) gb638 (Nat.le_of_eq hg.symm)) hb); have n1_ := Aside0.mk (below_step (by repeat (first | (with_reducible first | exact HB.out | apply below_alloc | apply pw_below_drewN | apply below_drew1) | exact HB.out)) hb); have n2_ := Aside0.mk (hbox); have n3_ := Aside0.mk ((by rw [hg]; exact (below_size (by repeat (first | (with_reducible first | exact HB.out | apply below_alloc | apply pw_below_drewN | apply below_drew1) | exact HB.out))) : w.heap.size ≤ gb638)); have n4_ := Aside0.mk ((by rw [hg]; exact (below_size (by repeat (first | (with_reducible first | exact HB.out | apply below_alloc | apply pw_below_drewN | apply below_drew1) | exact HB.out))) : w.heap.size ≤ gb638)); clear HO0_0; clear HB; have HO0_0 := n0_; have HB := n1_; have BK638 := n2_; have GW638 := n3_; have GE638 := n4_; clear n0_ n1_ n2_ n3_ n4_; clear hb hbox hg) | ((with_reducible refine gate_dst (N := 4) rfl ?_); refine box_event ?hg (N := 4) ?hd (cs := #[.string a1_0, .int .i64 a1_1]) (t := 23) ?hr ?_; (case hd => rfl); (case hg => rfl); (case hr => first | (go_simp; done) | (go_simp; rfl)); intro gb639 hg w6 hbox hb; have n0_ := Aside0.mk (Kd.V_below (Kd.V_elderB (by (with_reducible repeat (first | apply Kd.V_alloc | apply Kd.V_drewN | apply Kd.V_drew)); exact HO0_0.out) gb639 (Nat.le_of_eq hg.symm)) hb); have n1_ := Aside0.mk (blk_below (g := gb638) (o := .cells #[.slice A0_0 l0_0.length c0_0, .int .i64 a0_1] 49 (0, 0)) (by (with_reducible repeat (first | refine blk_drewN ?_ _ | refine blk_drew ?_ | refine blk_alloc ?_ _)); exact BK638.out) hb); have n2_ := Aside0.mk (below_step (by repeat (first | (with_reducible first | exact HB.out | apply below_alloc | apply pw_below_drewN | apply below_drew1 | refine below_set ?_ GE638.out) | exact HB.out)) hb); have n3_ := Aside0.mk (hbox); have n4_ := Aside0.mk ((by rw [hg]; exact (below_size (by repeat (first | (with_reducible first | exact HB.out | apply below_alloc | apply pw_below_drewN | apply below_drew1 | refine below_set ?_ GE638.out) | exact HB.out))) : w.heap.size ≤ gb639)); have n5_ := Aside0.mk ((by rw [hg]; exact (below_size (by repeat (first | (with_reducible first | exact HB.out | apply below_alloc | apply pw_below_drewN | apply below_drew1 | refine below_set ?_ GE638.out) | exact HB.out))) : w.heap.size ≤ gb639)); have n6_ := Aside0.mk ((by rw [hg]; exact Nat.ne_of_lt (blk_lt (g := gb638) (o := .cells #[.slice A0_0 l0_0.length c0_0, .int .i64 a0_1] 49 (0, 0)) (by (with_reducible repeat (first | refine blk_drewN ?_ _ | refine blk_drew ?_ | refine blk_alloc ?_ _)); exact BK638.out)) : gb638 ≠ gb639)); have n7_ := Aside0.mk ((by rw [hg]; exact Nat.ne_of_gt (blk_lt (g := gb638) (o := .cells #[.slice A0_0 l0_0.length c0_0, .int .i64 a0_1] 49 (0, 0)) (by (with_reducible repeat (first | refine blk_drewN ?_ _ | refine blk_drew ?_ | refine blk_alloc ?_ _)); exact BK638.out)) : gb639 ≠ gb638)); clear HO0_0; clear BK638; clear HB; have HO0_0 := n0_; have BK638 := n1_; have HB := n2_; have BK639 := n3_; have GW639 := n4_; have GE639 := n5_; have NB638_639 := n6_; have NB639_638 := n7_; clear n0_ n1_ n2_ n3_ n4_ n5_ n6_ n7_; clear hb hbox hg) | ((with_reducible refine gate_dst (N := 7) rfl ?_); refine box_event ?hg (N := 7) ?hd (cs := #[.slice none 0 0, .int .i64 0]) (t := 49) ?hr ?_; (case hd => rfl); (case hg => rfl); (case hr => first | (go_simp; done) | (go_simp; rfl)); intro gb640 hg w7 hbox hb; have n0_ := Aside0.mk (Kd.V_below (Kd.V_elderB (by (with_reducible repeat (first | apply Kd.V_alloc | apply Kd.V_drewN | apply Kd.V_drew)); exact HO0_0.out) gb640 (Nat.le_of_eq hg.symm)) hb); have n1_ := Aside0.mk (blk_below (g := gb638) (o := .cells #[.slice A0_0 l0_0.length c0_0, .int .i64 a0_1] 49 (0, 0)) (by (with_reducible repeat (first | refine blk_drewN ?_ _ | refine blk_drew ?_ | refine blk_alloc ?_ _)); exact BK638.out) hb); have n2_ := Aside0.mk (blk_below (g := gb639) (o := .cells #[.string a1_0, .int .i64 a1_1] 23 (0, 0)) (by (with_reducible repeat (first | refine blk_drewN ?_ _ | refine blk_drew ?_ | refine blk_alloc ?_ _)); exact BK639.out) hb); have n3_ := Aside0.mk (below_step (by repeat (first | (with_reducible first | exact HB.out | apply below_alloc | apply pw_below_drewN | apply below_drew1 | refine below_set ?_ GE638.out | refine below_set ?_ GE639.out) | exact HB.out)) hb); have n4_ := Aside0.mk (hbox); have n5_ := Aside0.mk ((by rw [hg]; exact (below_size (by repeat (first | (with_reducible first | exact HB.out | apply below_alloc | apply pw_below_drewN | apply below_drew1 | refine below_set ?_ GE638.out | refine below_set ?_ GE639.out) | exact HB.out))) : w.heap.size ≤ gb640)); have n6_ := Aside0.mk ((by rw [hg]; exact (below_size (by repeat (first | (with_reducible first | exact HB.out | apply below_alloc | apply pw_below_drewN | apply below_drew1 | refine below_set ?_ GE638.out | refine below_set ?_ GE639.out) | exact HB.out))) : w.heap.size ≤ gb640)); have n7_ := Aside0.mk ((by rw [hg]; exact Nat.ne_of_lt (blk_lt (g := gb638) (o := .cells #[.slice A0_0 l0_0.length c0_0, .int .i64 a0_1] 49 (0, 0)) (by (with_reducible repeat (first | refine blk_drewN ?_ _ | refine blk_drew ?_ | refine blk_alloc ?_ _)); exact BK638.out)) : gb638 ≠ gb640)); have n8_ := Aside0.mk ((by rw [hg]; exact Nat.ne_of_gt (blk_lt (g := gb638) (o := .cells #[.slice A0_0 l0_0.length c0_0, .int .i64 a0_1] 49 (0, 0)) (by (with_reducible repeat (first | refine blk_drewN ?_ _ | refine blk_drew ?_ | refine blk_alloc ?_ _)); exact BK638.out)) : gb640 ≠ gb638)); have n9_ := Aside0.mk ((by rw [hg]; exact Nat.ne_of_lt (blk_lt (g := gb639) (o := .cells #[.string a1_0, .int .i64 a1_1] 23 (0, 0)) (by (with_reducible repeat (first | refine blk_drewN ?_ _ | refine blk_drew ?_ | refine blk_alloc ?_ _)); exact BK639.out)) : gb639 ≠ gb640)); have n10_ := Aside0.mk ((by rw [hg]; exact Nat.ne_of_gt (blk_lt (g := gb639) (o := .cells #[.string a1_0, .int .i64 a1_1] 23 (0, 0)) (by (with_reducible repeat (first | refine blk_drewN ?_ _ | refine blk_drew ?_ | refine blk_alloc ?_ _)); exact BK639.out)) : gb640 ≠ gb639)); clear HO0_0; clear BK638; clear BK639; clear HB; have HO0_0 := n0_; have BK638 := n1_; have BK639 := n2_; have HB := n3_; have BK640 := n4_; have GW640 := n5_; have GE640 := n6_; have NB638_640 := n7_; have NB640_638 := n8_; have NB639_640 := n9_; have NB640_639 := n10_; clear n0_ n1_ n2_ n3_ n4_ n5_ n6_ n7_ n8_ n9_ n10_; clear hb hbox hg) | ((with_reducible refine gate_dst (N := 8) rfl ?_); refine box_event ?hg (N := 8) ?hd (cs := #[.string (⟨#[]⟩ : ByteArray), .int .i64 0]) (t := 23) ?hr ?_; (case hd => rfl); (case hg => rfl); (case hr => first | (go_simp; done) | (go_simp; rfl)); intro gb641 hg w8 hbox hb; have n0_ := Aside0.mk (Kd.V_below (Kd.V_elderB (by (with_reducible repeat (first | apply Kd.V_alloc | apply Kd.V_drewN | apply Kd.V_drew)); exact HO0_0.out) gb641 (Nat.le_of_eq hg.symm)) hb); have n1_ := Aside0.mk (blk_below (g := gb638) (o := .cells #[.slice A0_0 l0_0.length c0_0, .int .i64 a0_1] 49 (0, 0)) (by (with_reducible repeat (first | refine blk_drewN ?_ _ | refine blk_drew ?_ | refine blk_alloc ?_ _)); exact BK638.out) hb); have n2_ := Aside0.mk (blk_below (g := gb639) (o := .cells #[.string a1_0, .int .i64 a1_1] 23 (0, 0)) (by (with_reducible repeat (first | refine blk_drewN ?_ _ | refine blk_drew ?_ | refine blk_alloc ?_ _)); exact BK639.out) hb); have n3_ := Aside0.mk (blk_below (g := gb640) (o := .cells #[.slice none 0 0, .int .i64 0] 49 (0, 0)) (by (with_reducible repeat (first | refine blk_drewN ?_ _ | refine blk_drew ?_ | refine blk_alloc ?_ _)); exact BK640.out) hb); have n4_ := Aside0.mk (below_step (by repeat (first | (with_reducible first | exact HB.out | apply below_alloc | apply pw_below_drewN | apply below_drew1 | refine below_set ?_ GE638.out | refine below_set ?_ GE639.out | refine below_set ?_ GE640.out) | exact HB.out)) hb); have n5_ := Aside0.mk (hbox); have n6_ := Aside0.mk ((by rw [hg]; exact (below_size (by repeat (first | (with_reducible first | exact HB.out | apply below_alloc | apply pw_below_drewN | apply below_drew1 | refine below_set ?_ GE638.out | refine below_set ?_ GE639.out | refine below_set ?_ GE640.out) | exact HB.out))) : w.heap.size ≤ gb641)); have n7_ := Aside0.mk ((by rw [hg]; exact (below_size (by repeat (first | (with_reducible first | exact HB.out | apply below_alloc | apply pw_below_drewN | apply below_drew1 | refine below_set ?_ GE638.out | refine below_set ?_ GE639.out | refine below_set ?_ GE640.out) | exact HB.out))) : w.heap.size ≤ gb641)); have n8_ := Aside0.mk ((by rw [hg]; exact Nat.ne_of_lt (blk_lt (g := gb638) (o := .cells #[.slice A0_0 l0_0.length c0_0, .int .i64 a0_1] 49 (0, 0)) (by (with_reducible repeat (first | refine blk_drewN ?_ _ | refine blk_drew ?_ | refine blk_alloc ?_ _)); exact BK638.out)) : gb638 ≠ gb641)); have n9_ := Aside0.mk ((by rw [hg]; exact Nat.ne_of_gt (blk_lt (g := gb638) (o := .cells #[.slice A0_0 l0_0.length c0_0, .int .i64 a0_1] 49 (0, 0)) (by (with_reducible repeat (first | refine blk_drewN ?_ _ | refine blk_drew ?_ | refine blk_alloc ?_ _)); exact BK638.out)) : gb641 ≠ gb638)); have n10_ := Aside0.mk ((by rw [hg]; exact Nat.ne_of_lt (blk_lt (g := gb639) (o := .cells #[.string a1_0, .int .i64 a1_1] 23 (0, 0)) (by (with_reducible repeat (first | refine blk_drewN ?_ _ | refine blk_drew ?_ | refine blk_alloc ?_ _)); exact BK639.out)) : gb639 ≠ gb641)); have n11_ := Aside0.mk ((by rw [hg]; exact Nat.ne_of_gt (blk_lt (g := gb639) (o := .cells #[.string a1_0, .int .i64 a1_1] 23 (0, 0)) (by (with_reducible repeat (first | refine blk_drewN ?_ _ | refine blk_drew ?_ | refine blk_alloc ?_ _)); exact BK639.out)) : gb641 ≠ gb639)); have n12_ := Aside0.mk ((by rw [hg]; exact Nat.ne_of_lt (blk_lt (g := gb640) (o := .cells #[.slice none 0 0, .int .i64 0] 49 (0, 0)) (by (with_reducible repeat (first | refine blk_drewN ?_ _ | refine blk_drew ?_ | refine blk_alloc ?_ _)); exact BK640.out)) : gb640 ≠ gb641)); have n13_ := Aside0.mk ((by rw [hg]; exact Nat.ne_of_gt (blk_lt (g := gb640) (o := .cells #[.slice none 0 0, .int .i64 0] 49 (0, 0)) (by (with_reducible repeat (first | refine blk_drewN ?_ _ | refine blk_drew ?_ | refine blk_alloc ?_ _)); exact BK640.out)) : gb641 ≠ gb640)); clear HO0_0; clear BK638; clear BK639; clear BK640; clear HB; have HO0_0 := n0_; have BK638 := n1_; have BK639 := n2_; have BK640 := n3_; have HB := n4_; have BK641 := n5_; have GW641 := n6_; have GE641 := n7_; have NB638_641 := n8_; have NB641_638 := n9_; have NB639_641 := n10_; have NB641_639 := n11_; have NB640_641 := n12_; have NB641_640 := n13_; clear n0_ n1_ n2_ n3_ n4_ n5_ n6_ n7_ n8_ n9_ n10_ n11_ n12_ n13_; clear hb hbox hg))
  (try simp only [Act.put, List.setIfInBounds_toArray, List.set_cons_zero, List.set_cons_succ])
  go_cut [26] (fun v26 wc => ∃ (kq : Nat) (x26_3 : Bool), v26 = .bool x26_3 ∧ Aside0 (tattleref08_Next.j0 kq l2 x26_3 l0_0 a0_1 a1_0 a1_1 = some (r1, r2, r3, r4, r5, r6)) ∧ Aside0 (kq ≤ k) ∧ Aside0 (Kd.V (Kd.int .i64) 3 wc w.heap.size (fun k_ => (P0_0_ k_ ∨ w.heap.size ≤ k_) ∧ k_ ≠ gb638 ∧ k_ ≠ gb639 ∧ k_ ≠ gb640 ∧ k_ ≠ gb641) (.slice A0_0 l0_0.length c0_0) l0_0) ∧ Aside0 (wc.heap[gb638]? = some (.cells #[(.slice A0_0 l0_0.length c0_0), .int .i64 a0_1] 49 (0, 0))) ∧ Aside0 (wc.heap[gb639]? = some (.cells #[.string a1_0, .int .i64 a1_1] 23 (0, 0))) ∧ Aside0 (wc.heap[gb640]? = some (.cells #[(.slice none 0 0), .int .i64 0] 49 (0, 0))) ∧ Aside0 (wc.heap[gb641]? = some (.cells #[.string (⟨#[]⟩ : ByteArray), .int .i64 0] 23 (0, 0))) ∧ Aside0 (Below w.heap.size w wc))
  case first =>
    have H := HC4.out
    clear HC4
    replace H := Option.bind_eq_some_iff.mp H
    obtain ⟨t642, A90, H⟩ := H
    replace H : (if t642 = true then ((tattleref08_Nodes.f k l2).bind fun t643 => (if t643 = true then ((tattleref02_May.f a1_0 a1_1).bind fun t644 => (tattleref08_Next.j0 k l2 (!t644) l0_0 a0_1 a1_0 a1_1)) else (tattleref08_Next.j0 k l2 true l0_0 a0_1 a1_0 a1_1))) else (tattleref08_Next.j0 k l2 true l0_0 a0_1 a1_0 a1_1)) = some (r1, r2, r3, r4, r5, r6) := H
    have A9 := Aside0.mk A90
    clear A90
    by_cases c10 : t642 = true
    · subst c10
      have H1 : ((tattleref08_Nodes.f k l2).bind fun t643 => (if t643 = true then ((tattleref02_May.f a1_0 a1_1).bind fun t644 => (tattleref08_Next.j0 k l2 (!t644) l0_0 a0_1 a1_0 a1_1)) else (tattleref08_Next.j0 k l2 true l0_0 a0_1 a1_0 a1_1))) = some (r1, r2, r3, r4, r5, r6) := by rw [if_pos rfl] at H; exact H
      clear H
      have H := H1
      clear H1
      replace H := Option.bind_eq_some_iff.mp H
      obtain ⟨t643, A110, H⟩ := H
      replace H : (if t643 = true then ((tattleref02_May.f a1_0 a1_1).bind fun t644 => (tattleref08_Next.j0 k l2 (!t644) l0_0 a0_1 a1_0 a1_1)) else (tattleref08_Next.j0 k l2 true l0_0 a0_1 a1_0 a1_1)) = some (r1, r2, r3, r4, r5, r6) := H
      have A11 := Aside0.mk A110
      clear A110
      by_cases c12 : t643 = true
      · subst c12
        have H1 : ((tattleref02_May.f a1_0 a1_1).bind fun t644 => (tattleref08_Next.j0 k l2 (!t644) l0_0 a0_1 a1_0 a1_1)) = some (r1, r2, r3, r4, r5, r6) := by rw [if_pos rfl] at H; exact H
        clear H
        have H := H1
        clear H1
        replace H := Option.bind_eq_some_iff.mp H
        obtain ⟨t644, A130, H⟩ := H
        replace H : (tattleref08_Next.j0 k l2 (!t644) l0_0 a0_1 a1_0 a1_1) = some (r1, r2, r3, r4, r5, r6) := H
        have A13 := Aside0.mk A130
        clear A130
        have H' := Aside0.mk H
        clear H
        have hnb14 := NB638_639.out
        have hnc14 := NB639_638.out
        have hnb15 := NB638_640.out
        have hnc15 := NB640_638.out
        have hnb16 := NB638_641.out
        have hnc16 := NB641_638.out
        have hcz17_0 : w8.cell? ⟨gb638, 0, none⟩ = some (.slice A0_0 l0_0.length c0_0) := (blk_cell BK638.out 0).trans rfl
        have hcz17_1 : w8.cell? ⟨gb638, 1, none⟩ = some (.int .i64 a0_1) := (blk_cell BK638.out 1).trans rfl
        have hfz17_0 := blk_frozen BK638.out 0
        have hfz17_1 := blk_frozen BK638.out 1
        go_wp2_with (first | ((with_reducible refine gate_callee (f := 34) rfl ?_); refine goesL_ (some 15) rfl rfl Try.func34 (by kernel_rfl) rfl #[.agg #[.slice A0_0 l0_0.length c0_0, .int .i64 a0_1]] rfl (by (try simp only [List.map_toArray, List.map_cons, List.map_nil]); first | done | rfl | (simp only [List.length_drop, List.length_take]; rfl)) ?_; (with_reducible refine (tattleref08_May.calls k _ _ l0_0 a0_1 true _ ?side1 ?side2 A9.out).mono ?_); (case side1 => repeat (first | exact (Kd.V_reads' HO0_0.out).2.2 | (with_reducible refine Kd.C_alloc ?_ _) | (with_reducible refine Kd.C_drewN ?_ _) | (with_reducible refine Kd.C_drew ?_))); (case side2 => exact (Kd.V_reads' HO0_0.out).2.1); rintro e w18 ⟨rfl, hb⟩; refine ⟨_, rfl, ?_⟩; have n0_ := Aside0.mk (Kd.V_below (by (with_reducible repeat (first | apply Kd.V_alloc | apply Kd.V_drewN | apply Kd.V_drew)); exact HO0_0.out) hb); have n1_ := Aside0.mk (blk_below (g := gb638) (o := .cells #[.slice A0_0 l0_0.length c0_0, .int .i64 a0_1] 49 (0, 0)) (by (with_reducible repeat (first | refine blk_drewN ?_ _ | refine blk_drew ?_ | refine blk_alloc ?_ _)); exact BK638.out) hb); have n2_ := Aside0.mk (blk_below (g := gb639) (o := .cells #[.string a1_0, .int .i64 a1_1] 23 (0, 0)) (by (with_reducible repeat (first | refine blk_drewN ?_ _ | refine blk_drew ?_ | refine blk_alloc ?_ _)); exact BK639.out) hb); have n3_ := Aside0.mk (blk_below (g := gb640) (o := .cells #[.slice none 0 0, .int .i64 0] 49 (0, 0)) (by (with_reducible repeat (first | refine blk_drewN ?_ _ | refine blk_drew ?_ | refine blk_alloc ?_ _)); exact BK640.out) hb); have n4_ := Aside0.mk (blk_below (g := gb641) (o := .cells #[.string (⟨#[]⟩ : ByteArray), .int .i64 0] 23 (0, 0)) (by (with_reducible repeat (first | refine blk_drewN ?_ _ | refine blk_drew ?_ | refine blk_alloc ?_ _)); exact BK641.out) hb); have n5_ := Aside0.mk (below_step (by repeat (first | (with_reducible first | exact HB.out | apply below_alloc | apply pw_below_drewN | apply below_drew1 | refine below_set ?_ GE638.out | refine below_set ?_ GE639.out | refine below_set ?_ GE640.out | refine below_set ?_ GE641.out) | exact HB.out)) hb); clear HO0_0; clear BK638; clear BK639; clear BK640; clear BK641; clear HB; have HO0_0 := n0_; have BK638 := n1_; have BK639 := n2_; have BK640 := n3_; have BK641 := n4_; have HB := n5_; clear n0_ n1_ n2_ n3_ n4_ n5_; (try clear hb); (try clear hb2); (try clear hk); (try clear hi)) | (go_at_call 35; (with_reducible refine (tattleref08_Nodes.calls k _ _ l2 true _ ?side1 ?side2 A11.out).mono ?_); (case side1 => repeat (first | exact (Kd.C_below HR2.out HB.out) | (with_reducible refine Kd.C_alloc ?_ _) | (with_reducible refine Kd.C_drewN ?_ _) | (with_reducible refine Kd.C_drew ?_))); (case side2 => exact HC2.out); rintro e w' ⟨rfl, ⟨nd, rfl⟩⟩; have hnb19 := NB639_640.out; have hnc19 := NB640_639.out; have hnb20 := NB639_641.out; have hnc20 := NB641_639.out; have hcz21_0 : w18.cell? ⟨gb639, 0, none⟩ = some (.string a1_0) := (blk_cell BK639.out 0).trans rfl; have hcz21_1 : w18.cell? ⟨gb639, 1, none⟩ = some (.int .i64 a1_1) := (blk_cell BK639.out 1).trans rfl; have hfz21_0 := blk_frozen BK639.out 0; have hfz21_1 := blk_frozen BK639.out 1) | (go_at_call 19; (with_reducible refine (tattleref02_May.calls a1_0 a1_1 t644 _ A13.out).mono ?_); rintro e w22 ⟨rfl, hb⟩; have n0_ := Aside0.mk (Kd.V_below (by (with_reducible repeat (first | apply Kd.V_alloc | apply Kd.V_drewN | apply Kd.V_drew)); exact HO0_0.out) hb); have n1_ := Aside0.mk (blk_below (g := gb638) (o := .cells #[.slice A0_0 l0_0.length c0_0, .int .i64 a0_1] 49 (0, 0)) (by (with_reducible repeat (first | refine blk_drewN ?_ _ | refine blk_drew ?_ | refine blk_alloc ?_ _)); exact BK638.out) hb); have n2_ := Aside0.mk (blk_below (g := gb639) (o := .cells #[.string a1_0, .int .i64 a1_1] 23 (0, 0)) (by (with_reducible repeat (first | refine blk_drewN ?_ _ | refine blk_drew ?_ | refine blk_alloc ?_ _)); exact BK639.out) hb); have n3_ := Aside0.mk (blk_below (g := gb640) (o := .cells #[.slice none 0 0, .int .i64 0] 49 (0, 0)) (by (with_reducible repeat (first | refine blk_drewN ?_ _ | refine blk_drew ?_ | refine blk_alloc ?_ _)); exact BK640.out) hb); have n4_ := Aside0.mk (blk_below (g := gb641) (o := .cells #[.string (⟨#[]⟩ : ByteArray), .int .i64 0] 23 (0, 0)) (by (with_reducible repeat (first | refine blk_drewN ?_ _ | refine blk_drew ?_ | refine blk_alloc ?_ _)); exact BK641.out) hb); have n5_ := Aside0.mk (below_step (by repeat (first | (with_reducible first | exact HB.out | apply below_alloc | apply pw_below_drewN | apply below_drew1 | refine below_set ?_ GE638.out | refine below_set ?_ GE639.out | refine below_set ?_ GE640.out | refine below_set ?_ GE641.out) | exact HB.out)) hb); clear HO0_0; clear BK638; clear BK639; clear BK640; clear BK641; clear HB; have HO0_0 := n0_; have BK638 := n1_; have BK639 := n2_; have BK640 := n3_; have BK641 := n4_; have HB := n5_; clear n0_ n1_ n2_ n3_ n4_ n5_; (try clear hb); (try clear hb2); (try clear hk); (try clear hi)))
        go_meet
        case rel => exact ⟨_, (!t644), (by first | rfl | (simp; done) | (simp [*]; done)), H', ⟨by first | omega | exact Nat.le_refl _⟩, ⟨by (with_reducible repeat (first | apply Kd.V_alloc | apply Kd.V_drewN | apply Kd.V_drew)); exact Kd.V_mono HO0_0.out (fun _ hk => ⟨hk.1.1.1.1, ⟨hk.1.1.1.2, ⟨hk.1.1.2, ⟨hk.1.2, hk.2⟩⟩⟩⟩)⟩, ⟨by (with_reducible repeat (first | refine blk_drewN ?_ _ | refine blk_drew ?_ | refine blk_alloc ?_ _)); exact BK638.out⟩, ⟨by (with_reducible repeat (first | refine blk_drewN ?_ _ | refine blk_drew ?_ | refine blk_alloc ?_ _)); exact BK639.out⟩, ⟨by (with_reducible repeat (first | refine blk_drewN ?_ _ | refine blk_drew ?_ | refine blk_alloc ?_ _)); exact BK640.out⟩, ⟨by (with_reducible repeat (first | refine blk_drewN ?_ _ | refine blk_drew ?_ | refine blk_alloc ?_ _)); exact BK641.out⟩, ⟨by repeat (first | (with_reducible first | exact HB.out | apply below_alloc | apply pw_below_drewN | apply below_drew1 | refine below_set ?_ GE638.out | refine below_set ?_ GE639.out | refine below_set ?_ GE640.out | refine below_set ?_ GE641.out) | exact HB.out)⟩⟩
      · replace c12 := Bool.eq_false_iff.mpr c12
        subst c12
        have H1 : (tattleref08_Next.j0 k l2 true l0_0 a0_1 a1_0 a1_1) = some (r1, r2, r3, r4, r5, r6) := by rw [if_neg (show ¬ (false = true) by decide)] at H; exact H
        clear H
        have H := H1
        clear H1
        have H' := Aside0.mk H
        clear H
        have hnb23 := NB638_639.out
        have hnc23 := NB639_638.out
        have hnb24 := NB638_640.out
        have hnc24 := NB640_638.out
        have hnb25 := NB638_641.out
        have hnc25 := NB641_638.out
        have hcz26_0 : w8.cell? ⟨gb638, 0, none⟩ = some (.slice A0_0 l0_0.length c0_0) := (blk_cell BK638.out 0).trans rfl
        have hcz26_1 : w8.cell? ⟨gb638, 1, none⟩ = some (.int .i64 a0_1) := (blk_cell BK638.out 1).trans rfl
        have hfz26_0 := blk_frozen BK638.out 0
        have hfz26_1 := blk_frozen BK638.out 1
        go_wp2_with (first | ((with_reducible refine gate_callee (f := 34) rfl ?_); refine goesL_ (some 15) rfl rfl Try.func34 (by kernel_rfl) rfl #[.agg #[.slice A0_0 l0_0.length c0_0, .int .i64 a0_1]] rfl (by (try simp only [List.map_toArray, List.map_cons, List.map_nil]); first | done | rfl | (simp only [List.length_drop, List.length_take]; rfl)) ?_; (with_reducible refine (tattleref08_May.calls k _ _ l0_0 a0_1 true _ ?side1 ?side2 A9.out).mono ?_); (case side1 => repeat (first | exact (Kd.V_reads' HO0_0.out).2.2 | (with_reducible refine Kd.C_alloc ?_ _) | (with_reducible refine Kd.C_drewN ?_ _) | (with_reducible refine Kd.C_drew ?_))); (case side2 => exact (Kd.V_reads' HO0_0.out).2.1); rintro e w27 ⟨rfl, hb⟩; refine ⟨_, rfl, ?_⟩; have n0_ := Aside0.mk (Kd.V_below (by (with_reducible repeat (first | apply Kd.V_alloc | apply Kd.V_drewN | apply Kd.V_drew)); exact HO0_0.out) hb); have n1_ := Aside0.mk (blk_below (g := gb638) (o := .cells #[.slice A0_0 l0_0.length c0_0, .int .i64 a0_1] 49 (0, 0)) (by (with_reducible repeat (first | refine blk_drewN ?_ _ | refine blk_drew ?_ | refine blk_alloc ?_ _)); exact BK638.out) hb); have n2_ := Aside0.mk (blk_below (g := gb639) (o := .cells #[.string a1_0, .int .i64 a1_1] 23 (0, 0)) (by (with_reducible repeat (first | refine blk_drewN ?_ _ | refine blk_drew ?_ | refine blk_alloc ?_ _)); exact BK639.out) hb); have n3_ := Aside0.mk (blk_below (g := gb640) (o := .cells #[.slice none 0 0, .int .i64 0] 49 (0, 0)) (by (with_reducible repeat (first | refine blk_drewN ?_ _ | refine blk_drew ?_ | refine blk_alloc ?_ _)); exact BK640.out) hb); have n4_ := Aside0.mk (blk_below (g := gb641) (o := .cells #[.string (⟨#[]⟩ : ByteArray), .int .i64 0] 23 (0, 0)) (by (with_reducible repeat (first | refine blk_drewN ?_ _ | refine blk_drew ?_ | refine blk_alloc ?_ _)); exact BK641.out) hb); have n5_ := Aside0.mk (below_step (by repeat (first | (with_reducible first | exact HB.out | apply below_alloc | apply pw_below_drewN | apply below_drew1 | refine below_set ?_ GE638.out | refine below_set ?_ GE639.out | refine below_set ?_ GE640.out | refine below_set ?_ GE641.out) | exact HB.out)) hb); clear HO0_0; clear BK638; clear BK639; clear BK640; clear BK641; clear HB; have HO0_0 := n0_; have BK638 := n1_; have BK639 := n2_; have BK640 := n3_; have BK641 := n4_; have HB := n5_; clear n0_ n1_ n2_ n3_ n4_ n5_; (try clear hb); (try clear hb2); (try clear hk); (try clear hi)) | (go_at_call 35; (with_reducible refine (tattleref08_Nodes.calls k _ _ l2 false _ ?side1 ?side2 A11.out).mono ?_); (case side1 => repeat (first | exact (Kd.C_below HR2.out HB.out) | (with_reducible refine Kd.C_alloc ?_ _) | (with_reducible refine Kd.C_drewN ?_ _) | (with_reducible refine Kd.C_drew ?_))); (case side2 => exact HC2.out); rintro e w' ⟨rfl, ⟨nd, rfl⟩⟩))
        go_meet
        case rel => exact ⟨_, (true), (by first | rfl | (simp; done) | (simp [*]; done)), H', ⟨by first | omega | exact Nat.le_refl _⟩, ⟨by (with_reducible repeat (first | apply Kd.V_alloc | apply Kd.V_drewN | apply Kd.V_drew)); exact Kd.V_mono HO0_0.out (fun _ hk => ⟨hk.1.1.1.1, ⟨hk.1.1.1.2, ⟨hk.1.1.2, ⟨hk.1.2, hk.2⟩⟩⟩⟩)⟩, ⟨by (with_reducible repeat (first | refine blk_drewN ?_ _ | refine blk_drew ?_ | refine blk_alloc ?_ _)); exact BK638.out⟩, ⟨by (with_reducible repeat (first | refine blk_drewN ?_ _ | refine blk_drew ?_ | refine blk_alloc ?_ _)); exact BK639.out⟩, ⟨by (with_reducible repeat (first | refine blk_drewN ?_ _ | refine blk_drew ?_ | refine blk_alloc ?_ _)); exact BK640.out⟩, ⟨by (with_reducible repeat (first | refine blk_drewN ?_ _ | refine blk_drew ?_ | refine blk_alloc ?_ _)); exact BK641.out⟩, ⟨by repeat (first | (with_reducible first | exact HB.out | apply below_alloc | apply pw_below_drewN | apply below_drew1 | refine below_set ?_ GE638.out | refine below_set ?_ GE639.out | refine below_set ?_ GE640.out | refine below_set ?_ GE641.out) | exact HB.out)⟩⟩
    · replace c10 := Bool.eq_false_iff.mpr c10
      subst c10
      have H1 : (tattleref08_Next.j0 k l2 true l0_0 a0_1 a1_0 a1_1) = some (r1, r2, r3, r4, r5, r6) := by rw [if_neg (show ¬ (false = true) by decide)] at H; exact H
      clear H
      have H := H1
      clear H1
      have H' := Aside0.mk H
      clear H
      have hnb28 := NB638_639.out
      have hnc28 := NB639_638.out
      have hnb29 := NB638_640.out
      have hnc29 := NB640_638.out
      have hnb30 := NB638_641.out
      have hnc30 := NB641_638.out
      have hcz31_0 : w8.cell? ⟨gb638, 0, none⟩ = some (.slice A0_0 l0_0.length c0_0) := (blk_cell BK638.out 0).trans rfl
      have hcz31_1 : w8.cell? ⟨gb638, 1, none⟩ = some (.int .i64 a0_1) := (blk_cell BK638.out 1).trans rfl
      have hfz31_0 := blk_frozen BK638.out 0
      have hfz31_1 := blk_frozen BK638.out 1
      go_wp2_with (first | ((with_reducible refine gate_callee (f := 34) rfl ?_); refine goesL_ (some 15) rfl rfl Try.func34 (by kernel_rfl) rfl #[.agg #[.slice A0_0 l0_0.length c0_0, .int .i64 a0_1]] rfl (by (try simp only [List.map_toArray, List.map_cons, List.map_nil]); first | done | rfl | (simp only [List.length_drop, List.length_take]; rfl)) ?_; (with_reducible refine (tattleref08_May.calls k _ _ l0_0 a0_1 false _ ?side1 ?side2 A9.out).mono ?_); (case side1 => repeat (first | exact (Kd.V_reads' HO0_0.out).2.2 | (with_reducible refine Kd.C_alloc ?_ _) | (with_reducible refine Kd.C_drewN ?_ _) | (with_reducible refine Kd.C_drew ?_))); (case side2 => exact (Kd.V_reads' HO0_0.out).2.1); rintro e w32 ⟨rfl, hb⟩; refine ⟨_, rfl, ?_⟩; have n0_ := Aside0.mk (Kd.V_below (by (with_reducible repeat (first | apply Kd.V_alloc | apply Kd.V_drewN | apply Kd.V_drew)); exact HO0_0.out) hb); have n1_ := Aside0.mk (blk_below (g := gb638) (o := .cells #[.slice A0_0 l0_0.length c0_0, .int .i64 a0_1] 49 (0, 0)) (by (with_reducible repeat (first | refine blk_drewN ?_ _ | refine blk_drew ?_ | refine blk_alloc ?_ _)); exact BK638.out) hb); have n2_ := Aside0.mk (blk_below (g := gb639) (o := .cells #[.string a1_0, .int .i64 a1_1] 23 (0, 0)) (by (with_reducible repeat (first | refine blk_drewN ?_ _ | refine blk_drew ?_ | refine blk_alloc ?_ _)); exact BK639.out) hb); have n3_ := Aside0.mk (blk_below (g := gb640) (o := .cells #[.slice none 0 0, .int .i64 0] 49 (0, 0)) (by (with_reducible repeat (first | refine blk_drewN ?_ _ | refine blk_drew ?_ | refine blk_alloc ?_ _)); exact BK640.out) hb); have n4_ := Aside0.mk (blk_below (g := gb641) (o := .cells #[.string (⟨#[]⟩ : ByteArray), .int .i64 0] 23 (0, 0)) (by (with_reducible repeat (first | refine blk_drewN ?_ _ | refine blk_drew ?_ | refine blk_alloc ?_ _)); exact BK641.out) hb); have n5_ := Aside0.mk (below_step (by repeat (first | (with_reducible first | exact HB.out | apply below_alloc | apply pw_below_drewN | apply below_drew1 | refine below_set ?_ GE638.out | refine below_set ?_ GE639.out | refine below_set ?_ GE640.out | refine below_set ?_ GE641.out) | exact HB.out)) hb); clear HO0_0; clear BK638; clear BK639; clear BK640; clear BK641; clear HB; have HO0_0 := n0_; have BK638 := n1_; have BK639 := n2_; have BK640 := n3_; have BK641 := n4_; have HB := n5_; clear n0_ n1_ n2_ n3_ n4_ n5_; (try clear hb); (try clear hb2); (try clear hk); (try clear hi)))
      go_meet
      case rel => exact ⟨_, (true), (by first | rfl | (simp; done) | (simp [*]; done)), H', ⟨by first | omega | exact Nat.le_refl _⟩, ⟨by (with_reducible repeat (first | apply Kd.V_alloc | apply Kd.V_drewN | apply Kd.V_drew)); exact Kd.V_mono HO0_0.out (fun _ hk => ⟨hk.1.1.1.1, ⟨hk.1.1.1.2, ⟨hk.1.1.2, ⟨hk.1.2, hk.2⟩⟩⟩⟩)⟩, ⟨by (with_reducible repeat (first | refine blk_drewN ?_ _ | refine blk_drew ?_ | refine blk_alloc ?_ _)); exact BK638.out⟩, ⟨by (with_reducible repeat (first | refine blk_drewN ?_ _ | refine blk_drew ?_ | refine blk_alloc ?_ _)); exact BK639.out⟩, ⟨by (with_reducible repeat (first | refine blk_drewN ?_ _ | refine blk_drew ?_ | refine blk_alloc ?_ _)); exact BK640.out⟩, ⟨by (with_reducible repeat (first | refine blk_drewN ?_ _ | refine blk_drew ?_ | refine blk_alloc ?_ _)); exact BK641.out⟩, ⟨by repeat (first | (with_reducible first | exact HB.out | apply below_alloc | apply pw_below_drewN | apply below_drew1 | refine below_set ?_ GE638.out | refine below_set ?_ GE639.out | refine below_set ?_ GE640.out | refine below_set ?_ GE641.out) | exact HB.out)⟩⟩
  case rest =>
    clear HC4
    try clear c1
    try clear c2
    try clear p2
    try clear c3
    try clear c10
    try clear c12
    try clear c14
    try clear c15
    try clear c16
    try clear c19
    try clear c20
    try clear c23
    try clear c24
    try clear c25
    try clear c28
    try clear c29
    try clear c30
    try clear hcz17_0
    try clear hcz17_1
    try clear hcz21_0
    try clear hcz21_1
    try clear hcz26_0
    try clear hcz26_1
    try clear hcz31_0
    try clear hcz31_1
    try clear hfz17_0
    try clear hfz17_1
    try clear hfz21_0
    try clear hfz21_1
    try clear hfz26_0
    try clear hfz26_1
    try clear hfz31_0
    try clear hfz31_1
    obtain ⟨kq, x26_3, rfl, HA, HJ3, HO_639000, BK638, BK639, BK640, BK641, HB⟩ := hcut
    cases kq with
    | zero => exact absurd HA.out (by simp [tattleref08_Next.j0])
    | succ kj3 =>
      have H := HA.out
      clear HA
      simp only [tattleref08_Next.j0] at H
      by_cases c33 : x26_3 = true
      · subst c33
        have H1 : (some (0, l0_0, a0_1, a1_0, a1_1, 1)) = some (r1, r2, r3, r4, r5, r6) := by rw [if_pos rfl] at H; exact H
        clear H
        have H := H1
        clear H1
        simp only [Option.some.injEq, Prod.mk.injEq] at H
        obtain ⟨rfl, rfl, rfl, rfl, rfl, rfl⟩ := H
        try go_wp2
        have n0_ := Aside0.mk (Kd.V_drew HO_639000.out)
        have n1_ := Aside0.mk (blk_drew BK638.out)
        have n2_ := Aside0.mk (blk_drew BK639.out)
        have n3_ := Aside0.mk (blk_drew BK640.out)
        have n4_ := Aside0.mk (blk_drew BK641.out)
        have n5_ := Aside0.mk (below_drew1 HB.out)
        clear HO_639000
        clear BK638
        clear BK639
        clear BK640
        clear BK641
        clear HB
        have HO_639000 := n0_
        have BK638 := n1_
        have BK639 := n2_
        have BK640 := n3_
        have BK641 := n4_
        have HB := n5_
        clear n0_ n1_ n2_ n3_ n4_ n5_
        refine start_ (n := 6) (S := fun w' => w'.cell? ⟨gb638, 0, none⟩ = some (.slice A0_0 l0_0.length c0_0) ∧ w'.cell? ⟨gb638, 1, none⟩ = some (.int .i64 a0_1) ∧ w'.cell? ⟨gb639, 0, none⟩ = some (.string a1_0) ∧ w'.cell? ⟨gb639, 1, none⟩ = some (.int .i64 a1_1)) (ds := []) #[false, false, false, false, false, false] (by kernel_rfl) rfl rfl ⟨(blk_cell BK638.out 0).trans rfl, (blk_cell BK638.out 1).trans rfl, (blk_cell BK639.out 0).trans rfl, (blk_cell BK639.out 1).trans rfl⟩ (fun hHeld => ?_)
        generalize wc.drew = w34 at HO_639000 BK638 BK639 BK640 BK641 HB hHeld ⊢
        refine pure_ (i := 2) (N := some 6) (v := ?_) (a' := ?_) #[false, false, true, false, false, false] rfl rfl (by kernel_rfl) (fun _ _ _ h => h) (Or.inl ⟨by rfl, ?_⟩) ?_ ?_
        rotate_left
        · intro w'
          go_simp
          with_reducible rfl
        rotate_left
        · simp only [Act.put, List.setIfInBounds_toArray, List.set_cons_zero, List.set_cons_succ, i64_w, i32_w]
          rfl
        refine take_ (i := 0) (N := some 27) (v := ?_) (a' := ?_) #[true, false, true, false, false, false] rfl rfl (by kernel_rfl) (fun _ _ _ h => h) (Or.inl ⟨by rfl, ?_⟩) hHeld ?_ ?_
        rotate_left
        · rintro w' ⟨s0, s1, s2, s3⟩
          go_simp
          with_reducible rfl
        rotate_left
        · simp only [Act.put, List.setIfInBounds_toArray, List.set_cons_zero, List.set_cons_succ, i64_w, i32_w]
          rfl
        refine take_ (i := 1) (N := some 28) (v := ?_) (a' := ?_) #[true, true, true, false, false, false] rfl rfl (by kernel_rfl) (fun _ _ _ h => h) (Or.inl ⟨by rfl, ?_⟩) hHeld ?_ ?_
        rotate_left
        · rintro w' ⟨s0, s1, s2, s3⟩
          go_simp
          with_reducible rfl
        rotate_left
        · simp only [Act.put, List.setIfInBounds_toArray, List.set_cons_zero, List.set_cons_succ, i64_w, i32_w]
          rfl
        refine one_ (i := 3) (N := none) #[true, true, true, true, false, false] rfl rfl (by kernel_rfl) (by decide) (fun K hK => ?_)
        have hs35 : w34.cell? ⟨gb640, 0, none⟩ = some (.slice none 0 0) := (blk_cell BK640.out 0).trans rfl
        have hfs35 := blk_frozen BK640.out 0
        have hns35_0 := NB638_640.out
        have hns35_1 := NB639_640.out
        have hns35_3 := NB641_640.out
        have hms35_0 := NB640_638.out
        have hms35_1 := NB640_639.out
        have hms35_3 := NB640_641.out
        have hs36 : w34.cell? ⟨gb640, 1, none⟩ = some (.int .i64 0) := (blk_cell BK640.out 1).trans rfl
        have hfs36 := blk_frozen BK640.out 1
        have hns36_0 := NB638_640.out
        have hns36_1 := NB639_640.out
        have hns36_3 := NB641_640.out
        have hms36_0 := NB640_638.out
        have hms36_1 := NB640_639.out
        have hms36_3 := NB640_641.out
        refine skip_ (w1 := ?_) (by rfl) rfl ?_ ?_
        rotate_left
        · go_simp
          rfl
        refine hK.out _ _ ⟨((cell_far (p := ⟨gb640, _, none⟩) NB638_640.out _).trans (((cell_far (p := ⟨gb640, _, none⟩) NB638_640.out _).trans (hHeld.1)))), ((cell_far (p := ⟨gb640, _, none⟩) NB638_640.out _).trans (((cell_far (p := ⟨gb640, _, none⟩) NB638_640.out _).trans (hHeld.2.1)))), ((cell_far (p := ⟨gb640, _, none⟩) NB639_640.out _).trans (((cell_far (p := ⟨gb640, _, none⟩) NB639_640.out _).trans (hHeld.2.2.1)))), ((cell_far (p := ⟨gb640, _, none⟩) NB639_640.out _).trans (((cell_far (p := ⟨gb640, _, none⟩) NB639_640.out _).trans (hHeld.2.2.2))))⟩ (fun hHeld => ?_)
        clear hK K
        refine one_ (i := 4) (N := none) #[true, true, true, true, true, false] rfl rfl (by kernel_rfl) (by decide) (fun K hK => ?_)
        have hs37 : w34.cell? ⟨gb641, 0, none⟩ = some (.string (⟨#[]⟩ : ByteArray)) := (blk_cell BK641.out 0).trans rfl
        have hfs37 := blk_frozen BK641.out 0
        have hns37_0 := NB638_641.out
        have hns37_1 := NB639_641.out
        have hns37_2 := NB640_641.out
        have hms37_0 := NB641_638.out
        have hms37_1 := NB641_639.out
        have hms37_2 := NB641_640.out
        have hs38 : w34.cell? ⟨gb641, 1, none⟩ = some (.int .i64 0) := (blk_cell BK641.out 1).trans rfl
        have hfs38 := blk_frozen BK641.out 1
        have hns38_0 := NB638_641.out
        have hns38_1 := NB639_641.out
        have hns38_2 := NB640_641.out
        have hms38_0 := NB641_638.out
        have hms38_1 := NB641_639.out
        have hms38_2 := NB641_640.out
        refine skip_ (w1 := ?_) (by rfl) rfl ?_ ?_
        rotate_left
        · go_simp
          rfl
        refine hK.out _ _ ⟨((cell_far (p := ⟨gb641, _, none⟩) NB638_641.out _).trans (((cell_far (p := ⟨gb641, _, none⟩) NB638_641.out _).trans (hHeld.1)))), ((cell_far (p := ⟨gb641, _, none⟩) NB638_641.out _).trans (((cell_far (p := ⟨gb641, _, none⟩) NB638_641.out _).trans (hHeld.2.1)))), ((cell_far (p := ⟨gb641, _, none⟩) NB639_641.out _).trans (((cell_far (p := ⟨gb641, _, none⟩) NB639_641.out _).trans (hHeld.2.2.1)))), ((cell_far (p := ⟨gb641, _, none⟩) NB639_641.out _).trans (((cell_far (p := ⟨gb641, _, none⟩) NB639_641.out _).trans (hHeld.2.2.2))))⟩ (fun hHeld => ?_)
        clear hK K
        refine pure_ (i := 5) (N := some 9) (v := ?_) (a' := ?_) #[true, true, true, true, true, true] rfl rfl (by kernel_rfl) (fun _ _ _ h => h) (Or.inl ⟨by rfl, ?_⟩) ?_ ?_
        rotate_left
        · intro w'
          go_simp
          with_reducible rfl
        rotate_left
        · simp only [Act.put, List.setIfInBounds_toArray, List.set_cons_zero, List.set_cons_succ, i64_w, i32_w]
          rfl
        refine done_ (by kernel_rfl) ?_
        try go_wp2
        refine bodyPost_ret (results_list (rs := [.tmp 6, .cell 7 49, .cell 8 23, .tmp 9]) rfl (by simp) (.tmp (.cell gb640 49 #[.slice A0_0 l0_0.length c0_0, .int .i64 a0_1] (0, 0) _ rfl (by (with_reducible repeat (first | refine blk_drewN ?_ _ | refine blk_drew ?_ | refine blk_alloc ?_ _)); refine blk_far ?_ NB640_641.out _; (with_reducible repeat (first | refine blk_drewN ?_ _ | refine blk_drew ?_ | refine blk_alloc ?_ _)); refine blk_far ?_ NB640_641.out _; (with_reducible repeat (first | refine blk_drewN ?_ _ | refine blk_drew ?_ | refine blk_alloc ?_ _)); refine blk_put (cs := #[.slice A0_0 l0_0.length c0_0, .int .i64 0]) ?_ 1 _ rfl; (with_reducible repeat (first | refine blk_drewN ?_ _ | refine blk_drew ?_ | refine blk_alloc ?_ _)); refine blk_put (cs := #[.slice none 0 0, .int .i64 0]) ?_ 0 _ rfl; (with_reducible repeat (first | refine blk_drewN ?_ _ | refine blk_drew ?_ | refine blk_alloc ?_ _)); exact BK640.out) Try.underlying49 rfl (by kernel_rfl) (.cell gb641 23 #[.string a1_0, .int .i64 a1_1] (0, 0) _ rfl (by (with_reducible repeat (first | refine blk_drewN ?_ _ | refine blk_drew ?_ | refine blk_alloc ?_ _)); refine blk_put (cs := #[.string a1_0, .int .i64 0]) ?_ 1 _ rfl; (with_reducible repeat (first | refine blk_drewN ?_ _ | refine blk_drew ?_ | refine blk_alloc ?_ _)); refine blk_put (cs := #[.string (⟨#[]⟩ : ByteArray), .int .i64 0]) ?_ 0 _ rfl; (with_reducible repeat (first | refine blk_drewN ?_ _ | refine blk_drew ?_ | refine blk_alloc ?_ _)); refine blk_far ?_ NB641_640.out _; (with_reducible repeat (first | refine blk_drewN ?_ _ | refine blk_drew ?_ | refine blk_alloc ?_ _)); refine blk_far ?_ NB641_640.out _; (with_reducible repeat (first | refine blk_drewN ?_ _ | refine blk_drew ?_ | refine blk_alloc ?_ _)); exact BK641.out) Try.underlying23 rfl (by kernel_rfl) (.tmp .nil))))) rfl ?_
        exact ⟨_, by first | rfl | (simp [errW_none, errW_some] <;> rfl) | (simp [*, errW_none, errW_some] <;> rfl), by (with_reducible repeat (first | apply Kd.V_alloc | apply Kd.V_drewN | apply Kd.V_drew)); exact Kd.V_mono (Kd.V_far (p := ⟨gb641, 1, none⟩) (Kd.V_far (p := ⟨gb641, 0, none⟩) (Kd.V_far (p := ⟨gb640, 1, none⟩) (Kd.V_far (p := ⟨gb640, 0, none⟩) (Kd.V_mono (Kd.V_mono HO_639000.out (fun k_ hk => (⟨hk, hk.2.2.2.1⟩ : _ ∧ k_ ≠ gb640))) (fun k_ hk => (⟨hk, hk.1.2.2.2.2⟩ : _ ∧ k_ ≠ gb641))) (fun _ hk => hk.1.2) (.slice A0_0 l0_0.length c0_0)) (fun _ hk => hk.1.2) (.int .i64 a0_1)) (fun _ hk => hk.2) (.string a1_0)) (fun _ hk => hk.2) (.int .i64 a1_1)) (fun _ hk => hk.1.1.1), by repeat (first | (with_reducible first | exact HB.out | apply below_alloc | apply pw_below_drewN | apply below_drew1 | refine below_set ?_ GE638.out | refine below_set ?_ GE639.out | refine below_set ?_ GE640.out | refine below_set ?_ GE641.out) | exact HB.out)⟩
      · replace c33 := Bool.eq_false_iff.mpr c33
        subst c33
        have H1 : (if (l2.length : Int) = 0 then (some (0, l0_0, a0_1, a1_0, a1_1, 6)) else (tattleref08_Next.l0 kj3 l2 a0_1 l0_0 a0_1 a1_0 a1_1)) = some (r1, r2, r3, r4, r5, r6) := by rw [if_neg (show ¬ (false = true) by decide)] at H; exact H
        clear H
        have H := H1
        clear H1
        by_cases c39 : (l2.length : Int) = 0
        · rw [if_pos c39] at H
          have c39b0 : ((l2.length : Int) == 0) = true := beq_iff_eq.mpr c39
          have c39b1 : ((l2.length : Int) != 0) = false := bne_eq_false_iff_eq.mpr c39
          clear c39
          simp only [Option.some.injEq, Prod.mk.injEq] at H
          obtain ⟨rfl, rfl, rfl, rfl, rfl, rfl⟩ := H
          try go_wp2
          have n0_ := Aside0.mk (Kd.V_drew HO_639000.out)
          have n1_ := Aside0.mk (blk_drew BK638.out)
          have n2_ := Aside0.mk (blk_drew BK639.out)
          have n3_ := Aside0.mk (blk_drew BK640.out)
          have n4_ := Aside0.mk (blk_drew BK641.out)
          have n5_ := Aside0.mk (below_drew1 HB.out)
          clear HO_639000
          clear BK638
          clear BK639
          clear BK640
          clear BK641
          clear HB
          have HO_639000 := n0_
          have BK638 := n1_
          have BK639 := n2_
          have BK640 := n3_
          have BK641 := n4_
          have HB := n5_
          clear n0_ n1_ n2_ n3_ n4_ n5_
          refine start_ (n := 6) (S := fun w' => w'.cell? ⟨gb638, 0, none⟩ = some (.slice A0_0 l0_0.length c0_0) ∧ w'.cell? ⟨gb638, 1, none⟩ = some (.int .i64 a0_1) ∧ w'.cell? ⟨gb639, 0, none⟩ = some (.string a1_0) ∧ w'.cell? ⟨gb639, 1, none⟩ = some (.int .i64 a1_1)) (ds := []) #[false, false, false, false, false, false] (by kernel_rfl) rfl rfl ⟨(blk_cell BK638.out 0).trans rfl, (blk_cell BK638.out 1).trans rfl, (blk_cell BK639.out 0).trans rfl, (blk_cell BK639.out 1).trans rfl⟩ (fun hHeld => ?_)
          generalize wc.drew = w40 at HO_639000 BK638 BK639 BK640 BK641 HB hHeld ⊢
          refine pure_ (i := 2) (N := some 6) (v := ?_) (a' := ?_) #[false, false, true, false, false, false] rfl rfl (by kernel_rfl) (fun _ _ _ h => h) (Or.inl ⟨by rfl, ?_⟩) ?_ ?_
          rotate_left
          · intro w'
            go_simp
            with_reducible rfl
          rotate_left
          · simp only [Act.put, List.setIfInBounds_toArray, List.set_cons_zero, List.set_cons_succ, i64_w, i32_w]
            rfl
          refine take_ (i := 0) (N := some 32) (v := ?_) (a' := ?_) #[true, false, true, false, false, false] rfl rfl (by kernel_rfl) (fun _ _ _ h => h) (Or.inl ⟨by rfl, ?_⟩) hHeld ?_ ?_
          rotate_left
          · rintro w' ⟨s0, s1, s2, s3⟩
            go_simp
            with_reducible rfl
          rotate_left
          · simp only [Act.put, List.setIfInBounds_toArray, List.set_cons_zero, List.set_cons_succ, i64_w, i32_w]
            rfl
          refine take_ (i := 1) (N := some 33) (v := ?_) (a' := ?_) #[true, true, true, false, false, false] rfl rfl (by kernel_rfl) (fun _ _ _ h => h) (Or.inl ⟨by rfl, ?_⟩) hHeld ?_ ?_
          rotate_left
          · rintro w' ⟨s0, s1, s2, s3⟩
            go_simp
            with_reducible rfl
          rotate_left
          · simp only [Act.put, List.setIfInBounds_toArray, List.set_cons_zero, List.set_cons_succ, i64_w, i32_w]
            rfl
          refine one_ (i := 3) (N := none) #[true, true, true, true, false, false] rfl rfl (by kernel_rfl) (by decide) (fun K hK => ?_)
          have hs41 : w40.cell? ⟨gb640, 0, none⟩ = some (.slice none 0 0) := (blk_cell BK640.out 0).trans rfl
          have hfs41 := blk_frozen BK640.out 0
          have hns41_0 := NB638_640.out
          have hns41_1 := NB639_640.out
          have hns41_3 := NB641_640.out
          have hms41_0 := NB640_638.out
          have hms41_1 := NB640_639.out
          have hms41_3 := NB640_641.out
          have hs42 : w40.cell? ⟨gb640, 1, none⟩ = some (.int .i64 0) := (blk_cell BK640.out 1).trans rfl
          have hfs42 := blk_frozen BK640.out 1
          have hns42_0 := NB638_640.out
          have hns42_1 := NB639_640.out
          have hns42_3 := NB641_640.out
          have hms42_0 := NB640_638.out
          have hms42_1 := NB640_639.out
          have hms42_3 := NB640_641.out
          refine skip_ (w1 := ?_) (by rfl) rfl ?_ ?_
          rotate_left
          · go_simp
            rfl
          refine hK.out _ _ ⟨((cell_far (p := ⟨gb640, _, none⟩) NB638_640.out _).trans (((cell_far (p := ⟨gb640, _, none⟩) NB638_640.out _).trans (hHeld.1)))), ((cell_far (p := ⟨gb640, _, none⟩) NB638_640.out _).trans (((cell_far (p := ⟨gb640, _, none⟩) NB638_640.out _).trans (hHeld.2.1)))), ((cell_far (p := ⟨gb640, _, none⟩) NB639_640.out _).trans (((cell_far (p := ⟨gb640, _, none⟩) NB639_640.out _).trans (hHeld.2.2.1)))), ((cell_far (p := ⟨gb640, _, none⟩) NB639_640.out _).trans (((cell_far (p := ⟨gb640, _, none⟩) NB639_640.out _).trans (hHeld.2.2.2))))⟩ (fun hHeld => ?_)
          clear hK K
          refine one_ (i := 4) (N := none) #[true, true, true, true, true, false] rfl rfl (by kernel_rfl) (by decide) (fun K hK => ?_)
          have hs43 : w40.cell? ⟨gb641, 0, none⟩ = some (.string (⟨#[]⟩ : ByteArray)) := (blk_cell BK641.out 0).trans rfl
          have hfs43 := blk_frozen BK641.out 0
          have hns43_0 := NB638_641.out
          have hns43_1 := NB639_641.out
          have hns43_2 := NB640_641.out
          have hms43_0 := NB641_638.out
          have hms43_1 := NB641_639.out
          have hms43_2 := NB641_640.out
          have hs44 : w40.cell? ⟨gb641, 1, none⟩ = some (.int .i64 0) := (blk_cell BK641.out 1).trans rfl
          have hfs44 := blk_frozen BK641.out 1
          have hns44_0 := NB638_641.out
          have hns44_1 := NB639_641.out
          have hns44_2 := NB640_641.out
          have hms44_0 := NB641_638.out
          have hms44_1 := NB641_639.out
          have hms44_2 := NB641_640.out
          refine skip_ (w1 := ?_) (by rfl) rfl ?_ ?_
          rotate_left
          · go_simp
            rfl
          refine hK.out _ _ ⟨((cell_far (p := ⟨gb641, _, none⟩) NB638_641.out _).trans (((cell_far (p := ⟨gb641, _, none⟩) NB638_641.out _).trans (hHeld.1)))), ((cell_far (p := ⟨gb641, _, none⟩) NB638_641.out _).trans (((cell_far (p := ⟨gb641, _, none⟩) NB638_641.out _).trans (hHeld.2.1)))), ((cell_far (p := ⟨gb641, _, none⟩) NB639_641.out _).trans (((cell_far (p := ⟨gb641, _, none⟩) NB639_641.out _).trans (hHeld.2.2.1)))), ((cell_far (p := ⟨gb641, _, none⟩) NB639_641.out _).trans (((cell_far (p := ⟨gb641, _, none⟩) NB639_641.out _).trans (hHeld.2.2.2))))⟩ (fun hHeld => ?_)
          clear hK K
          refine pure_ (i := 5) (N := some 9) (v := ?_) (a' := ?_) #[true, true, true, true, true, true] rfl rfl (by kernel_rfl) (fun _ _ _ h => h) (Or.inl ⟨by rfl, ?_⟩) ?_ ?_
          rotate_left
          · intro w'
            go_simp
            with_reducible rfl
          rotate_left
          · simp only [Act.put, List.setIfInBounds_toArray, List.set_cons_zero, List.set_cons_succ, i64_w, i32_w]
            rfl
          refine done_ (by kernel_rfl) ?_
          try go_wp2
          refine bodyPost_ret (results_list (rs := [.tmp 6, .cell 7 49, .cell 8 23, .tmp 9]) rfl (by simp) (.tmp (.cell gb640 49 #[.slice A0_0 l0_0.length c0_0, .int .i64 a0_1] (0, 0) _ rfl (by (with_reducible repeat (first | refine blk_drewN ?_ _ | refine blk_drew ?_ | refine blk_alloc ?_ _)); refine blk_far ?_ NB640_641.out _; (with_reducible repeat (first | refine blk_drewN ?_ _ | refine blk_drew ?_ | refine blk_alloc ?_ _)); refine blk_far ?_ NB640_641.out _; (with_reducible repeat (first | refine blk_drewN ?_ _ | refine blk_drew ?_ | refine blk_alloc ?_ _)); refine blk_put (cs := #[.slice A0_0 l0_0.length c0_0, .int .i64 0]) ?_ 1 _ rfl; (with_reducible repeat (first | refine blk_drewN ?_ _ | refine blk_drew ?_ | refine blk_alloc ?_ _)); refine blk_put (cs := #[.slice none 0 0, .int .i64 0]) ?_ 0 _ rfl; (with_reducible repeat (first | refine blk_drewN ?_ _ | refine blk_drew ?_ | refine blk_alloc ?_ _)); exact BK640.out) Try.underlying49 rfl (by kernel_rfl) (.cell gb641 23 #[.string a1_0, .int .i64 a1_1] (0, 0) _ rfl (by (with_reducible repeat (first | refine blk_drewN ?_ _ | refine blk_drew ?_ | refine blk_alloc ?_ _)); refine blk_put (cs := #[.string a1_0, .int .i64 0]) ?_ 1 _ rfl; (with_reducible repeat (first | refine blk_drewN ?_ _ | refine blk_drew ?_ | refine blk_alloc ?_ _)); refine blk_put (cs := #[.string (⟨#[]⟩ : ByteArray), .int .i64 0]) ?_ 0 _ rfl; (with_reducible repeat (first | refine blk_drewN ?_ _ | refine blk_drew ?_ | refine blk_alloc ?_ _)); refine blk_far ?_ NB641_640.out _; (with_reducible repeat (first | refine blk_drewN ?_ _ | refine blk_drew ?_ | refine blk_alloc ?_ _)); refine blk_far ?_ NB641_640.out _; (with_reducible repeat (first | refine blk_drewN ?_ _ | refine blk_drew ?_ | refine blk_alloc ?_ _)); exact BK641.out) Try.underlying23 rfl (by kernel_rfl) (.tmp .nil))))) rfl ?_
          exact ⟨_, by first | rfl | (simp [errW_none, errW_some] <;> rfl) | (simp [*, errW_none, errW_some] <;> rfl), by (with_reducible repeat (first | apply Kd.V_alloc | apply Kd.V_drewN | apply Kd.V_drew)); exact Kd.V_mono (Kd.V_far (p := ⟨gb641, 1, none⟩) (Kd.V_far (p := ⟨gb641, 0, none⟩) (Kd.V_far (p := ⟨gb640, 1, none⟩) (Kd.V_far (p := ⟨gb640, 0, none⟩) (Kd.V_mono (Kd.V_mono HO_639000.out (fun k_ hk => (⟨hk, hk.2.2.2.1⟩ : _ ∧ k_ ≠ gb640))) (fun k_ hk => (⟨hk, hk.1.2.2.2.2⟩ : _ ∧ k_ ≠ gb641))) (fun _ hk => hk.1.2) (.slice A0_0 l0_0.length c0_0)) (fun _ hk => hk.1.2) (.int .i64 a0_1)) (fun _ hk => hk.2) (.string a1_0)) (fun _ hk => hk.2) (.int .i64 a1_1)) (fun _ hk => hk.1.1.1), by repeat (first | (with_reducible first | exact HB.out | apply below_alloc | apply pw_below_drewN | apply below_drew1 | refine below_set ?_ GE638.out | refine below_set ?_ GE639.out | refine below_set ?_ GE640.out | refine below_set ?_ GE641.out) | exact HB.out)⟩
        · rw [if_neg c39] at H
          have c39b0 : ((l2.length : Int) == 0) = false := beq_eq_false_iff_ne.mpr c39
          have c39b1 : ((l2.length : Int) != 0) = true := bne_iff_ne.mpr c39
          have c39b2 : ¬ (l2 = []) := fun h_ => c39 (by rw [h_]; rfl)
          have H' := Aside0.mk H
          clear H
          have hnb45 := NB638_639.out
          have hnc45 := NB639_638.out
          have hnb46 := NB638_640.out
          have hnc46 := NB640_638.out
          have hnb47 := NB638_641.out
          have hnc47 := NB641_638.out
          have hcz48_0 : wc.cell? ⟨gb638, 0, none⟩ = some (.slice A0_0 l0_0.length c0_0) := (blk_cell BK638.out 0).trans rfl
          have hcz48_1 : wc.cell? ⟨gb638, 1, none⟩ = some (.int .i64 a0_1) := (blk_cell BK638.out 1).trans rfl
          have hfz48_0 := blk_frozen BK638.out 0
          have hfz48_1 := blk_frozen BK638.out 1
          go_wp2
          go_loopg [10] kj3 (fun kq v10 w' => ∃ (x10_2 : Int) (x641001_2 : Int) (x642000_2 : ByteArray) (x642001_2 : Int), v10 = .int .i64 x10_2 ∧ Aside0 (tattleref08_Next.l0 kq l2 x10_2 l0_0 a0_1 a1_0 a1_1 = some (r1, r2, r3, r4, r5, r6)) ∧ Aside0 (kq ≤ kj3) ∧ Aside0 (Kd.V (Kd.int .i64) 3 w' w.heap.size (fun k_ => (P0_0_ k_ ∨ w.heap.size ≤ k_) ∧ k_ ≠ gb638 ∧ k_ ≠ gb639 ∧ k_ ≠ gb640 ∧ k_ ≠ gb641) (.slice A0_0 l0_0.length c0_0) l0_0) ∧ Aside0 (w'.heap[gb638]? = some (.cells #[(.slice A0_0 l0_0.length c0_0), .int .i64 a0_1] 49 (0, 0))) ∧ Aside0 (w'.heap[gb639]? = some (.cells #[.string a1_0, .int .i64 a1_1] 23 (0, 0))) ∧ Aside0 (w'.heap[gb640]? = some (.cells #[(.slice none 0 0), .int .i64 x641001_2] 49 (0, 0))) ∧ Aside0 (w'.heap[gb641]? = some (.cells #[.string x642000_2, .int .i64 x642001_2] 23 (0, 0))) ∧ Aside0 (Below w.heap.size w w'))
          case atStart => exact ⟨(a0_1), (0), ((⟨#[]⟩ : ByteArray)), (0), (by first | rfl | (simp; done) | (simp [*]; done)), H', ⟨Nat.le_refl _⟩, ⟨by (with_reducible repeat (first | apply Kd.V_alloc | apply Kd.V_drewN | apply Kd.V_drew)); exact HO_639000.out⟩, ⟨by (with_reducible repeat (first | refine blk_drewN ?_ _ | refine blk_drew ?_ | refine blk_alloc ?_ _)); exact BK638.out⟩, ⟨by (with_reducible repeat (first | refine blk_drewN ?_ _ | refine blk_drew ?_ | refine blk_alloc ?_ _)); exact BK639.out⟩, ⟨by (with_reducible repeat (first | refine blk_drewN ?_ _ | refine blk_drew ?_ | refine blk_alloc ?_ _)); exact BK640.out⟩, ⟨by (with_reducible repeat (first | refine blk_drewN ?_ _ | refine blk_drew ?_ | refine blk_alloc ?_ _)); exact BK641.out⟩, ⟨by repeat (first | (with_reducible first | exact HB.out | apply below_alloc | apply pw_below_drewN | apply below_drew1 | refine below_set ?_ GE638.out | refine below_set ?_ GE639.out | refine below_set ?_ GE640.out | refine below_set ?_ GE641.out) | exact HB.out)⟩⟩
          case round =>
            clear H'
            try clear c1
            try clear c2
            try clear p2
            try clear c3
            try clear c4
            try clear c10
            try clear c12
            try clear c14
            try clear c15
            try clear c16
            try clear c19
            try clear c20
            try clear c23
            try clear c24
            try clear c25
            try clear c28
            try clear c29
            try clear c30
            try clear c33
            try clear c34
            try clear c39
            try clear c39b0
            try clear c39b1
            try clear c39b2
            try clear c45
            try clear c46
            try clear c47
            try clear hcz17_0
            try clear hcz17_1
            try clear hcz21_0
            try clear hcz21_1
            try clear hcz26_0
            try clear hcz26_1
            try clear hcz31_0
            try clear hcz31_1
            try clear hcz48_0
            try clear hcz48_1
            try clear hfz17_0
            try clear hfz17_1
            try clear hfz21_0
            try clear hfz21_1
            try clear hfz26_0
            try clear hfz26_1
            try clear hfz31_0
            try clear hfz31_1
            try clear hfz48_0
            try clear hfz48_1
            try clear p2
            obtain ⟨x10_2, x641001_2, x642000_2, x642001_2, rfl, HA, HK2, HO_639000, BK638, BK639, BK640, BK641, HB⟩ := hrel
            cases gk with
            | zero => exact absurd HA.out (by simp [tattleref08_Next.l0])
            | succ k2 =>
              have H := HA.out
              clear HA
              simp only [tattleref08_Next.l0] at H
              by_cases c49 : x10_2 < (l0_0.length : Int)
              · rw [if_pos c49] at H
                have c49b0 : decide (x10_2 < (l0_0.length : Int)) = true := decide_eq_true c49
                clear c49
                by_cases c50 : 0 ≤ x10_2
                · rw [if_pos c50] at H
                  have c50b0 : decide (0 ≤ x10_2) = true := decide_eq_true c50
                  clear c50
                  replace H := Option.bind_eq_some_iff.mp H
                  obtain ⟨t646, A510, H⟩ := H
                  replace H : (if t646 > 0 then (some (rd l0_0 x10_2, l0_0, wrap64 (x10_2 + 1), a1_0, a1_1, 0)) else (tattleref08_Next.l0 k2 l2 (wrap64 (x10_2 + 1)) l0_0 a0_1 a1_0 a1_1)) = some (r1, r2, r3, r4, r5, r6) := H
                  have A51 := Aside0.mk A510
                  clear A510
                  by_cases c52 : t646 > 0
                  · rw [if_pos c52] at H
                    have c52b0 : decide (0 < t646) = true := decide_eq_true c52
                    clear c52
                    simp only [Option.some.injEq, Prod.mk.injEq] at H
                    obtain ⟨rfl, rfl, rfl, rfl, rfl, rfl⟩ := H
                    have hnb53 := NB638_639.out
                    have hnc53 := NB639_638.out
                    have hnb54 := NB638_640.out
                    have hnc54 := NB640_638.out
                    have hnb55 := NB638_641.out
                    have hnc55 := NB641_638.out
                    have hcz56_0 : wr.cell? ⟨gb638, 0, none⟩ = some (.slice A0_0 l0_0.length c0_0) := (blk_cell BK638.out 0).trans rfl
                    have hcz56_1 : wr.cell? ⟨gb638, 1, none⟩ = some (.int .i64 a0_1) := (blk_cell BK638.out 1).trans rfl
                    have hfz56_0 := blk_frozen BK638.out 0
                    have hfz56_1 := blk_frozen BK638.out 1
                    have p645 : 0 ≤ (x10_2 : Int) := of_decide_eq_true (by first | (with_reducible assumption) | assumption)
                    have q645 : x10_2 < (l0_0.length : Int) := of_decide_eq_true (by first | (with_reducible assumption) | assumption)
                    obtain ⟨ad645, e645, hx645_0⟩ := Kd.at_int (Kd.V_reads' HO_639000.out).2.2 x10_2 p645 q645
                    cases e645
                    replace p645 := eq_true p645
                    replace q645 := eq_true q645
                    try go_wp2_with (first | ((with_reducible refine gate_callee (f := 26) rfl ?_); refine goesL_ (some 49) rfl rfl Try.func26 (by kernel_rfl) rfl #[.slice A2 l2.length c2, .int .i64 (rd l0_0 x10_2)] rfl (by (try simp only [List.map_toArray, List.map_cons, List.map_nil]); first | done | rfl | (simp only [List.length_drop, List.length_take]; rfl)) ?_; (with_reducible refine (tattleref02_Many.calls k2 _ _ l2 (rd l0_0 x10_2) t646 _ ?side1 ?side2 A51.out).mono ?_); (case side1 => repeat (first | exact (Kd.C_below HR2.out HB.out) | (with_reducible refine Kd.C_alloc ?_ _) | (with_reducible refine Kd.C_drewN ?_ _) | (with_reducible refine Kd.C_drew ?_))); (case side2 => exact HC2.out); rintro e w' ⟨rfl, ⟨nd, rfl⟩⟩; refine ⟨_, rfl, ?_⟩; (try (rw [drewN_self wr]; generalize hq_ : World.drewN wr _ = wr; have n0_ : Aside0 (Kd.V (Kd.int .i64) 3 wr w.heap.size (fun k_ => (P0_0_ k_ ∨ w.heap.size ≤ k_) ∧ k_ ≠ gb638 ∧ k_ ≠ gb639 ∧ k_ ≠ gb640 ∧ k_ ≠ gb641) (.slice (some ad645) l0_0.length c0_0) l0_0) := ⟨by rw [← hq_]; exact (by (with_reducible repeat (first | apply Kd.V_alloc | apply Kd.V_drewN | apply Kd.V_drew)); exact HO_639000.out)⟩; have n1_ : Aside0 (wr.heap[gb638]? = some (.cells #[.slice (some ad645) l0_0.length c0_0, .int .i64 a0_1] 49 (0, 0))) := ⟨by rw [← hq_]; exact (by (with_reducible repeat (first | refine blk_drewN ?_ _ | refine blk_drew ?_ | refine blk_alloc ?_ _)); exact BK638.out)⟩; have n2_ : Aside0 (wr.heap[gb639]? = some (.cells #[.string a1_0, .int .i64 a1_1] 23 (0, 0))) := ⟨by rw [← hq_]; exact (by (with_reducible repeat (first | refine blk_drewN ?_ _ | refine blk_drew ?_ | refine blk_alloc ?_ _)); exact BK639.out)⟩; have n3_ : Aside0 (wr.heap[gb640]? = some (.cells #[.slice none 0 0, .int .i64 x641001_2] 49 (0, 0))) := ⟨by rw [← hq_]; exact (by (with_reducible repeat (first | refine blk_drewN ?_ _ | refine blk_drew ?_ | refine blk_alloc ?_ _)); exact BK640.out)⟩; have n4_ : Aside0 (wr.heap[gb641]? = some (.cells #[.string x642000_2, .int .i64 x642001_2] 23 (0, 0))) := ⟨by rw [← hq_]; exact (by (with_reducible repeat (first | refine blk_drewN ?_ _ | refine blk_drew ?_ | refine blk_alloc ?_ _)); exact BK641.out)⟩; have n5_ : Aside0 (Below w.heap.size w wr) := ⟨by rw [← hq_]; exact (by repeat (first | (with_reducible first | exact HB.out | apply below_alloc | apply pw_below_drewN | apply below_drew1 | refine below_set ?_ GE638.out | refine below_set ?_ GE639.out | refine below_set ?_ GE640.out | refine below_set ?_ GE641.out) | exact HB.out))⟩; clear HO_639000 BK638 BK639 BK640 BK641 HB hq_; have HO_639000 := n0_; have BK638 := n1_; have BK639 := n2_; have BK640 := n3_; have BK641 := n4_; have HB := n5_; clear n0_ n1_ n2_ n3_ n4_ n5_))))
                    have n0_ := Aside0.mk (Kd.V_drew HO_639000.out)
                    have n1_ := Aside0.mk (blk_drew BK638.out)
                    have n2_ := Aside0.mk (blk_drew BK639.out)
                    have n3_ := Aside0.mk (blk_drew BK640.out)
                    have n4_ := Aside0.mk (blk_drew BK641.out)
                    have n5_ := Aside0.mk (below_drew1 HB.out)
                    clear HO_639000
                    clear BK638
                    clear BK639
                    clear BK640
                    clear BK641
                    clear HB
                    have HO_639000 := n0_
                    have BK638 := n1_
                    have BK639 := n2_
                    have BK640 := n3_
                    have BK641 := n4_
                    have HB := n5_
                    clear n0_ n1_ n2_ n3_ n4_ n5_
                    have p647 : 0 ≤ (x10_2 : Int) := of_decide_eq_true (by first | (with_reducible assumption) | assumption)
                    have q647 : x10_2 < (l0_0.length : Int) := of_decide_eq_true (by first | (with_reducible assumption) | assumption)
                    obtain ⟨ad647, e647, hx647_0⟩ := Kd.at_int (Kd.V_reads' HO_639000.out).2.2 x10_2 p647 q647
                    obtain rfl : ad645 = ad647 := (by injection e647)
                    replace p647 := eq_true p647
                    replace q647 := eq_true q647
                    refine start_ (n := 15) (S := fun w' => w'.cell? ⟨gb638, 0, none⟩ = some (.slice (some ad645) l0_0.length c0_0) ∧ w'.cell? ⟨gb638, 1, none⟩ = some (.int .i64 a0_1) ∧ w'.cell? ⟨gb639, 0, none⟩ = some (.string a1_0) ∧ w'.cell? ⟨gb639, 1, none⟩ = some (.int .i64 a1_1) ∧ w'.cell? (ad645.add (x10_2).toNat) = some (.int .i64 (rd l0_0 x10_2))) (ds := []) #[false, false, false, false, false, false, false, false, false, false, false, false, false, false, false] (by kernel_rfl) rfl rfl ⟨(blk_cell BK638.out 0).trans rfl, (blk_cell BK638.out 1).trans rfl, (blk_cell BK639.out 0).trans rfl, (blk_cell BK639.out 1).trans rfl, hx647_0⟩ (fun hHeld => ?_); refine with_tabW tattleref08_Next.tab9 tattleref08_Next.bits9 (fun HT_ HW_ => ?_)
                    generalize wr.drew = w57 at HO_639000 BK638 BK639 BK640 BK641 HB hx647_0 hHeld ⊢
                    refine pure_ (i := 0) (N := some 51) (v := ?_) (a' := ?_) #[true, false, false, false, false, false, false, false, false, false, false, false, false, false, false] rfl rfl (any_of HT_.out (by kernel_rfl)) (fun _ _ _ h => h) (Or.inl ⟨by rfl, ?_⟩) ?_ ?_
                    rotate_left
                    · intro w'
                      go_simp
                      with_reducible rfl
                    rotate_left
                    · simp only [Act.put, List.setIfInBounds_toArray, List.set_cons_zero, List.set_cons_succ, i64_w, i32_w]
                      rfl
                    refine pure_ (i := 2) (N := some 53) (v := ?_) (a' := ?_) #[true, false, true, false, false, false, false, false, false, false, false, false, false, false, false] rfl rfl (any_of HT_.out (by kernel_rfl)) (fun _ _ _ h => h) (Or.inl ⟨by rfl, ?_⟩) ?_ ?_
                    rotate_left
                    · intro w'
                      go_simp
                      with_reducible rfl
                    rotate_left
                    · simp only [Act.put, List.setIfInBounds_toArray, List.set_cons_zero, List.set_cons_succ, i64_w, i32_w]
                      rfl
                    refine pure_ (i := 5) (N := some 56) (v := ?_) (a' := ?_) #[true, false, true, false, false, true, false, false, false, false, false, false, false, false, false] rfl rfl (any_of HT_.out (by kernel_rfl)) (fun _ _ _ h => h) (Or.inl ⟨by rfl, ?_⟩) ?_ ?_
                    rotate_left
                    · intro w'
                      go_simp
                      with_reducible rfl
                    rotate_left
                    · simp only [Act.put, List.setIfInBounds_toArray, List.set_cons_zero, List.set_cons_succ, i64_w, i32_w]
                      rfl
                    refine pure_ (i := 7) (N := some 58) (v := ?_) (a' := ?_) #[true, false, true, false, false, true, false, true, false, false, false, false, false, false, false] rfl rfl (any_of HT_.out (by kernel_rfl)) (fun _ _ _ h => h) (Or.inl ⟨by rfl, ?_⟩) ?_ ?_
                    rotate_left
                    · intro w'
                      go_simp
                      with_reducible rfl
                    rotate_left
                    · simp only [Act.put, List.setIfInBounds_toArray, List.set_cons_zero, List.set_cons_succ, i64_w, i32_w]
                      rfl
                    refine pure_ (i := 8) (N := some 59) (v := ?_) (a' := ?_) #[true, false, true, false, false, true, false, true, true, false, false, false, false, false, false] rfl rfl (any_of HT_.out (by kernel_rfl)) (fun _ _ _ h => h) (Or.inl ⟨by rfl, ?_⟩) ?_ ?_
                    rotate_left
                    · intro w'
                      go_simp
                      with_reducible rfl
                    rotate_left
                    · simp only [Act.put, List.setIfInBounds_toArray, List.set_cons_zero, List.set_cons_succ, i64_w, i32_w]
                      rfl
                    refine take_ (i := 1) (N := some 52) (v := ?_) (a' := ?_) #[true, true, true, false, false, true, false, true, true, false, false, false, false, false, false] rfl rfl (take_ofW HT_.out HW_.out (by kernel_rfl)) (fun _ _ _ h => h) (Or.inl ⟨by rfl, ?_⟩) hHeld ?_ ?_
                    rotate_left
                    · rintro w' ⟨s0, s1, s2, s3, s4⟩
                      go_simp
                      with_reducible rfl
                    rotate_left
                    · simp only [Act.put, List.setIfInBounds_toArray, List.set_cons_zero, List.set_cons_succ, i64_w, i32_w]
                      rfl
                    refine pure_ (i := 3) (N := some 54) (v := ?_) (a' := ?_) #[true, true, true, true, false, true, false, true, true, false, false, false, false, false, false] rfl rfl (any_of HT_.out (by kernel_rfl)) (fun _ _ _ h => h) (Or.inl ⟨by rfl, ?_⟩) ?_ ?_
                    rotate_left
                    · intro w'
                      go_simp
                      with_reducible rfl
                    rotate_left
                    · simp only [Act.put, List.setIfInBounds_toArray, List.set_cons_zero, List.set_cons_succ, i64_w, i32_w]
                      rfl
                    refine take_ (i := 4) (N := some 55) (v := ?_) (a' := ?_) #[true, true, true, true, true, true, false, true, true, false, false, false, false, false, false] rfl rfl (take_ofW HT_.out HW_.out (by kernel_rfl)) (fun _ _ _ h => h) (Or.inl ⟨by rfl, ?_⟩) hHeld ?_ ?_
                    rotate_left
                    · rintro w' ⟨s0, s1, s2, s3, s4⟩
                      go_simp
                      with_reducible rfl
                    rotate_left
                    · simp only [Act.put, List.setIfInBounds_toArray, List.set_cons_zero, List.set_cons_succ, i64_w, i32_w]
                      rfl
                    refine pure_ (i := 11) (N := some 6) (v := ?_) (a' := ?_) #[true, true, true, true, true, true, false, true, true, false, false, true, false, false, false] rfl rfl (any_of HT_.out (by kernel_rfl)) (fun _ _ _ h => h) (Or.inl ⟨by rfl, ?_⟩) ?_ ?_
                    rotate_left
                    · intro w'
                      go_simp
                      with_reducible rfl
                    rotate_left
                    · simp only [Act.put, List.setIfInBounds_toArray, List.set_cons_zero, List.set_cons_succ, i64_w, i32_w]
                      rfl
                    refine take_ (i := 6) (N := some 57) (v := ?_) (a' := ?_) #[true, true, true, true, true, true, true, true, true, false, false, true, false, false, false] rfl rfl (take_ofW HT_.out HW_.out (by kernel_rfl)) (fun _ _ _ h => h) (Or.inl ⟨by rfl, ?_⟩) hHeld ?_ ?_
                    rotate_left
                    · rintro w' ⟨s0, s1, s2, s3, s4⟩
                      go_simp
                      with_reducible rfl
                    rotate_left
                    · simp only [Act.put, List.setIfInBounds_toArray, List.set_cons_zero, List.set_cons_succ, i64_w, i32_w]
                      rfl
                    refine pure_ (i := 9) (N := some 60) (v := ?_) (a' := ?_) #[true, true, true, true, true, true, true, true, true, true, false, true, false, false, false] rfl rfl (any_of HT_.out (by kernel_rfl)) (fun _ _ _ h => h) (Or.inl ⟨by rfl, ?_⟩) ?_ ?_
                    rotate_left
                    · intro w'
                      go_simp
                      with_reducible rfl
                    rotate_left
                    · simp only [Act.put, List.setIfInBounds_toArray, List.set_cons_zero, List.set_cons_succ, i64_w, i32_w]
                      rfl
                    refine take_ (i := 10) (N := some 61) (v := ?_) (a' := ?_) #[true, true, true, true, true, true, true, true, true, true, true, true, false, false, false] rfl rfl (take_ofW HT_.out HW_.out (by kernel_rfl)) (fun _ _ _ h => h) (Or.inl ⟨by rfl, ?_⟩) hHeld ?_ ?_
                    rotate_left
                    · rintro w' ⟨s0, s1, s2, s3, s4⟩
                      go_simp
                      with_reducible rfl
                    rotate_left
                    · simp only [Act.put, List.setIfInBounds_toArray, List.set_cons_zero, List.set_cons_succ, i64_w, i32_w]
                      rfl
                    refine one_ (i := 12) (N := none) #[true, true, true, true, true, true, true, true, true, true, true, true, true, false, false] rfl rfl (one_of HT_.out (by kernel_rfl)) (by decide) (fun K hK => ?_)
                    have hs58 : w57.cell? ⟨gb640, 0, none⟩ = some (.slice none 0 0) := (blk_cell BK640.out 0).trans rfl
                    have hfs58 := blk_frozen BK640.out 0
                    have hns58_0 := NB638_640.out
                    have hns58_1 := NB639_640.out
                    have hns58_3 := NB641_640.out
                    have hms58_0 := NB640_638.out
                    have hms58_1 := NB640_639.out
                    have hms58_3 := NB640_641.out
                    have hs59 : w57.cell? ⟨gb640, 1, none⟩ = some (.int .i64 x641001_2) := (blk_cell BK640.out 1).trans rfl
                    have hfs59 := blk_frozen BK640.out 1
                    have hns59_0 := NB638_640.out
                    have hns59_1 := NB639_640.out
                    have hns59_3 := NB641_640.out
                    have hms59_0 := NB640_638.out
                    have hms59_1 := NB640_639.out
                    have hms59_3 := NB640_641.out
                    refine skip_ (w1 := ?_) (by rfl) rfl ?_ ?_
                    rotate_left
                    · go_simp
                      rfl
                    refine hK.out _ _ ⟨((cell_far (p := ⟨gb640, _, none⟩) NB638_640.out _).trans (((cell_far (p := ⟨gb640, _, none⟩) NB638_640.out _).trans (hHeld.1)))), ((cell_far (p := ⟨gb640, _, none⟩) NB638_640.out _).trans (((cell_far (p := ⟨gb640, _, none⟩) NB638_640.out _).trans (hHeld.2.1)))), ((cell_far (p := ⟨gb640, _, none⟩) NB639_640.out _).trans (((cell_far (p := ⟨gb640, _, none⟩) NB639_640.out _).trans (hHeld.2.2.1)))), ((cell_far (p := ⟨gb640, _, none⟩) NB639_640.out _).trans (((cell_far (p := ⟨gb640, _, none⟩) NB639_640.out _).trans (hHeld.2.2.2.1)))), ((cell_far (p := ⟨gb640, _, none⟩) (by first | exact Kd.own_blk (Kd.V_away HO_639000.out (Kd.V_pos (by first | exact p647 | exact of_decide_eq_true p647 | exact of_decide_eq_true (by assumption) | omega) (by first | exact q647 | exact of_decide_eq_true q647 | exact of_decide_eq_true (by assumption) | omega)) (by decide) (fun _ hk => hk.2.2.2.1)) | (rw [add_block]; exact Kd.own_blk (Kd.V_away HO_639000.out (Kd.V_pos (by first | exact p647 | exact of_decide_eq_true p647 | exact of_decide_eq_true (by assumption) | omega) (by first | exact q647 | exact of_decide_eq_true q647 | exact of_decide_eq_true (by assumption) | omega)) (by decide) (fun _ hk => hk.2.2.2.1))) | (show (Addr.add _ _).block ≠ _; rw [add_block]; exact Kd.own_blk (Kd.V_away HO_639000.out (Kd.V_pos (by first | exact p647 | exact of_decide_eq_true p647 | exact of_decide_eq_true (by assumption) | omega) (by first | exact q647 | exact of_decide_eq_true q647 | exact of_decide_eq_true (by assumption) | omega)) (by decide) (fun _ hk => hk.2.2.2.1))) | (dsimp only; exact Kd.own_blk (Kd.V_away HO_639000.out (Kd.V_pos (by first | exact p647 | exact of_decide_eq_true p647 | exact of_decide_eq_true (by assumption) | omega) (by first | exact q647 | exact of_decide_eq_true q647 | exact of_decide_eq_true (by assumption) | omega)) (by decide) (fun _ hk => hk.2.2.2.1)))) _).trans (((cell_far (p := ⟨gb640, _, none⟩) (by first | exact Kd.own_blk (Kd.V_away HO_639000.out (Kd.V_pos (by first | exact p647 | exact of_decide_eq_true p647 | exact of_decide_eq_true (by assumption) | omega) (by first | exact q647 | exact of_decide_eq_true q647 | exact of_decide_eq_true (by assumption) | omega)) (by decide) (fun _ hk => hk.2.2.2.1)) | (rw [add_block]; exact Kd.own_blk (Kd.V_away HO_639000.out (Kd.V_pos (by first | exact p647 | exact of_decide_eq_true p647 | exact of_decide_eq_true (by assumption) | omega) (by first | exact q647 | exact of_decide_eq_true q647 | exact of_decide_eq_true (by assumption) | omega)) (by decide) (fun _ hk => hk.2.2.2.1))) | (show (Addr.add _ _).block ≠ _; rw [add_block]; exact Kd.own_blk (Kd.V_away HO_639000.out (Kd.V_pos (by first | exact p647 | exact of_decide_eq_true p647 | exact of_decide_eq_true (by assumption) | omega) (by first | exact q647 | exact of_decide_eq_true q647 | exact of_decide_eq_true (by assumption) | omega)) (by decide) (fun _ hk => hk.2.2.2.1))) | (dsimp only; exact Kd.own_blk (Kd.V_away HO_639000.out (Kd.V_pos (by first | exact p647 | exact of_decide_eq_true p647 | exact of_decide_eq_true (by assumption) | omega) (by first | exact q647 | exact of_decide_eq_true q647 | exact of_decide_eq_true (by assumption) | omega)) (by decide) (fun _ hk => hk.2.2.2.1)))) _).trans (hHeld.2.2.2.2))))⟩ (fun hHeld => ?_)
                    clear hK K
                    refine one_ (i := 13) (N := none) #[true, true, true, true, true, true, true, true, true, true, true, true, true, true, false] rfl rfl (one_of HT_.out (by kernel_rfl)) (by decide) (fun K hK => ?_)
                    have hs60 : w57.cell? ⟨gb641, 0, none⟩ = some (.string x642000_2) := (blk_cell BK641.out 0).trans rfl
                    have hfs60 := blk_frozen BK641.out 0
                    have hns60_0 := NB638_641.out
                    have hns60_1 := NB639_641.out
                    have hns60_2 := NB640_641.out
                    have hms60_0 := NB641_638.out
                    have hms60_1 := NB641_639.out
                    have hms60_2 := NB641_640.out
                    have hs61 : w57.cell? ⟨gb641, 1, none⟩ = some (.int .i64 x642001_2) := (blk_cell BK641.out 1).trans rfl
                    have hfs61 := blk_frozen BK641.out 1
                    have hns61_0 := NB638_641.out
                    have hns61_1 := NB639_641.out
                    have hns61_2 := NB640_641.out
                    have hms61_0 := NB641_638.out
                    have hms61_1 := NB641_639.out
                    have hms61_2 := NB641_640.out
                    refine skip_ (w1 := ?_) (by rfl) rfl ?_ ?_
                    rotate_left
                    · go_simp
                      rfl
                    refine hK.out _ _ ⟨((cell_far (p := ⟨gb641, _, none⟩) NB638_641.out _).trans (((cell_far (p := ⟨gb641, _, none⟩) NB638_641.out _).trans (hHeld.1)))), ((cell_far (p := ⟨gb641, _, none⟩) NB638_641.out _).trans (((cell_far (p := ⟨gb641, _, none⟩) NB638_641.out _).trans (hHeld.2.1)))), ((cell_far (p := ⟨gb641, _, none⟩) NB639_641.out _).trans (((cell_far (p := ⟨gb641, _, none⟩) NB639_641.out _).trans (hHeld.2.2.1)))), ((cell_far (p := ⟨gb641, _, none⟩) NB639_641.out _).trans (((cell_far (p := ⟨gb641, _, none⟩) NB639_641.out _).trans (hHeld.2.2.2.1)))), ((cell_far (p := ⟨gb641, _, none⟩) (by first | exact Kd.own_blk (Kd.V_away HO_639000.out (Kd.V_pos (by first | exact p647 | exact of_decide_eq_true p647 | exact of_decide_eq_true (by assumption) | omega) (by first | exact q647 | exact of_decide_eq_true q647 | exact of_decide_eq_true (by assumption) | omega)) (by decide) (fun _ hk => hk.2.2.2.2)) | (rw [add_block]; exact Kd.own_blk (Kd.V_away HO_639000.out (Kd.V_pos (by first | exact p647 | exact of_decide_eq_true p647 | exact of_decide_eq_true (by assumption) | omega) (by first | exact q647 | exact of_decide_eq_true q647 | exact of_decide_eq_true (by assumption) | omega)) (by decide) (fun _ hk => hk.2.2.2.2))) | (show (Addr.add _ _).block ≠ _; rw [add_block]; exact Kd.own_blk (Kd.V_away HO_639000.out (Kd.V_pos (by first | exact p647 | exact of_decide_eq_true p647 | exact of_decide_eq_true (by assumption) | omega) (by first | exact q647 | exact of_decide_eq_true q647 | exact of_decide_eq_true (by assumption) | omega)) (by decide) (fun _ hk => hk.2.2.2.2))) | (dsimp only; exact Kd.own_blk (Kd.V_away HO_639000.out (Kd.V_pos (by first | exact p647 | exact of_decide_eq_true p647 | exact of_decide_eq_true (by assumption) | omega) (by first | exact q647 | exact of_decide_eq_true q647 | exact of_decide_eq_true (by assumption) | omega)) (by decide) (fun _ hk => hk.2.2.2.2)))) _).trans (((cell_far (p := ⟨gb641, _, none⟩) (by first | exact Kd.own_blk (Kd.V_away HO_639000.out (Kd.V_pos (by first | exact p647 | exact of_decide_eq_true p647 | exact of_decide_eq_true (by assumption) | omega) (by first | exact q647 | exact of_decide_eq_true q647 | exact of_decide_eq_true (by assumption) | omega)) (by decide) (fun _ hk => hk.2.2.2.2)) | (rw [add_block]; exact Kd.own_blk (Kd.V_away HO_639000.out (Kd.V_pos (by first | exact p647 | exact of_decide_eq_true p647 | exact of_decide_eq_true (by assumption) | omega) (by first | exact q647 | exact of_decide_eq_true q647 | exact of_decide_eq_true (by assumption) | omega)) (by decide) (fun _ hk => hk.2.2.2.2))) | (show (Addr.add _ _).block ≠ _; rw [add_block]; exact Kd.own_blk (Kd.V_away HO_639000.out (Kd.V_pos (by first | exact p647 | exact of_decide_eq_true p647 | exact of_decide_eq_true (by assumption) | omega) (by first | exact q647 | exact of_decide_eq_true q647 | exact of_decide_eq_true (by assumption) | omega)) (by decide) (fun _ hk => hk.2.2.2.2))) | (dsimp only; exact Kd.own_blk (Kd.V_away HO_639000.out (Kd.V_pos (by first | exact p647 | exact of_decide_eq_true p647 | exact of_decide_eq_true (by assumption) | omega) (by first | exact q647 | exact of_decide_eq_true q647 | exact of_decide_eq_true (by assumption) | omega)) (by decide) (fun _ hk => hk.2.2.2.2)))) _).trans (hHeld.2.2.2.2))))⟩ (fun hHeld => ?_)
                    clear hK K
                    refine pure_ (i := 14) (N := some 9) (v := ?_) (a' := ?_) #[true, true, true, true, true, true, true, true, true, true, true, true, true, true, true] rfl rfl (any_of HT_.out (by kernel_rfl)) (fun _ _ _ h => h) (Or.inl ⟨by rfl, ?_⟩) ?_ ?_
                    rotate_left
                    · intro w'
                      go_simp
                      with_reducible rfl
                    rotate_left
                    · simp only [Act.put, List.setIfInBounds_toArray, List.set_cons_zero, List.set_cons_succ, i64_w, i32_w]
                      rfl
                    refine done_ (done_of HT_.out (by kernel_rfl)) ?_
                    try go_wp2
                    refine bodyPost_ret (results_list (rs := [.tmp 6, .cell 7 49, .cell 8 23, .tmp 9]) rfl (by simp) (.tmp (.cell gb640 49 #[.slice (some ad645) l0_0.length c0_0, .int .i64 (wrap64 (x10_2 + 1))] (0, 0) _ rfl (by (with_reducible repeat (first | refine blk_drewN ?_ _ | refine blk_drew ?_ | refine blk_alloc ?_ _)); refine blk_far ?_ NB640_641.out _; (with_reducible repeat (first | refine blk_drewN ?_ _ | refine blk_drew ?_ | refine blk_alloc ?_ _)); refine blk_far ?_ NB640_641.out _; (with_reducible repeat (first | refine blk_drewN ?_ _ | refine blk_drew ?_ | refine blk_alloc ?_ _)); refine blk_put (cs := #[.slice (some ad645) l0_0.length c0_0, .int .i64 x641001_2]) ?_ 1 _ rfl; (with_reducible repeat (first | refine blk_drewN ?_ _ | refine blk_drew ?_ | refine blk_alloc ?_ _)); refine blk_put (cs := #[.slice none 0 0, .int .i64 x641001_2]) ?_ 0 _ rfl; (with_reducible repeat (first | refine blk_drewN ?_ _ | refine blk_drew ?_ | refine blk_alloc ?_ _)); exact BK640.out) Try.underlying49 rfl (by kernel_rfl) (.cell gb641 23 #[.string a1_0, .int .i64 a1_1] (0, 0) _ rfl (by (with_reducible repeat (first | refine blk_drewN ?_ _ | refine blk_drew ?_ | refine blk_alloc ?_ _)); refine blk_put (cs := #[.string a1_0, .int .i64 x642001_2]) ?_ 1 _ rfl; (with_reducible repeat (first | refine blk_drewN ?_ _ | refine blk_drew ?_ | refine blk_alloc ?_ _)); refine blk_put (cs := #[.string x642000_2, .int .i64 x642001_2]) ?_ 0 _ rfl; (with_reducible repeat (first | refine blk_drewN ?_ _ | refine blk_drew ?_ | refine blk_alloc ?_ _)); refine blk_far ?_ NB641_640.out _; (with_reducible repeat (first | refine blk_drewN ?_ _ | refine blk_drew ?_ | refine blk_alloc ?_ _)); refine blk_far ?_ NB641_640.out _; (with_reducible repeat (first | refine blk_drewN ?_ _ | refine blk_drew ?_ | refine blk_alloc ?_ _)); exact BK641.out) Try.underlying23 rfl (by kernel_rfl) (.tmp .nil))))) rfl ?_
                    exact ⟨_, by first | rfl | (simp [errW_none, errW_some] <;> rfl) | (simp [*, errW_none, errW_some] <;> rfl), by (with_reducible repeat (first | apply Kd.V_alloc | apply Kd.V_drewN | apply Kd.V_drew)); exact Kd.V_mono (Kd.V_far (p := ⟨gb641, 1, none⟩) (Kd.V_far (p := ⟨gb641, 0, none⟩) (Kd.V_far (p := ⟨gb640, 1, none⟩) (Kd.V_far (p := ⟨gb640, 0, none⟩) (Kd.V_mono (Kd.V_mono HO_639000.out (fun k_ hk => (⟨hk, hk.2.2.2.1⟩ : _ ∧ k_ ≠ gb640))) (fun k_ hk => (⟨hk, hk.1.2.2.2.2⟩ : _ ∧ k_ ≠ gb641))) (fun _ hk => hk.1.2) (.slice (some ad645) l0_0.length c0_0)) (fun _ hk => hk.1.2) (.int .i64 (wrap64 (x10_2 + 1)))) (fun _ hk => hk.2) (.string a1_0)) (fun _ hk => hk.2) (.int .i64 a1_1)) (fun _ hk => hk.1.1.1), by repeat (first | (with_reducible first | exact HB.out | apply below_alloc | apply pw_below_drewN | apply below_drew1 | refine below_set ?_ GE638.out | refine below_set ?_ GE639.out | refine below_set ?_ GE640.out | refine below_set ?_ GE641.out) | exact HB.out)⟩
                  · rw [if_neg c52] at H
                    have c52b0 : decide (0 < t646) = false := decide_eq_false c52
                    clear c52
                    have H' := Aside0.mk H
                    clear H
                    have hnb62 := NB638_639.out
                    have hnc62 := NB639_638.out
                    have hnb63 := NB638_640.out
                    have hnc63 := NB640_638.out
                    have hnb64 := NB638_641.out
                    have hnc64 := NB641_638.out
                    have hcz65_0 : wr.cell? ⟨gb638, 0, none⟩ = some (.slice A0_0 l0_0.length c0_0) := (blk_cell BK638.out 0).trans rfl
                    have hcz65_1 : wr.cell? ⟨gb638, 1, none⟩ = some (.int .i64 a0_1) := (blk_cell BK638.out 1).trans rfl
                    have hfz65_0 := blk_frozen BK638.out 0
                    have hfz65_1 := blk_frozen BK638.out 1
                    have p645 : 0 ≤ (x10_2 : Int) := of_decide_eq_true (by first | (with_reducible assumption) | assumption)
                    have q645 : x10_2 < (l0_0.length : Int) := of_decide_eq_true (by first | (with_reducible assumption) | assumption)
                    obtain ⟨ad645, e645, hx645_0⟩ := Kd.at_int (Kd.V_reads' HO_639000.out).2.2 x10_2 p645 q645
                    cases e645
                    replace p645 := eq_true p645
                    replace q645 := eq_true q645
                    go_wp2_with (first | ((with_reducible refine gate_callee (f := 26) rfl ?_); refine goesL_ (some 49) rfl rfl Try.func26 (by kernel_rfl) rfl #[.slice A2 l2.length c2, .int .i64 (rd l0_0 x10_2)] rfl (by (try simp only [List.map_toArray, List.map_cons, List.map_nil]); first | done | rfl | (simp only [List.length_drop, List.length_take]; rfl)) ?_; (with_reducible refine (tattleref02_Many.calls k2 _ _ l2 (rd l0_0 x10_2) t646 _ ?side1 ?side2 A51.out).mono ?_); (case side1 => repeat (first | exact (Kd.C_below HR2.out HB.out) | (with_reducible refine Kd.C_alloc ?_ _) | (with_reducible refine Kd.C_drewN ?_ _) | (with_reducible refine Kd.C_drew ?_))); (case side2 => exact HC2.out); rintro e w' ⟨rfl, ⟨nd, rfl⟩⟩; refine ⟨_, rfl, ?_⟩))
                    go_roundg k2
                    case measure => have := HJ3.out; have := HK2.out; omega
                    case rel => exact ⟨(wrap64 (x10_2 + 1)), (x641001_2), (x642000_2), (x642001_2), (by first | rfl | (simp; done) | (simp [*]; done)), H', ⟨by have := HJ3.out; have := HK2.out; omega⟩, ⟨by (with_reducible repeat (first | apply Kd.V_alloc | apply Kd.V_drewN | apply Kd.V_drew)); exact HO_639000.out⟩, ⟨by (with_reducible repeat (first | refine blk_drewN ?_ _ | refine blk_drew ?_ | refine blk_alloc ?_ _)); exact BK638.out⟩, ⟨by (with_reducible repeat (first | refine blk_drewN ?_ _ | refine blk_drew ?_ | refine blk_alloc ?_ _)); exact BK639.out⟩, ⟨by (with_reducible repeat (first | refine blk_drewN ?_ _ | refine blk_drew ?_ | refine blk_alloc ?_ _)); exact BK640.out⟩, ⟨by (with_reducible repeat (first | refine blk_drewN ?_ _ | refine blk_drew ?_ | refine blk_alloc ?_ _)); exact BK641.out⟩, ⟨by repeat (first | (with_reducible first | exact HB.out | apply below_alloc | apply pw_below_drewN | apply below_drew1 | refine below_set ?_ GE638.out | refine below_set ?_ GE639.out | refine below_set ?_ GE640.out | refine below_set ?_ GE641.out) | exact HB.out)⟩⟩
                · rw [if_neg c50] at H
                  exact absurd H (by simp)
              · rw [if_neg c49] at H
                have c49b0 : decide (x10_2 < (l0_0.length : Int)) = false := decide_eq_false c49
                clear c49
                replace H := Option.bind_eq_some_iff.mp H
                obtain ⟨⟨t648, t651, t652, t653⟩, A660, H⟩ := H
                replace H : (if 0 < (t648.length : Int) then (some (rd t648 0, t648, 1, t651, t652, 0)) else (none)) = some (r1, r2, r3, r4, r5, r6) := H
                have A66 := Aside0.mk A660
                clear A660
                by_cases c67 : 0 < (t648.length : Int)
                · rw [if_pos c67] at H
                  have c67b0 : decide (0 < (t648.length : Int)) = true := decide_eq_true c67
                  have c67b1 : decide (0 < t648.length) = true := decide_eq_true (by omega)
                  clear c67
                  simp only [Option.some.injEq, Prod.mk.injEq] at H
                  obtain ⟨rfl, rfl, rfl, rfl, rfl, rfl⟩ := H
                  have hnb68 := NB638_639.out
                  have hnc68 := NB639_638.out
                  have hnb69 := NB638_640.out
                  have hnc69 := NB640_638.out
                  have hnb70 := NB638_641.out
                  have hnc70 := NB641_638.out
                  have hcz71_0 : wr.cell? ⟨gb638, 0, none⟩ = some (.slice A0_0 l0_0.length c0_0) := (blk_cell BK638.out 0).trans rfl
                  have hcz71_1 : wr.cell? ⟨gb638, 1, none⟩ = some (.int .i64 a0_1) := (blk_cell BK638.out 1).trans rfl
                  have hfz71_0 := blk_frozen BK638.out 0
                  have hfz71_1 := blk_frozen BK638.out 1
                  have hnb72 := NB639_640.out
                  have hnc72 := NB640_639.out
                  have hnb73 := NB639_641.out
                  have hnc73 := NB641_639.out
                  have hcz74_0 : wr.cell? ⟨gb639, 0, none⟩ = some (.string a1_0) := (blk_cell BK639.out 0).trans rfl
                  have hcz74_1 : wr.cell? ⟨gb639, 1, none⟩ = some (.int .i64 a1_1) := (blk_cell BK639.out 1).trans rfl
                  have hfz74_0 := blk_frozen BK639.out 0
                  have hfz74_1 := blk_frozen BK639.out 1
                  try go_wp2_with (first | ((with_reducible refine gate_callee (f := 21) rfl ?_); refine goesL_ (some 65) rfl rfl Try.func21 (by kernel_rfl) rfl #[.agg #[.string a1_0, .int .i64 a1_1], .slice A2 l2.length c2] rfl (by (try simp only [List.map_toArray, List.map_cons, List.map_nil]); first | done | rfl | (simp only [List.length_drop, List.length_take]; rfl)) ?_; (with_reducible refine (tattleref02_Shuffle.calls k2 a1_0 a1_1 _ _ l2 t648 t651 t652 t653 _ ?side1 ?side2 A66.out).mono ?_); (case side1 => repeat (first | exact (Kd.C_below HR2.out HB.out) | (with_reducible refine Kd.C_alloc ?_ _) | (with_reducible refine Kd.C_drewN ?_ _) | (with_reducible refine Kd.C_drew ?_))); (case side2 => exact HC2.out); rintro e w75 ⟨v649, rfl, ho0, hb⟩; refine ⟨_, rfl, ?_⟩; have n0_ := Aside0.mk (Kd.V_elder' (by (with_reducible repeat (first | apply Kd.V_alloc | apply Kd.V_drewN | apply Kd.V_drew)); exact HO_639000.out) (Kd.R_base ho0) hb); have n1_ := Aside0.mk (Kd.R_lower (Kd.R_newM (M := fun k_ => (w.heap.size ≤ k_)) ho0 (below_size (by repeat (first | (with_reducible first | exact HB.out | apply below_alloc | apply pw_below_drewN | apply below_drew1 | refine below_set ?_ GE638.out | refine below_set ?_ GE639.out | refine below_set ?_ GE640.out | refine below_set ?_ GE641.out) | exact HB.out))) (fun k_ h_ => h_)) (below_size (by repeat (first | (with_reducible first | exact HB.out | apply below_alloc | apply pw_below_drewN | apply below_drew1 | refine below_set ?_ GE638.out | refine below_set ?_ GE639.out | refine below_set ?_ GE640.out | refine below_set ?_ GE641.out) | exact HB.out)))); have n2_ := Aside0.mk (blk_below (g := gb638) (o := .cells #[.slice A0_0 l0_0.length c0_0, .int .i64 a0_1] 49 (0, 0)) (by (with_reducible repeat (first | refine blk_drewN ?_ _ | refine blk_drew ?_ | refine blk_alloc ?_ _)); exact BK638.out) hb); have n3_ := Aside0.mk (blk_below (g := gb639) (o := .cells #[.string a1_0, .int .i64 a1_1] 23 (0, 0)) (by (with_reducible repeat (first | refine blk_drewN ?_ _ | refine blk_drew ?_ | refine blk_alloc ?_ _)); exact BK639.out) hb); have n4_ := Aside0.mk (blk_below (g := gb640) (o := .cells #[.slice none 0 0, .int .i64 x641001_2] 49 (0, 0)) (by (with_reducible repeat (first | refine blk_drewN ?_ _ | refine blk_drew ?_ | refine blk_alloc ?_ _)); exact BK640.out) hb); have n5_ := Aside0.mk (blk_below (g := gb641) (o := .cells #[.string x642000_2, .int .i64 x642001_2] 23 (0, 0)) (by (with_reducible repeat (first | refine blk_drewN ?_ _ | refine blk_drew ?_ | refine blk_alloc ?_ _)); exact BK641.out) hb); have n6_ := Aside0.mk (below_step (by repeat (first | (with_reducible first | exact HB.out | apply below_alloc | apply pw_below_drewN | apply below_drew1 | refine below_set ?_ GE638.out | refine below_set ?_ GE639.out | refine below_set ?_ GE640.out | refine below_set ?_ GE641.out) | exact HB.out)) hb); clear HO_639000; clear BK638; clear BK639; clear BK640; clear BK641; clear HB; have HO_639000 := n0_; have HO650 := n1_; have BK638 := n2_; have BK639 := n3_; have BK640 := n4_; have BK641 := n5_; have HB := n6_; clear n0_ n1_ n2_ n3_ n4_ n5_ n6_; (try clear hb); (try clear hb2); (try clear hk); (try clear hi); (try clear ho0)) | ((with_reducible refine gate_dst (N := 12) rfl ?_); refine box_event ?hg (N := 12) ?hd (cs := #[.string (⟨#[]⟩ : ByteArray), .int .i64 0]) (t := 23) ?hr ?_; (case hd => rfl); (case hg => rfl); (case hr => first | (go_simp; done) | (go_simp; rfl)); intro gb654 hg w76 hbox hb; have n0_ := Aside0.mk (Kd.V_below (Kd.V_elderB (by (with_reducible repeat (first | apply Kd.V_alloc | apply Kd.V_drewN | apply Kd.V_drew)); exact HO_639000.out) gb654 (Nat.le_of_eq hg.symm)) hb); have n1_ := Aside0.mk (Kd.R_below (by (with_reducible repeat (first | apply Kd.R_alloc | apply Kd.R_drewN | apply Kd.R_drew)); exact HO650.out) hb); have n2_ := Aside0.mk (blk_below (g := gb638) (o := .cells #[.slice A0_0 l0_0.length c0_0, .int .i64 a0_1] 49 (0, 0)) (by (with_reducible repeat (first | refine blk_drewN ?_ _ | refine blk_drew ?_ | refine blk_alloc ?_ _)); exact BK638.out) hb); have n3_ := Aside0.mk (blk_below (g := gb639) (o := .cells #[.string a1_0, .int .i64 a1_1] 23 (0, 0)) (by (with_reducible repeat (first | refine blk_drewN ?_ _ | refine blk_drew ?_ | refine blk_alloc ?_ _)); exact BK639.out) hb); have n4_ := Aside0.mk (blk_below (g := gb640) (o := .cells #[.slice none 0 0, .int .i64 x641001_2] 49 (0, 0)) (by (with_reducible repeat (first | refine blk_drewN ?_ _ | refine blk_drew ?_ | refine blk_alloc ?_ _)); exact BK640.out) hb); have n5_ := Aside0.mk (blk_below (g := gb641) (o := .cells #[.string x642000_2, .int .i64 x642001_2] 23 (0, 0)) (by (with_reducible repeat (first | refine blk_drewN ?_ _ | refine blk_drew ?_ | refine blk_alloc ?_ _)); exact BK641.out) hb); have n6_ := Aside0.mk (below_step (by repeat (first | (with_reducible first | exact HB.out | apply below_alloc | apply pw_below_drewN | apply below_drew1 | refine below_set ?_ GE638.out | refine below_set ?_ GE639.out | refine below_set ?_ GE640.out | refine below_set ?_ GE641.out) | exact HB.out)) hb); have n7_ := Aside0.mk (hbox); have n8_ := Aside0.mk ((by rw [hg]; exact (below_size (by repeat (first | (with_reducible first | exact HB.out | apply below_alloc | apply pw_below_drewN | apply below_drew1 | refine below_set ?_ GE638.out | refine below_set ?_ GE639.out | refine below_set ?_ GE640.out | refine below_set ?_ GE641.out) | exact HB.out))) : w.heap.size ≤ gb654)); have n9_ := Aside0.mk ((by rw [hg]; exact (below_size (by repeat (first | (with_reducible first | exact HB.out | apply below_alloc | apply pw_below_drewN | apply below_drew1 | refine below_set ?_ GE638.out | refine below_set ?_ GE639.out | refine below_set ?_ GE640.out | refine below_set ?_ GE641.out) | exact HB.out))) : w.heap.size ≤ gb654)); have n10_ := Aside0.mk ((by rw [hg]; exact Nat.ne_of_lt (blk_lt (g := gb638) (o := .cells #[.slice A0_0 l0_0.length c0_0, .int .i64 a0_1] 49 (0, 0)) (by (with_reducible repeat (first | refine blk_drewN ?_ _ | refine blk_drew ?_ | refine blk_alloc ?_ _)); exact BK638.out)) : gb638 ≠ gb654)); have n11_ := Aside0.mk ((by rw [hg]; exact Nat.ne_of_gt (blk_lt (g := gb638) (o := .cells #[.slice A0_0 l0_0.length c0_0, .int .i64 a0_1] 49 (0, 0)) (by (with_reducible repeat (first | refine blk_drewN ?_ _ | refine blk_drew ?_ | refine blk_alloc ?_ _)); exact BK638.out)) : gb654 ≠ gb638)); have n12_ := Aside0.mk ((by rw [hg]; exact Nat.ne_of_lt (blk_lt (g := gb639) (o := .cells #[.string a1_0, .int .i64 a1_1] 23 (0, 0)) (by (with_reducible repeat (first | refine blk_drewN ?_ _ | refine blk_drew ?_ | refine blk_alloc ?_ _)); exact BK639.out)) : gb639 ≠ gb654)); have n13_ := Aside0.mk ((by rw [hg]; exact Nat.ne_of_gt (blk_lt (g := gb639) (o := .cells #[.string a1_0, .int .i64 a1_1] 23 (0, 0)) (by (with_reducible repeat (first | refine blk_drewN ?_ _ | refine blk_drew ?_ | refine blk_alloc ?_ _)); exact BK639.out)) : gb654 ≠ gb639)); have n14_ := Aside0.mk ((by rw [hg]; exact Nat.ne_of_lt (blk_lt (g := gb640) (o := .cells #[.slice none 0 0, .int .i64 x641001_2] 49 (0, 0)) (by (with_reducible repeat (first | refine blk_drewN ?_ _ | refine blk_drew ?_ | refine blk_alloc ?_ _)); exact BK640.out)) : gb640 ≠ gb654)); have n15_ := Aside0.mk ((by rw [hg]; exact Nat.ne_of_gt (blk_lt (g := gb640) (o := .cells #[.slice none 0 0, .int .i64 x641001_2] 49 (0, 0)) (by (with_reducible repeat (first | refine blk_drewN ?_ _ | refine blk_drew ?_ | refine blk_alloc ?_ _)); exact BK640.out)) : gb654 ≠ gb640)); have n16_ := Aside0.mk ((by rw [hg]; exact Nat.ne_of_lt (blk_lt (g := gb641) (o := .cells #[.string x642000_2, .int .i64 x642001_2] 23 (0, 0)) (by (with_reducible repeat (first | refine blk_drewN ?_ _ | refine blk_drew ?_ | refine blk_alloc ?_ _)); exact BK641.out)) : gb641 ≠ gb654)); have n17_ := Aside0.mk ((by rw [hg]; exact Nat.ne_of_gt (blk_lt (g := gb641) (o := .cells #[.string x642000_2, .int .i64 x642001_2] 23 (0, 0)) (by (with_reducible repeat (first | refine blk_drewN ?_ _ | refine blk_drew ?_ | refine blk_alloc ?_ _)); exact BK641.out)) : gb654 ≠ gb641)); clear HO_639000; clear HO650; clear BK638; clear BK639; clear BK640; clear BK641; clear HB; have HO_639000 := n0_; have HO650 := n1_; have BK638 := n2_; have BK639 := n3_; have BK640 := n4_; have BK641 := n5_; have HB := n6_; have BK654 := n7_; have GW654 := n8_; have GE654 := n9_; have NB638_654 := n10_; have NB654_638 := n11_; have NB639_654 := n12_; have NB654_639 := n13_; have NB640_654 := n14_; have NB654_640 := n15_; have NB641_654 := n16_; have NB654_641 := n17_; clear n0_ n1_ n2_ n3_ n4_ n5_ n6_ n7_ n8_ n9_ n10_ n11_ n12_ n13_ n14_ n15_ n16_ n17_; clear hb hbox hg; have hnb77 := NB654_638.out; have hnc77 := NB638_654.out; have hnb78 := NB654_639.out; have hnc78 := NB639_654.out; have hnb79 := NB654_640.out; have hnc79 := NB640_654.out; have hnb80 := NB654_641.out; have hnc80 := NB641_654.out; have hcz81_0 : w76.cell? ⟨gb654, 0, none⟩ = some (.string (⟨#[]⟩ : ByteArray)) := (blk_cell BK654.out 0).trans rfl; have hcz81_1 : w76.cell? ⟨gb654, 1, none⟩ = some (.int .i64 0) := (blk_cell BK654.out 1).trans rfl; have hfz81_0 := blk_frozen BK654.out 0; have hfz81_1 := blk_frozen BK654.out 1))
                  have n0_ : Aside0 (Kd.V (Kd.int .i64) 3 ((w76.setCell ⟨gb654, 0, none⟩ (.string t651)).setCell ⟨gb654, 1, none⟩ (.int .i64 t652)) w.heap.size (fun k_ => (P0_0_ k_ ∨ w.heap.size ≤ k_) ∧ some k_ ≠ (v649 : Value).ownBlock ∧ k_ ≠ gb638 ∧ k_ ≠ gb639 ∧ k_ ≠ gb640 ∧ k_ ≠ gb641 ∧ k_ ≠ gb654) (.slice A0_0 l0_0.length c0_0) l0_0) := ⟨by (with_reducible repeat (first | apply Kd.V_alloc | apply Kd.V_drewN | apply Kd.V_drew)); exact Kd.V_mono (Kd.V_far (p := ⟨gb654, 1, none⟩) (Kd.V_far (p := ⟨gb654, 0, none⟩) (Kd.V_mono HO_639000.out (fun k_ hk => (⟨hk, hk.2⟩ : _ ∧ k_ ≠ gb654))) (fun _ hk => hk.2) (.string t651)) (fun _ hk => hk.2) (.int .i64 t652)) (fun _ hk => ⟨hk.1.1.1.1, ⟨hk.1.1.2, ⟨hk.1.1.1.2.1, ⟨hk.1.1.1.2.2.1, ⟨hk.1.1.1.2.2.2.1, ⟨hk.1.1.1.2.2.2.2, hk.1.2⟩⟩⟩⟩⟩⟩)⟩
                  have n1_ : Aside0 (Kd.R (Kd.int .i64) 3 ((w76.setCell ⟨gb654, 0, none⟩ (.string t651)).setCell ⟨gb654, 1, none⟩ (.int .i64 t652)) w.heap.size (fun k_ => (w.heap.size ≤ k_)) v649 t648) := ⟨by (with_reducible repeat (first | apply Kd.R_alloc | apply Kd.R_drewN | apply Kd.R_drew)); exact Kd.R_mono (Kd.R_far (p := ⟨gb654, 1, none⟩) (Kd.R_far (p := ⟨gb654, 0, none⟩) (Kd.R_types HO650.out BK654.out (by decide)) (fun _ hk => hk.2) (.string t651)) (fun _ hk => hk.2) (.int .i64 t652)) (fun _ hk => hk.1.1)⟩
                  have n2_ : Aside0 (((w76.setCell ⟨gb654, 0, none⟩ (.string t651)).setCell ⟨gb654, 1, none⟩ (.int .i64 t652)).heap[gb638]? = some (.cells #[.slice A0_0 l0_0.length c0_0, .int .i64 a0_1] 49 (0, 0))) := ⟨by (with_reducible repeat (first | refine blk_drewN ?_ _ | refine blk_drew ?_ | refine blk_alloc ?_ _)); refine blk_far ?_ NB638_654.out _; (with_reducible repeat (first | refine blk_drewN ?_ _ | refine blk_drew ?_ | refine blk_alloc ?_ _)); refine blk_far ?_ NB638_654.out _; (with_reducible repeat (first | refine blk_drewN ?_ _ | refine blk_drew ?_ | refine blk_alloc ?_ _)); exact BK638.out⟩
                  have n3_ : Aside0 (((w76.setCell ⟨gb654, 0, none⟩ (.string t651)).setCell ⟨gb654, 1, none⟩ (.int .i64 t652)).heap[gb639]? = some (.cells #[.string a1_0, .int .i64 a1_1] 23 (0, 0))) := ⟨by (with_reducible repeat (first | refine blk_drewN ?_ _ | refine blk_drew ?_ | refine blk_alloc ?_ _)); refine blk_far ?_ NB639_654.out _; (with_reducible repeat (first | refine blk_drewN ?_ _ | refine blk_drew ?_ | refine blk_alloc ?_ _)); refine blk_far ?_ NB639_654.out _; (with_reducible repeat (first | refine blk_drewN ?_ _ | refine blk_drew ?_ | refine blk_alloc ?_ _)); exact BK639.out⟩
                  have n4_ : Aside0 (((w76.setCell ⟨gb654, 0, none⟩ (.string t651)).setCell ⟨gb654, 1, none⟩ (.int .i64 t652)).heap[gb640]? = some (.cells #[.slice none 0 0, .int .i64 x641001_2] 49 (0, 0))) := ⟨by (with_reducible repeat (first | refine blk_drewN ?_ _ | refine blk_drew ?_ | refine blk_alloc ?_ _)); refine blk_far ?_ NB640_654.out _; (with_reducible repeat (first | refine blk_drewN ?_ _ | refine blk_drew ?_ | refine blk_alloc ?_ _)); refine blk_far ?_ NB640_654.out _; (with_reducible repeat (first | refine blk_drewN ?_ _ | refine blk_drew ?_ | refine blk_alloc ?_ _)); exact BK640.out⟩
                  have n5_ : Aside0 (((w76.setCell ⟨gb654, 0, none⟩ (.string t651)).setCell ⟨gb654, 1, none⟩ (.int .i64 t652)).heap[gb641]? = some (.cells #[.string x642000_2, .int .i64 x642001_2] 23 (0, 0))) := ⟨by (with_reducible repeat (first | refine blk_drewN ?_ _ | refine blk_drew ?_ | refine blk_alloc ?_ _)); refine blk_far ?_ NB641_654.out _; (with_reducible repeat (first | refine blk_drewN ?_ _ | refine blk_drew ?_ | refine blk_alloc ?_ _)); refine blk_far ?_ NB641_654.out _; (with_reducible repeat (first | refine blk_drewN ?_ _ | refine blk_drew ?_ | refine blk_alloc ?_ _)); exact BK641.out⟩
                  have n6_ : Aside0 (((w76.setCell ⟨gb654, 0, none⟩ (.string t651)).setCell ⟨gb654, 1, none⟩ (.int .i64 t652)).heap[gb654]? = some (.cells #[.string t651, .int .i64 t652] 23 (0, 0))) := ⟨by (with_reducible repeat (first | refine blk_drewN ?_ _ | refine blk_drew ?_ | refine blk_alloc ?_ _)); refine blk_put (cs := #[.string t651, .int .i64 0]) ?_ 1 _ rfl; (with_reducible repeat (first | refine blk_drewN ?_ _ | refine blk_drew ?_ | refine blk_alloc ?_ _)); refine blk_put (cs := #[.string (⟨#[]⟩ : ByteArray), .int .i64 0]) ?_ 0 _ rfl; (with_reducible repeat (first | refine blk_drewN ?_ _ | refine blk_drew ?_ | refine blk_alloc ?_ _)); exact BK654.out⟩
                  have n7_ : Aside0 (Below w.heap.size w ((w76.setCell ⟨gb654, 0, none⟩ (.string t651)).setCell ⟨gb654, 1, none⟩ (.int .i64 t652))) := ⟨by repeat (first | (with_reducible first | exact HB.out | apply below_alloc | apply pw_below_drewN | apply below_drew1 | refine below_set ?_ GE638.out | refine below_set ?_ GE639.out | refine below_set ?_ GE640.out | refine below_set ?_ GE641.out | refine below_set ?_ GE654.out) | exact HB.out)⟩
                  (try clear HO_639000)
                  (try clear HO650)
                  (try clear BK638)
                  (try clear BK639)
                  (try clear BK640)
                  (try clear BK641)
                  (try clear BK654)
                  (try clear HB)
                  generalize ((w76.setCell ⟨gb654, 0, none⟩ (.string t651)).setCell ⟨gb654, 1, none⟩ (.int .i64 t652)) = w82 at n0_ n1_ n2_ n3_ n4_ n5_ n6_ n7_ ⊢
                  have HO_639000 := n0_
                  have HO650 := n1_
                  have BK638 := n2_
                  have BK639 := n3_
                  have BK640 := n4_
                  have BK641 := n5_
                  have BK654 := n6_
                  have HB := n7_
                  clear n0_ n1_ n2_ n3_ n4_ n5_ n6_ n7_
                  have n0_ := Aside0.mk (Kd.V_drew HO_639000.out)
                  have n1_ := Aside0.mk (Kd.R_drew HO650.out)
                  have n2_ := Aside0.mk (blk_drew BK638.out)
                  have n3_ := Aside0.mk (blk_drew BK639.out)
                  have n4_ := Aside0.mk (blk_drew BK640.out)
                  have n5_ := Aside0.mk (blk_drew BK641.out)
                  have n6_ := Aside0.mk (blk_drew BK654.out)
                  have n7_ := Aside0.mk (below_drew1 HB.out)
                  clear HO_639000
                  clear HO650
                  clear BK638
                  clear BK639
                  clear BK640
                  clear BK641
                  clear BK654
                  clear HB
                  have HO_639000 := n0_
                  have HO650 := n1_
                  have BK638 := n2_
                  have BK639 := n3_
                  have BK640 := n4_
                  have BK641 := n5_
                  have BK654 := n6_
                  have HB := n7_
                  clear n0_ n1_ n2_ n3_ n4_ n5_ n6_ n7_
                  obtain ⟨Ao84, co84, eo84⟩ := Kd.R_slice HO650.out
                  (first | subst eo84 | (injection eo84 with f1_ f2_ f3_; have f4_ := f1_.symm; have f5_ := f3_.symm; clear f1_ f2_ f3_; subst f4_; subst f5_))
                  have p655 : 0 ≤ (0 : Int) := (by omega)
                  have q655 : 0 < (t648.length : Int) := of_decide_eq_true (by first | (with_reducible assumption) | assumption)
                  obtain ⟨ad655, e655, hx655_0⟩ := Kd.at_int (Kd.R_reads' HO650.out).2.2 0 p655 q655
                  cases e655
                  have qi655 : (0 < t648.length) = True := eq_true (by omega)
                  (try rw [show ((0 : Int)).toNat = 0 from rfl] at hx655_0)
                  (try rw [Addr.add_zero'] at hx655_0)
                  replace p655 := eq_true p655
                  replace q655 := eq_true q655
                  refine start_ (n := 10) (S := fun w' => w'.cell? ⟨gb654, 0, none⟩ = some (.string t651) ∧ w'.cell? ⟨gb654, 1, none⟩ = some (.int .i64 t652) ∧ w'.cell? ad655 = some (.int .i64 (rd t648 0))) (ds := []) #[false, false, false, false, false, false, false, false, false, false] (by kernel_rfl) rfl rfl ⟨(blk_cell BK654.out 0).trans rfl, (blk_cell BK654.out 1).trans rfl, hx655_0⟩ (fun hHeld => ?_); refine with_tabW tattleref08_Next.tab11 tattleref08_Next.bits11 (fun HT_ HW_ => ?_)
                  generalize w82.drew = w83 at HO_639000 HO650 BK638 BK639 BK640 BK641 BK654 HB hx655_0 hHeld ⊢
                  refine pure_ (i := 0) (N := some 69) (v := ?_) (a' := ?_) #[true, false, false, false, false, false, false, false, false, false] rfl rfl (any_of HT_.out (by kernel_rfl)) (fun _ _ _ h => h) (Or.inl ⟨by rfl, ?_⟩) ?_ ?_
                  rotate_left
                  · intro w'
                    go_simp
                    with_reducible rfl
                  rotate_left
                  · simp only [Act.put, List.setIfInBounds_toArray, List.set_cons_zero, List.set_cons_succ, i64_w, i32_w]
                    rfl
                  refine pure_ (i := 1) (N := some 70) (v := ?_) (a' := ?_) #[true, true, false, false, false, false, false, false, false, false] rfl rfl (any_of HT_.out (by kernel_rfl)) (fun _ _ _ h => h) (Or.inl ⟨by rfl, ?_⟩) ?_ ?_
                  rotate_left
                  · intro w'
                    go_simp
                    with_reducible rfl
                  rotate_left
                  · simp only [Act.put, List.setIfInBounds_toArray, List.set_cons_zero, List.set_cons_succ, i64_w, i32_w]
                    rfl
                  refine pure_ (i := 3) (N := some 72) (v := ?_) (a' := ?_) #[true, true, false, true, false, false, false, false, false, false] rfl rfl (any_of HT_.out (by kernel_rfl)) (fun _ _ _ h => h) (Or.inl ⟨by rfl, ?_⟩) ?_ ?_
                  rotate_left
                  · intro w'
                    go_simp
                    with_reducible rfl
                  rotate_left
                  · simp only [Act.put, List.setIfInBounds_toArray, List.set_cons_zero, List.set_cons_succ, i64_w, i32_w]
                    rfl
                  refine pure_ (i := 4) (N := some 73) (v := ?_) (a' := ?_) #[true, true, false, true, true, false, false, false, false, false] rfl rfl (any_of HT_.out (by kernel_rfl)) (fun _ _ _ h => h) (Or.inl ⟨by rfl, ?_⟩) ?_ ?_
                  rotate_left
                  · intro w'
                    go_simp
                    with_reducible rfl
                  rotate_left
                  · simp only [Act.put, List.setIfInBounds_toArray, List.set_cons_zero, List.set_cons_succ, i64_w, i32_w]
                    rfl
                  refine take_ (i := 2) (N := some 71) (v := ?_) (a' := ?_) #[true, true, true, true, true, false, false, false, false, false] rfl rfl (take_ofW HT_.out HW_.out (by kernel_rfl)) (fun _ _ _ h => h) (Or.inl ⟨by rfl, ?_⟩) hHeld ?_ ?_
                  rotate_left
                  · rintro w' ⟨s0, s1, s2⟩
                    go_simp
                    with_reducible rfl
                  rotate_left
                  · simp only [Act.put, List.setIfInBounds_toArray, List.set_cons_zero, List.set_cons_succ, i64_w, i32_w]
                    rfl
                  refine pure_ (i := 6) (N := some 6) (v := ?_) (a' := ?_) #[true, true, true, true, true, false, true, false, false, false] rfl rfl (any_of HT_.out (by kernel_rfl)) (fun _ _ _ h => h) (Or.inl ⟨by rfl, ?_⟩) ?_ ?_
                  rotate_left
                  · intro w'
                    go_simp
                    with_reducible rfl
                  rotate_left
                  · simp only [Act.put, List.setIfInBounds_toArray, List.set_cons_zero, List.set_cons_succ, i64_w, i32_w]
                    rfl
                  refine take_ (i := 5) (N := some 74) (v := ?_) (a' := ?_) #[true, true, true, true, true, true, true, false, false, false] rfl rfl (take_ofW HT_.out HW_.out (by kernel_rfl)) (fun _ _ _ h => h) (Or.inl ⟨by rfl, ?_⟩) hHeld ?_ ?_
                  rotate_left
                  · rintro w' ⟨s0, s1, s2⟩
                    go_simp
                    with_reducible rfl
                  rotate_left
                  · simp only [Act.put, List.setIfInBounds_toArray, List.set_cons_zero, List.set_cons_succ, i64_w, i32_w]
                    rfl
                  refine one_ (i := 7) (N := none) #[true, true, true, true, true, true, true, true, false, false] rfl rfl (one_of HT_.out (by kernel_rfl)) (by decide) (fun K hK => ?_)
                  have hs85 : w83.cell? ⟨gb640, 0, none⟩ = some (.slice none 0 0) := (blk_cell BK640.out 0).trans rfl
                  have hfs85 := blk_frozen BK640.out 0
                  have hns85_0 := NB638_640.out
                  have hns85_1 := NB639_640.out
                  have hns85_3 := NB641_640.out
                  have hns85_4 := NB654_640.out
                  have hms85_0 := NB640_638.out
                  have hms85_1 := NB640_639.out
                  have hms85_3 := NB640_641.out
                  have hms85_4 := NB640_654.out
                  have hs86 : w83.cell? ⟨gb640, 1, none⟩ = some (.int .i64 x641001_2) := (blk_cell BK640.out 1).trans rfl
                  have hfs86 := blk_frozen BK640.out 1
                  have hns86_0 := NB638_640.out
                  have hns86_1 := NB639_640.out
                  have hns86_3 := NB641_640.out
                  have hns86_4 := NB654_640.out
                  have hms86_0 := NB640_638.out
                  have hms86_1 := NB640_639.out
                  have hms86_3 := NB640_641.out
                  have hms86_4 := NB640_654.out
                  refine skip_ (w1 := ?_) (by rfl) rfl ?_ ?_
                  rotate_left
                  · go_simp
                    rfl
                  refine hK.out _ _ ⟨((cell_far (p := ⟨gb640, _, none⟩) NB654_640.out _).trans (((cell_far (p := ⟨gb640, _, none⟩) NB654_640.out _).trans (hHeld.1)))), ((cell_far (p := ⟨gb640, _, none⟩) NB654_640.out _).trans (((cell_far (p := ⟨gb640, _, none⟩) NB654_640.out _).trans (hHeld.2.1)))), ((cell_far (p := ⟨gb640, _, none⟩) (by first | exact Kd.own_blk (Kd.R_ne HO650.out BK640.out (by decide)) | (rw [add_block]; exact Kd.own_blk (Kd.R_ne HO650.out BK640.out (by decide))) | (show (Addr.add _ _).block ≠ _; rw [add_block]; exact Kd.own_blk (Kd.R_ne HO650.out BK640.out (by decide))) | (dsimp only; exact Kd.own_blk (Kd.R_ne HO650.out BK640.out (by decide)))) _).trans (((cell_far (p := ⟨gb640, _, none⟩) (by first | exact Kd.own_blk (Kd.R_ne HO650.out BK640.out (by decide)) | (rw [add_block]; exact Kd.own_blk (Kd.R_ne HO650.out BK640.out (by decide))) | (show (Addr.add _ _).block ≠ _; rw [add_block]; exact Kd.own_blk (Kd.R_ne HO650.out BK640.out (by decide))) | (dsimp only; exact Kd.own_blk (Kd.R_ne HO650.out BK640.out (by decide)))) _).trans (hHeld.2.2))))⟩ (fun hHeld => ?_)
                  clear hK K
                  refine one_ (i := 8) (N := none) #[true, true, true, true, true, true, true, true, true, false] rfl rfl (one_of HT_.out (by kernel_rfl)) (by decide) (fun K hK => ?_)
                  have hs87 : w83.cell? ⟨gb641, 0, none⟩ = some (.string x642000_2) := (blk_cell BK641.out 0).trans rfl
                  have hfs87 := blk_frozen BK641.out 0
                  have hns87_0 := NB638_641.out
                  have hns87_1 := NB639_641.out
                  have hns87_2 := NB640_641.out
                  have hns87_4 := NB654_641.out
                  have hms87_0 := NB641_638.out
                  have hms87_1 := NB641_639.out
                  have hms87_2 := NB641_640.out
                  have hms87_4 := NB641_654.out
                  have hs88 : w83.cell? ⟨gb641, 1, none⟩ = some (.int .i64 x642001_2) := (blk_cell BK641.out 1).trans rfl
                  have hfs88 := blk_frozen BK641.out 1
                  have hns88_0 := NB638_641.out
                  have hns88_1 := NB639_641.out
                  have hns88_2 := NB640_641.out
                  have hns88_4 := NB654_641.out
                  have hms88_0 := NB641_638.out
                  have hms88_1 := NB641_639.out
                  have hms88_2 := NB641_640.out
                  have hms88_4 := NB641_654.out
                  refine skip_ (w1 := ?_) (by rfl) rfl ?_ ?_
                  rotate_left
                  · go_simp
                    rfl
                  refine hK.out _ _ ⟨((cell_far (p := ⟨gb641, _, none⟩) NB654_641.out _).trans (((cell_far (p := ⟨gb641, _, none⟩) NB654_641.out _).trans (hHeld.1)))), ((cell_far (p := ⟨gb641, _, none⟩) NB654_641.out _).trans (((cell_far (p := ⟨gb641, _, none⟩) NB654_641.out _).trans (hHeld.2.1)))), ((cell_far (p := ⟨gb641, _, none⟩) (by first | exact Kd.own_blk (Kd.R_ne HO650.out BK641.out (by decide)) | (rw [add_block]; exact Kd.own_blk (Kd.R_ne HO650.out BK641.out (by decide))) | (show (Addr.add _ _).block ≠ _; rw [add_block]; exact Kd.own_blk (Kd.R_ne HO650.out BK641.out (by decide))) | (dsimp only; exact Kd.own_blk (Kd.R_ne HO650.out BK641.out (by decide)))) _).trans (((cell_far (p := ⟨gb641, _, none⟩) (by first | exact Kd.own_blk (Kd.R_ne HO650.out BK641.out (by decide)) | (rw [add_block]; exact Kd.own_blk (Kd.R_ne HO650.out BK641.out (by decide))) | (show (Addr.add _ _).block ≠ _; rw [add_block]; exact Kd.own_blk (Kd.R_ne HO650.out BK641.out (by decide))) | (dsimp only; exact Kd.own_blk (Kd.R_ne HO650.out BK641.out (by decide)))) _).trans (hHeld.2.2))))⟩ (fun hHeld => ?_)
                  clear hK K
                  refine pure_ (i := 9) (N := some 9) (v := ?_) (a' := ?_) #[true, true, true, true, true, true, true, true, true, true] rfl rfl (any_of HT_.out (by kernel_rfl)) (fun _ _ _ h => h) (Or.inl ⟨by rfl, ?_⟩) ?_ ?_
                  rotate_left
                  · intro w'
                    go_simp
                    with_reducible rfl
                  rotate_left
                  · simp only [Act.put, List.setIfInBounds_toArray, List.set_cons_zero, List.set_cons_succ, i64_w, i32_w]
                    rfl
                  refine done_ (done_of HT_.out (by kernel_rfl)) ?_
                  try go_wp2
                  refine bodyPost_ret (results_list (rs := [.tmp 6, .cell 7 49, .cell 8 23, .tmp 9]) rfl (by simp) (.tmp (.cell gb640 49 #[.slice (some ad655) t648.length co84, .int .i64 1] (0, 0) _ rfl (by (with_reducible repeat (first | refine blk_drewN ?_ _ | refine blk_drew ?_ | refine blk_alloc ?_ _)); refine blk_far ?_ NB640_641.out _; (with_reducible repeat (first | refine blk_drewN ?_ _ | refine blk_drew ?_ | refine blk_alloc ?_ _)); refine blk_far ?_ NB640_641.out _; (with_reducible repeat (first | refine blk_drewN ?_ _ | refine blk_drew ?_ | refine blk_alloc ?_ _)); refine blk_put (cs := #[.slice (some ad655) t648.length co84, .int .i64 x641001_2]) ?_ 1 _ rfl; (with_reducible repeat (first | refine blk_drewN ?_ _ | refine blk_drew ?_ | refine blk_alloc ?_ _)); refine blk_put (cs := #[.slice none 0 0, .int .i64 x641001_2]) ?_ 0 _ rfl; (with_reducible repeat (first | refine blk_drewN ?_ _ | refine blk_drew ?_ | refine blk_alloc ?_ _)); exact BK640.out) Try.underlying49 rfl (by kernel_rfl) (.cell gb641 23 #[.string t651, .int .i64 t652] (0, 0) _ rfl (by (with_reducible repeat (first | refine blk_drewN ?_ _ | refine blk_drew ?_ | refine blk_alloc ?_ _)); refine blk_put (cs := #[.string t651, .int .i64 x642001_2]) ?_ 1 _ rfl; (with_reducible repeat (first | refine blk_drewN ?_ _ | refine blk_drew ?_ | refine blk_alloc ?_ _)); refine blk_put (cs := #[.string x642000_2, .int .i64 x642001_2]) ?_ 0 _ rfl; (with_reducible repeat (first | refine blk_drewN ?_ _ | refine blk_drew ?_ | refine blk_alloc ?_ _)); refine blk_far ?_ NB641_640.out _; (with_reducible repeat (first | refine blk_drewN ?_ _ | refine blk_drew ?_ | refine blk_alloc ?_ _)); refine blk_far ?_ NB641_640.out _; (with_reducible repeat (first | refine blk_drewN ?_ _ | refine blk_drew ?_ | refine blk_alloc ?_ _)); exact BK641.out) Try.underlying23 rfl (by kernel_rfl) (.tmp .nil))))) rfl ?_
                  exact ⟨_, by first | rfl | (simp [errW_none, errW_some] <;> rfl) | (simp [*, errW_none, errW_some] <;> rfl), Kd.V_mono (Kd.R_V (by (with_reducible repeat (first | apply Kd.R_alloc | apply Kd.R_drewN | apply Kd.R_drew)); exact Kd.R_mono (Kd.R_far (p := ⟨gb641, 1, none⟩) (Kd.R_far (p := ⟨gb641, 0, none⟩) (Kd.R_far (p := ⟨gb640, 1, none⟩) (Kd.R_far (p := ⟨gb640, 0, none⟩) (Kd.R_types (Kd.R_types HO650.out BK640.out (by decide)) BK641.out (by decide)) (fun _ hk => hk.1.2) (.slice (some ad655) t648.length co84)) (fun _ hk => hk.1.2) (.int .i64 1)) (fun _ hk => hk.2) (.string t651)) (fun _ hk => hk.2) (.int .i64 t652)) (fun _ hk => hk.1.1))) (fun k_ hk => by first | exact ⟨(.inr (hk.1)), hk.2⟩ | exact (.inr (hk))), by repeat (first | (with_reducible first | exact HB.out | apply below_alloc | apply pw_below_drewN | apply below_drew1 | refine below_set ?_ GE638.out | refine below_set ?_ GE639.out | refine below_set ?_ GE640.out | refine below_set ?_ GE641.out | refine below_set ?_ GE654.out) | exact HB.out)⟩
                · rw [if_neg c67] at H
                  exact absurd H (by simp)

end Go.Proofs.Ytlanodnbdgiihaa.Fn
