/- vote.Ask, by hand: four bars, one behind another, as method values in a slice. -/
import Derived.Test.YtgfblogneggpmaaFnx4
import Derived.Test.YtgfblogneggpmaaFnx5
import Derived.Test.YtgfblogneggpmaaFnx0
import Derived.Test.YtgfblogneggpmaaHand
import Derived.BigRegion
import Derived.Deep.LoopGhost
namespace Go.Proofs.Ytgfblogneggpmaa.Fn
open Go.RowKit Go.Proofs.YtgfblogneggpmaaW.PrintWords Go.Proofs.YtgfblogneggpmaaW.PrintLast Go.Proofs.YtgfblogneggpmaaW.PrintMore
set_option linter.unusedVariables false
set_option linter.unusedSimpArgs false
def bar0 (wait now : Int) : Bool := decide (now < wait)
def bar1 (E epoch : Int) : Bool := decide (epoch < E) || epoch == 0
def barO (who from_ : Int) : Bool := who != -1 && who != from_
def bar2 (E who from_ epoch : Int) : Bool := epoch == E && barO who from_
def bar3 (who until_ from_ now : Int) : Bool := decide (now < until_) && barO who from_
set_option maxRecDepth 100000
set_option maxHeartbeats 400000 in
theorem waits_calls (E who until_ wait from_ epoch now : Int) (w : World) : Calls Try.prog 46 #[.agg #[.int .u64 E, .int .i64 who, .int .i64 until_, .int .i64 wait, .int .i64 from_, .int .u64 epoch, .int .i64 now]] w
    fun e w' => e = .returned (.bool (bar0 wait now)) ∧ Below w.heap.size w w' := by
  have hu97 := Try.underlying97
  have hu38 := Try.underlying38
  go_enter Try.func46, Try.ntmps46
  go_wp2
  all_goals go_ret
  all_goals exact ⟨rfl, (Below.refl _ w).alloc (Nat.le_refl _) _⟩
set_option maxHeartbeats 400000 in
theorem old_calls (E who until_ wait from_ epoch now : Int) (w : World) : Calls Try.prog 47 #[.agg #[.int .u64 E, .int .i64 who, .int .i64 until_, .int .i64 wait, .int .i64 from_, .int .u64 epoch, .int .i64 now]] w
    fun e w' => e = .returned (.bool (bar1 E epoch)) ∧ Below w.heap.size w w' := by
  have hu97 := Try.underlying97
  have hu38 := Try.underlying38
  cases c1 : decide (epoch < E)
  all_goals
    go_enter Try.func47, Try.ntmps47
    go_wp2
    all_goals go_ret
    all_goals exact ⟨by first | rfl | (simp [bar1, c1]; done), (Below.refl _ w).alloc (Nat.le_refl _) _⟩
set_option maxHeartbeats 400000 in
theorem other_calls (E who until_ wait from_ epoch now : Int) (w : World) : Calls Try.prog 63 #[.agg #[.int .u64 E, .int .i64 who, .int .i64 until_, .int .i64 wait, .int .i64 from_, .int .u64 epoch, .int .i64 now]] w
    fun e w' => e = .returned (.bool (barO who from_)) ∧ Below w.heap.size w w' := by
  have hu97 := Try.underlying97
  have hu38 := Try.underlying38
  go_enter Try.func63, Try.ntmps63
  go_wp2
  all_goals go_ret
  all_goals exact ⟨by first | rfl | (subst_vars; rfl) | (simp [barO]; done), (Below.refl _ w).alloc (Nat.le_refl _) _⟩
set_option maxHeartbeats 400000 in
theorem taken_calls (E who until_ wait from_ epoch now : Int) (w : World) : Calls Try.prog 48 #[.agg #[.int .u64 E, .int .i64 who, .int .i64 until_, .int .i64 wait, .int .i64 from_, .int .u64 epoch, .int .i64 now]] w
    fun e w' => e = .returned (.bool (bar2 E who from_ epoch)) ∧ Below w.heap.size w w' := by
  have hu97 := Try.underlying97
  have hu38 := Try.underlying38
  go_enter Try.func48, Try.ntmps48
  go_wp2_with (refine (other_calls _ _ _ _ _ _ _ _).mono ?_; rintro e w1 ⟨rfl, hb⟩; obtain ⟨hc, hf⟩ := bcell hb; have HB := Lib.hid hb; clear hb)
  all_goals go_ret
  all_goals exact ⟨by first | rfl | (simp_all [bar2, bar3]; done) | (simp [bar3]; omega), by first | exact (Below.refl _ w).alloc (Nat.le_refl _) _ | exact ((Below.refl _ w).alloc (Nat.le_refl _) _).trans (HB.out.mono (by simp))⟩
set_option maxHeartbeats 400000 in
theorem held_calls (E who until_ wait from_ epoch now : Int) (w : World) : Calls Try.prog 49 #[.agg #[.int .u64 E, .int .i64 who, .int .i64 until_, .int .i64 wait, .int .i64 from_, .int .u64 epoch, .int .i64 now]] w
    fun e w' => e = .returned (.bool (bar3 who until_ from_ now)) ∧ Below w.heap.size w w' := by
  have hu97 := Try.underlying97
  have hu38 := Try.underlying38
  go_enter Try.func49, Try.ntmps49
  go_wp2_with (refine (other_calls _ _ _ _ _ _ _ _).mono ?_; rintro e w1 ⟨rfl, hb⟩; obtain ⟨hc, hf⟩ := bcell hb; have HB := Lib.hid hb; clear hb)
  all_goals go_ret
  all_goals exact ⟨by first | rfl | (simp_all [bar2, bar3]; done) | (simp [bar3]; omega), by first | exact (Below.refl _ w).alloc (Nat.le_refl _) _ | exact ((Below.refl _ w).alloc (Nat.le_refl _) _).trans (HB.out.mono (by simp))⟩
/-- What Ask's boxes hold. -/
structure Bx (w : World) (t0 t1 t2 E who until_ wait : Int) (W : World) : Prop where
  T : W.heap[w.heap.size]? = some (.cells #[.int .i64 t0, .int .i64 t1, .int .i64 t2] 23 (0, 0))
  V : W.heap[w.heap.size + 1]? = some (.cells #[.int .u64 E, .int .i64 who, .int .i64 until_, .int .i64 wait] 38 (0, 0))
  R : W.heap[w.heap.size + 1 + 1]? = some (.cells #[.int .u64 0, .int .i64 0, .int .i64 0, .int .i64 0] 38 (0, 0))
  B : Below w.heap.size w W
theorem Bx.start (w : World) (t0 t1 t2 E who until_ wait : Int) : Bx w t0 t1 t2 E who until_ wait (((w.alloc (.cells #[.int .i64 t0, .int .i64 t1, .int .i64 t2] 23)).alloc (.cells #[.int .u64 E, .int .i64 who, .int .i64 until_, .int .i64 wait] 38)).alloc (.cells #[.int .u64 0, .int .i64 0, .int .i64 0, .int .i64 0] 38)) where
  T := blk_alloc (blk_alloc (blk_new w _) _) _
  V := by have := blk_alloc (blk_new (w.alloc (.cells #[.int .i64 t0, .int .i64 t1, .int .i64 t2] 23)) (.cells #[.int .u64 E, .int .i64 who, .int .i64 until_, .int .i64 wait] 38)) (.cells #[.int .u64 0, .int .i64 0, .int .i64 0, .int .i64 0] 38); simpa using this
  R := by have := blk_new ((w.alloc (.cells #[.int .i64 t0, .int .i64 t1, .int .i64 t2] 23)).alloc (.cells #[.int .u64 E, .int .i64 who, .int .i64 until_, .int .i64 wait] 38)) (.cells #[.int .u64 0, .int .i64 0, .int .i64 0, .int .i64 0] 38); simpa using this
  B := (((Below.refl _ w).alloc (Nat.le_refl _) _).alloc (by simp) _).alloc (by simp; omega) _
theorem Bx.on {w : World} {t0 t1 t2 E who until_ wait : Int} {W W' : World} (h : Bx w t0 t1 t2 E who until_ wait W) (hb : Below W.heap.size W W') : Bx w t0 t1 t2 E who until_ wait W' :=
  ⟨blk_below h.T hb, blk_below h.V hb, blk_below h.R hb, below_then h.B h.B.size hb⟩
theorem may_val {a b c m : Int} (h : vote_May.f a b c = some m) : m = 0 ∨ m = 1 := by
  unfold vote_May.f vote_Hold.f clock_Guard.f at h
  split at h
  · simp only [Option.bind_some] at h
    repeat' split at h
    all_goals simp at h
    all_goals omega
  · simp at h
    omega
theorem check_val {a b c d m : Int} (h : vote_Check.f a b c d = some m) : m = 0 ∨ m = 1 := by
  unfold vote_Check.f vote_node.f at h
  repeat' split at h
  all_goals simp at h
  all_goals repeat' split at h
  all_goals first | omega | (simp at h; omega)
set_option maxHeartbeats 1000000 in
theorem ask_bad1 (t0 t1 t2 E who until_ wait from_ epoch now : Int) (w : World) (hm : vote_May.f t0 t1 t2 = some 1) :
    Calls Try.prog 18 #[.agg #[.int .i64 t0, .int .i64 t1, .int .i64 t2], .agg #[.int .u64 E, .int .i64 who, .int .i64 until_, .int .i64 wait], .int .i64 from_, .int .u64 epoch, .int .i64 now] w fun e w' => e = .returned (.tuple #[.agg #[.int .u64 E, .int .i64 who, .int .i64 until_, .int .i64 wait], .bool false, .int .i64 1]) ∧ Below w.heap.size w w' := by
  have hu23 := Try.underlying23
  have hu38 := Try.underlying38
  have hu97 := Try.underlying97
  have X0 := Lib.hid (Bx.start w t0 t1 t2 E who until_ wait)
  have HM := Lib.hid hm
  clear hm
  go_enter Try.func18, Try.ntmps18
  go_wp2_with (first | (go_at_call 42; refine (vote_May.calls t0 t1 t2 1 _ HM.out).mono ?_; rintro e w1 ⟨rfl, hb⟩; have X1 := Lib.hid (X0.out.on hb); clear hb; have v10 := (blk_cell X1.out.V 0).trans rfl; have v11 := (blk_cell X1.out.V 1).trans rfl; have v12 := (blk_cell X1.out.V 2).trans rfl; have v13 := (blk_cell X1.out.V 3).trans rfl; have r10 := (blk_cell X1.out.R 0).trans rfl; have r11 := (blk_cell X1.out.R 1).trans rfl; have r12 := (blk_cell X1.out.R 2).trans rfl; have r13 := (blk_cell X1.out.R 3).trans rfl; have f1 := blk_frozen X1.out.R))
  all_goals
    refine bodyPost_ret (v := .tuple #[.agg #[.int .u64 E, .int .i64 who, .int .i64 until_, .int .i64 wait], .bool false, .int .i64 1]) ?_ rfl ?_
    · have hz : w.heap.size + 1 + 1 < w1.heap.size := blk_lt X1.out.R
      simp [results, Try.results18, go_sem, hz, r10, r11, r12, r13]
    · exact ⟨rfl, (((X1.out.B.setCell (by simp; omega) _).setCell (by simp; omega) _).setCell (by simp; omega) _).setCell (by simp; omega) _⟩
set_option maxHeartbeats 1000000 in
theorem ask_bad2 (t0 t1 t2 E who until_ wait from_ epoch now : Int) (w : World) (hm : vote_May.f t0 t1 t2 = some 0) (hc : vote_Check.f E who until_ wait = some 1) :
    Calls Try.prog 18 #[.agg #[.int .i64 t0, .int .i64 t1, .int .i64 t2], .agg #[.int .u64 E, .int .i64 who, .int .i64 until_, .int .i64 wait], .int .i64 from_, .int .u64 epoch, .int .i64 now] w fun e w' => e = .returned (.tuple #[.agg #[.int .u64 E, .int .i64 who, .int .i64 until_, .int .i64 wait], .bool false, .int .i64 1]) ∧ Below w.heap.size w w' := by
  have hu23 := Try.underlying23
  have hu38 := Try.underlying38
  have hu97 := Try.underlying97
  have X0 := Lib.hid (Bx.start w t0 t1 t2 E who until_ wait)
  have HM := Lib.hid hm
  have HC := Lib.hid hc
  clear hm hc
  go_enter Try.func18, Try.ntmps18
  go_wp2_with (first | (go_at_call 42; refine (vote_May.calls t0 t1 t2 0 _ HM.out).mono ?_; rintro e w1 ⟨rfl, hb⟩; have X1 := Lib.hid (X0.out.on hb); clear hb; have v10 := (blk_cell X1.out.V 0).trans rfl; have v11 := (blk_cell X1.out.V 1).trans rfl; have v12 := (blk_cell X1.out.V 2).trans rfl; have v13 := (blk_cell X1.out.V 3).trans rfl; have r10 := (blk_cell X1.out.R 0).trans rfl; have r11 := (blk_cell X1.out.R 1).trans rfl; have r12 := (blk_cell X1.out.R 2).trans rfl; have r13 := (blk_cell X1.out.R 3).trans rfl; have f1 := blk_frozen X1.out.R) | (go_at_call 43; refine (vote_Check.calls E who until_ wait 1 _ HC.out).mono ?_; rintro e w2 ⟨rfl, hb⟩; have X2 := Lib.hid (X1.out.on hb); clear hb; have v20 := (blk_cell X2.out.V 0).trans rfl; have v21 := (blk_cell X2.out.V 1).trans rfl; have v22 := (blk_cell X2.out.V 2).trans rfl; have v23 := (blk_cell X2.out.V 3).trans rfl; have r20 := (blk_cell X2.out.R 0).trans rfl; have r21 := (blk_cell X2.out.R 1).trans rfl; have r22 := (blk_cell X2.out.R 2).trans rfl; have r23 := (blk_cell X2.out.R 3).trans rfl; have f2 := blk_frozen X2.out.R))
  all_goals
    refine bodyPost_ret (v := .tuple #[.agg #[.int .u64 E, .int .i64 who, .int .i64 until_, .int .i64 wait], .bool false, .int .i64 1]) ?_ rfl ?_
    · have hz : w.heap.size + 1 + 1 < w2.heap.size := blk_lt X2.out.R
      simp [results, Try.results18, go_sem, hz, r20, r21, r22, r23]
    · exact ⟨rfl, (((X2.out.B.setCell (by simp; omega) _).setCell (by simp; omega) _).setCell (by simp; omega) _).setCell (by simp; omega) _⟩
set_option maxHeartbeats 1000000 in
theorem ask_bad3 (t0 t1 t2 E who until_ wait from_ epoch now : Int) (w : World) (hm : vote_May.f t0 t1 t2 = some 0) (hc : vote_Check.f E who until_ wait = some 0) (hn : vote_node.f from_ = some false) :
    Calls Try.prog 18 #[.agg #[.int .i64 t0, .int .i64 t1, .int .i64 t2], .agg #[.int .u64 E, .int .i64 who, .int .i64 until_, .int .i64 wait], .int .i64 from_, .int .u64 epoch, .int .i64 now] w fun e w' => e = .returned (.tuple #[.agg #[.int .u64 E, .int .i64 who, .int .i64 until_, .int .i64 wait], .bool false, .int .i64 1]) ∧ Below w.heap.size w w' := by
  have hu23 := Try.underlying23
  have hu38 := Try.underlying38
  have hu97 := Try.underlying97
  have X0 := Lib.hid (Bx.start w t0 t1 t2 E who until_ wait)
  have HM := Lib.hid hm
  have HC := Lib.hid hc
  have HN := Lib.hid hn
  clear hm hc hn
  go_enter Try.func18, Try.ntmps18
  go_wp2_with (first | (go_at_call 42; refine (vote_May.calls t0 t1 t2 0 _ HM.out).mono ?_; rintro e w1 ⟨rfl, hb⟩; have X1 := Lib.hid (X0.out.on hb); clear hb; have v10 := (blk_cell X1.out.V 0).trans rfl; have v11 := (blk_cell X1.out.V 1).trans rfl; have v12 := (blk_cell X1.out.V 2).trans rfl; have v13 := (blk_cell X1.out.V 3).trans rfl; have r10 := (blk_cell X1.out.R 0).trans rfl; have r11 := (blk_cell X1.out.R 1).trans rfl; have r12 := (blk_cell X1.out.R 2).trans rfl; have r13 := (blk_cell X1.out.R 3).trans rfl; have f1 := blk_frozen X1.out.R) | (go_at_call 43; refine (vote_Check.calls E who until_ wait 0 _ HC.out).mono ?_; rintro e w2 ⟨rfl, hb⟩; have X2 := Lib.hid (X1.out.on hb); clear hb; have v20 := (blk_cell X2.out.V 0).trans rfl; have v21 := (blk_cell X2.out.V 1).trans rfl; have v22 := (blk_cell X2.out.V 2).trans rfl; have v23 := (blk_cell X2.out.V 3).trans rfl; have r20 := (blk_cell X2.out.R 0).trans rfl; have r21 := (blk_cell X2.out.R 1).trans rfl; have r22 := (blk_cell X2.out.R 2).trans rfl; have r23 := (blk_cell X2.out.R 3).trans rfl; have f2 := blk_frozen X2.out.R) | (go_at_call 44; refine (vote_node.calls from_ false _ HN.out).mono ?_; rintro e w3 ⟨rfl, hb⟩; have X3 := Lib.hid (X2.out.on hb.below); clear hb; have v30 := (blk_cell X3.out.V 0).trans rfl; have v31 := (blk_cell X3.out.V 1).trans rfl; have v32 := (blk_cell X3.out.V 2).trans rfl; have v33 := (blk_cell X3.out.V 3).trans rfl; have r30 := (blk_cell X3.out.R 0).trans rfl; have r31 := (blk_cell X3.out.R 1).trans rfl; have r32 := (blk_cell X3.out.R 2).trans rfl; have r33 := (blk_cell X3.out.R 3).trans rfl; have f3 := blk_frozen X3.out.R))
  all_goals
    refine bodyPost_ret (v := .tuple #[.agg #[.int .u64 E, .int .i64 who, .int .i64 until_, .int .i64 wait], .bool false, .int .i64 1]) ?_ rfl ?_
    · have hz : w.heap.size + 1 + 1 < w3.heap.size := blk_lt X3.out.R
      simp [results, Try.results18, go_sem, hz, r30, r31, r32, r33]
    · exact ⟨rfl, (((X3.out.B.setCell (by simp; omega) _).setCell (by simp; omega) _).setCell (by simp; omega) _).setCell (by simp; omega) _⟩
set_option maxHeartbeats 1000000 in
theorem ask_bad4 (t0 t1 t2 E who until_ wait from_ epoch now : Int) (w : World) (hm : vote_May.f t0 t1 t2 = some 0) (hc : vote_Check.f E who until_ wait = some 0) (hn : vote_node.f from_ = some true) (ho : vote_moment.f now = some false) :
    Calls Try.prog 18 #[.agg #[.int .i64 t0, .int .i64 t1, .int .i64 t2], .agg #[.int .u64 E, .int .i64 who, .int .i64 until_, .int .i64 wait], .int .i64 from_, .int .u64 epoch, .int .i64 now] w fun e w' => e = .returned (.tuple #[.agg #[.int .u64 E, .int .i64 who, .int .i64 until_, .int .i64 wait], .bool false, .int .i64 1]) ∧ Below w.heap.size w w' := by
  have hu23 := Try.underlying23
  have hu38 := Try.underlying38
  have hu97 := Try.underlying97
  have X0 := Lib.hid (Bx.start w t0 t1 t2 E who until_ wait)
  have HM := Lib.hid hm
  have HC := Lib.hid hc
  have HN := Lib.hid hn
  have HO := Lib.hid ho
  clear hm hc hn ho
  go_enter Try.func18, Try.ntmps18
  go_wp2_with (first | (go_at_call 42; refine (vote_May.calls t0 t1 t2 0 _ HM.out).mono ?_; rintro e w1 ⟨rfl, hb⟩; have X1 := Lib.hid (X0.out.on hb); clear hb; have v10 := (blk_cell X1.out.V 0).trans rfl; have v11 := (blk_cell X1.out.V 1).trans rfl; have v12 := (blk_cell X1.out.V 2).trans rfl; have v13 := (blk_cell X1.out.V 3).trans rfl; have r10 := (blk_cell X1.out.R 0).trans rfl; have r11 := (blk_cell X1.out.R 1).trans rfl; have r12 := (blk_cell X1.out.R 2).trans rfl; have r13 := (blk_cell X1.out.R 3).trans rfl; have f1 := blk_frozen X1.out.R) | (go_at_call 43; refine (vote_Check.calls E who until_ wait 0 _ HC.out).mono ?_; rintro e w2 ⟨rfl, hb⟩; have X2 := Lib.hid (X1.out.on hb); clear hb; have v20 := (blk_cell X2.out.V 0).trans rfl; have v21 := (blk_cell X2.out.V 1).trans rfl; have v22 := (blk_cell X2.out.V 2).trans rfl; have v23 := (blk_cell X2.out.V 3).trans rfl; have r20 := (blk_cell X2.out.R 0).trans rfl; have r21 := (blk_cell X2.out.R 1).trans rfl; have r22 := (blk_cell X2.out.R 2).trans rfl; have r23 := (blk_cell X2.out.R 3).trans rfl; have f2 := blk_frozen X2.out.R) | (go_at_call 44; refine (vote_node.calls from_ true _ HN.out).mono ?_; rintro e w3 ⟨rfl, hb⟩; have X3 := Lib.hid (X2.out.on hb.below); clear hb; have v30 := (blk_cell X3.out.V 0).trans rfl; have v31 := (blk_cell X3.out.V 1).trans rfl; have v32 := (blk_cell X3.out.V 2).trans rfl; have v33 := (blk_cell X3.out.V 3).trans rfl; have r30 := (blk_cell X3.out.R 0).trans rfl; have r31 := (blk_cell X3.out.R 1).trans rfl; have r32 := (blk_cell X3.out.R 2).trans rfl; have r33 := (blk_cell X3.out.R 3).trans rfl; have f3 := blk_frozen X3.out.R) | (go_at_call 45; refine (vote_moment.calls now false _ HO.out).mono ?_; rintro e w4 ⟨rfl, hb⟩; have X4 := Lib.hid (X3.out.on hb.below); clear hb; have v40 := (blk_cell X4.out.V 0).trans rfl; have v41 := (blk_cell X4.out.V 1).trans rfl; have v42 := (blk_cell X4.out.V 2).trans rfl; have v43 := (blk_cell X4.out.V 3).trans rfl; have r40 := (blk_cell X4.out.R 0).trans rfl; have r41 := (blk_cell X4.out.R 1).trans rfl; have r42 := (blk_cell X4.out.R 2).trans rfl; have r43 := (blk_cell X4.out.R 3).trans rfl; have f4 := blk_frozen X4.out.R; have tt := (blk_cell X4.out.T 0).trans rfl))
  all_goals
    refine bodyPost_ret (v := .tuple #[.agg #[.int .u64 E, .int .i64 who, .int .i64 until_, .int .i64 wait], .bool false, .int .i64 1]) ?_ rfl ?_
    · have hz : w.heap.size + 1 + 1 < w4.heap.size := blk_lt X4.out.R
      simp [results, Try.results18, go_sem, hz, r40, r41, r42, r43]
    · exact ⟨rfl, (((X4.out.B.setCell (by simp; omega) _).setCell (by simp; omega) _).setCell (by simp; omega) _).setCell (by simp; omega) _⟩
set_option maxHeartbeats 1000000 in
theorem ask_good (t0 t1 t2 E who until_ wait from_ epoch now : Int) (w : World) (hm : vote_May.f t0 t1 t2 = some 0) (hc : vote_Check.f E who until_ wait = some 0) (hn : vote_node.f from_ = some true) (ho : vote_moment.f now = some true) (v_ : Value) (y_ : Bool) (hv : v_ = if (bar0 wait now || bar1 E epoch || bar2 E who from_ epoch || bar3 who until_ from_ now) = true then .agg #[.int .u64 E, .int .i64 who, .int .i64 until_, .int .i64 wait] else .agg #[.int .u64 epoch, .int .i64 from_, .int .i64 (wrap64 (now + t0)), .int .i64 wait]) (hy : y_ = !(bar0 wait now || bar1 E epoch || bar2 E who from_ epoch || bar3 who until_ from_ now)) :
    Calls Try.prog 18 #[.agg #[.int .i64 t0, .int .i64 t1, .int .i64 t2], .agg #[.int .u64 E, .int .i64 who, .int .i64 until_, .int .i64 wait], .int .i64 from_, .int .u64 epoch, .int .i64 now] w fun e w' => e = .returned (.tuple #[v_, .bool y_, .int .i64 0]) ∧ Below w.heap.size w w' := by
  have hu23 := Try.underlying23
  have hu38 := Try.underlying38
  have hu97 := Try.underlying97
  have X0 := Lib.hid (Bx.start w t0 t1 t2 E who until_ wait)
  have HM := Lib.hid hm
  have HC := Lib.hid hc
  have HN := Lib.hid hn
  have HO := Lib.hid ho
  clear hm hc hn ho
  have HV := Lib.hid hv
  have HY := Lib.hid hy
  clear hv hy
  go_enter Try.func18, Try.ntmps18
  go_wp2_with (first | (go_at_call 42; refine (vote_May.calls t0 t1 t2 0 _ HM.out).mono ?_; rintro e w1 ⟨rfl, hb⟩; have X1 := Lib.hid (X0.out.on hb); clear hb; have v10 := (blk_cell X1.out.V 0).trans rfl; have v11 := (blk_cell X1.out.V 1).trans rfl; have v12 := (blk_cell X1.out.V 2).trans rfl; have v13 := (blk_cell X1.out.V 3).trans rfl; have r10 := (blk_cell X1.out.R 0).trans rfl; have r11 := (blk_cell X1.out.R 1).trans rfl; have r12 := (blk_cell X1.out.R 2).trans rfl; have r13 := (blk_cell X1.out.R 3).trans rfl; have f1 := blk_frozen X1.out.R) | (go_at_call 43; refine (vote_Check.calls E who until_ wait 0 _ HC.out).mono ?_; rintro e w2 ⟨rfl, hb⟩; have X2 := Lib.hid (X1.out.on hb); clear hb; have v20 := (blk_cell X2.out.V 0).trans rfl; have v21 := (blk_cell X2.out.V 1).trans rfl; have v22 := (blk_cell X2.out.V 2).trans rfl; have v23 := (blk_cell X2.out.V 3).trans rfl; have r20 := (blk_cell X2.out.R 0).trans rfl; have r21 := (blk_cell X2.out.R 1).trans rfl; have r22 := (blk_cell X2.out.R 2).trans rfl; have r23 := (blk_cell X2.out.R 3).trans rfl; have f2 := blk_frozen X2.out.R) | (go_at_call 44; refine (vote_node.calls from_ true _ HN.out).mono ?_; rintro e w3 ⟨rfl, hb⟩; have X3 := Lib.hid (X2.out.on hb.below); clear hb; have v30 := (blk_cell X3.out.V 0).trans rfl; have v31 := (blk_cell X3.out.V 1).trans rfl; have v32 := (blk_cell X3.out.V 2).trans rfl; have v33 := (blk_cell X3.out.V 3).trans rfl; have r30 := (blk_cell X3.out.R 0).trans rfl; have r31 := (blk_cell X3.out.R 1).trans rfl; have r32 := (blk_cell X3.out.R 2).trans rfl; have r33 := (blk_cell X3.out.R 3).trans rfl; have f3 := blk_frozen X3.out.R) | (go_at_call 45; refine (vote_moment.calls now true _ HO.out).mono ?_; rintro e w4 ⟨rfl, hb⟩; have X4 := Lib.hid (X3.out.on hb.below); clear hb; have v40 := (blk_cell X4.out.V 0).trans rfl; have v41 := (blk_cell X4.out.V 1).trans rfl; have v42 := (blk_cell X4.out.V 2).trans rfl; have v43 := (blk_cell X4.out.V 3).trans rfl; have r40 := (blk_cell X4.out.R 0).trans rfl; have r41 := (blk_cell X4.out.R 1).trans rfl; have r42 := (blk_cell X4.out.R 2).trans rfl; have r43 := (blk_cell X4.out.R 3).trans rfl; have f4 := blk_frozen X4.out.R; have tt := (blk_cell X4.out.T 0).trans rfl))
  go_loopg [50] 4 (fun gg v50 wr => ∃ i : Nat, v50 = .int .i64 (i : Int) ∧ Aside0 (i ≤ 4) ∧ Aside0 (4 ≤ gg + i) ∧ Aside0 (0 < i → bar0 wait now = false) ∧ Aside0 (1 < i → bar1 E epoch = false) ∧ Aside0 (2 < i → bar2 E who from_ epoch = false) ∧ Aside0 (3 < i → bar3 who until_ from_ now = false) ∧ Aside0 (Bx w t0 t1 t2 E who until_ wait wr) ∧ Aside0 (wr.heap[w4.heap.size + 1]? = some (.cells #[.func (.func 46) #[.agg #[.int .u64 E, .int .i64 who, .int .i64 until_, .int .i64 wait, .int .i64 from_, .int .u64 epoch, .int .i64 now]] #[], .func (.func 47) #[.agg #[.int .u64 E, .int .i64 who, .int .i64 until_, .int .i64 wait, .int .i64 from_, .int .u64 epoch, .int .i64 now]] #[], .func (.func 48) #[.agg #[.int .u64 E, .int .i64 who, .int .i64 until_, .int .i64 wait, .int .i64 from_, .int .u64 epoch, .int .i64 now]] #[], .func (.func 49) #[.agg #[.int .u64 E, .int .i64 who, .int .i64 until_, .int .i64 wait, .int .i64 from_, .int .u64 epoch, .int .i64 now]] #[]] 26 (0, 0))))
  case atStart =>
    refine ⟨0, rfl, ⟨by omega⟩, ⟨by omega⟩, ⟨fun h => by omega⟩, ⟨fun h => by omega⟩, ⟨fun h => by omega⟩, ⟨fun h => by omega⟩, ⟨?_⟩, ⟨?_⟩⟩
    · exact X4.out.on (((Below.refl _ w4).alloc (Nat.le_refl _) _).alloc (by simp) _)
    · have h := blk_new (w4.alloc (.cells #[.int .u64 E, .int .i64 who, .int .i64 until_, .int .i64 wait, .int .i64 from_, .int .u64 epoch, .int .i64 now] 97)) (.cells #[.func (.func 46) #[.agg #[.int .u64 E, .int .i64 who, .int .i64 until_, .int .i64 wait, .int .i64 from_, .int .u64 epoch, .int .i64 now]] #[], .func (.func 47) #[.agg #[.int .u64 E, .int .i64 who, .int .i64 until_, .int .i64 wait, .int .i64 from_, .int .u64 epoch, .int .i64 now]] #[], .func (.func 48) #[.agg #[.int .u64 E, .int .i64 who, .int .i64 until_, .int .i64 wait, .int .i64 from_, .int .u64 epoch, .int .i64 now]] #[], .func (.func 49) #[.agg #[.int .u64 E, .int .i64 who, .int .i64 until_, .int .i64 wait, .int .i64 from_, .int .u64 epoch, .int .i64 now]] #[]] 26)
      rw [show (w4.alloc (.cells #[.int .u64 E, .int .i64 who, .int .i64 until_, .int .i64 wait, .int .i64 from_, .int .u64 epoch, .int .i64 now] 97)).heap.size = w4.heap.size + 1 by simp] at h
      exact h
  case round =>
    obtain ⟨i, rfl, a1, a2, b0, b1, b2, b3, X5, S5⟩ := hrel
    obtain rfl | rfl | rfl | rfl | rfl : i = 0 ∨ i = 1 ∨ i = 2 ∨ i = 3 ∨ i = 4 := by have := a1.out; omega
    · have s0 := (blk_cell S5.out 0).trans rfl
      have hz := blk_lt S5.out
      have Wc := fun W => waits_calls E who until_ wait from_ epoch now W
      cases hb0 : bar0 wait now with
      | true =>
        rw [hb0] at Wc
        go_wp2_with (refine (Wc _).mono ?_; rintro e w6 ⟨rfl, hb⟩; have X6 := Lib.hid (X5.out.on hb); have S6 := Lib.hid (blk_below S5.out hb); clear hb; have v60 := (blk_cell X6.out.V 0).trans rfl; have v61 := (blk_cell X6.out.V 1).trans rfl; have v62 := (blk_cell X6.out.V 2).trans rfl; have v63 := (blk_cell X6.out.V 3).trans rfl; have r60 := (blk_cell X6.out.R 0).trans rfl; have r61 := (blk_cell X6.out.R 1).trans rfl; have r62 := (blk_cell X6.out.R 2).trans rfl; have r63 := (blk_cell X6.out.R 3).trans rfl; have f6 := blk_frozen X6.out.R)
        all_goals
          refine bodyPost_ret (v := .tuple #[.agg #[.int .u64 E, .int .i64 who, .int .i64 until_, .int .i64 wait], .bool false, .int .i64 0]) ?_ rfl ?_
          · have hz : w.heap.size + 1 + 1 < w6.heap.size := blk_lt X6.out.R
            simp [results, Try.results18, go_sem, hz, r60, r61, r62, r63]
          · exact ⟨by rw [HV.out, HY.out]; simp [hb0], (((X6.out.B.setCell (by simp; omega) _).setCell (by simp; omega) _).setCell (by simp; omega) _).setCell (by simp; omega) _⟩
      | false =>
        rw [hb0] at Wc
        go_wp2_with (refine (Wc _).mono ?_; rintro e w6 ⟨rfl, hb⟩; have X6 := Lib.hid (X5.out.on hb); have S6 := Lib.hid (blk_below S5.out hb); clear hb; have v60 := (blk_cell X6.out.V 0).trans rfl; have v61 := (blk_cell X6.out.V 1).trans rfl; have v62 := (blk_cell X6.out.V 2).trans rfl; have v63 := (blk_cell X6.out.V 3).trans rfl; have r60 := (blk_cell X6.out.R 0).trans rfl; have r61 := (blk_cell X6.out.R 1).trans rfl; have r62 := (blk_cell X6.out.R 2).trans rfl; have r63 := (blk_cell X6.out.R 3).trans rfl; have f6 := blk_frozen X6.out.R)
        all_goals
          go_roundg 3
          case measure => have := a2.out; omega
          case rel => exact ⟨1, rfl, ⟨by omega⟩, ⟨by omega⟩, ⟨fun _ => hb0⟩, ⟨fun h => by omega⟩, ⟨fun h => by omega⟩, ⟨fun h => by omega⟩, ⟨X6.out⟩, ⟨S6.out⟩⟩
    · have s1 := (blk_cell S5.out 1).trans rfl
      have hz := blk_lt S5.out
      have Wc := fun W => old_calls E who until_ wait from_ epoch now W
      cases hb1 : bar1 E epoch with
      | true =>
        rw [hb1] at Wc
        go_wp2_with (refine (Wc _).mono ?_; rintro e w6 ⟨rfl, hb⟩; have X6 := Lib.hid (X5.out.on hb); have S6 := Lib.hid (blk_below S5.out hb); clear hb; have v60 := (blk_cell X6.out.V 0).trans rfl; have v61 := (blk_cell X6.out.V 1).trans rfl; have v62 := (blk_cell X6.out.V 2).trans rfl; have v63 := (blk_cell X6.out.V 3).trans rfl; have r60 := (blk_cell X6.out.R 0).trans rfl; have r61 := (blk_cell X6.out.R 1).trans rfl; have r62 := (blk_cell X6.out.R 2).trans rfl; have r63 := (blk_cell X6.out.R 3).trans rfl; have f6 := blk_frozen X6.out.R)
        all_goals
          refine bodyPost_ret (v := .tuple #[.agg #[.int .u64 E, .int .i64 who, .int .i64 until_, .int .i64 wait], .bool false, .int .i64 0]) ?_ rfl ?_
          · have hz : w.heap.size + 1 + 1 < w6.heap.size := blk_lt X6.out.R
            simp [results, Try.results18, go_sem, hz, r60, r61, r62, r63]
          · exact ⟨by rw [HV.out, HY.out]; simp [hb1], (((X6.out.B.setCell (by simp; omega) _).setCell (by simp; omega) _).setCell (by simp; omega) _).setCell (by simp; omega) _⟩
      | false =>
        rw [hb1] at Wc
        go_wp2_with (refine (Wc _).mono ?_; rintro e w6 ⟨rfl, hb⟩; have X6 := Lib.hid (X5.out.on hb); have S6 := Lib.hid (blk_below S5.out hb); clear hb; have v60 := (blk_cell X6.out.V 0).trans rfl; have v61 := (blk_cell X6.out.V 1).trans rfl; have v62 := (blk_cell X6.out.V 2).trans rfl; have v63 := (blk_cell X6.out.V 3).trans rfl; have r60 := (blk_cell X6.out.R 0).trans rfl; have r61 := (blk_cell X6.out.R 1).trans rfl; have r62 := (blk_cell X6.out.R 2).trans rfl; have r63 := (blk_cell X6.out.R 3).trans rfl; have f6 := blk_frozen X6.out.R)
        all_goals
          go_roundg 2
          case measure => have := a2.out; omega
          case rel => exact ⟨2, rfl, ⟨by omega⟩, ⟨by omega⟩, ⟨fun _ => b0.out (by omega)⟩, ⟨fun _ => hb1⟩, ⟨fun h => by omega⟩, ⟨fun h => by omega⟩, ⟨X6.out⟩, ⟨S6.out⟩⟩
    · have s2 := (blk_cell S5.out 2).trans rfl
      have hz := blk_lt S5.out
      have Wc := fun W => taken_calls E who until_ wait from_ epoch now W
      cases hb2 : bar2 E who from_ epoch with
      | true =>
        rw [hb2] at Wc
        go_wp2_with (refine (Wc _).mono ?_; rintro e w6 ⟨rfl, hb⟩; have X6 := Lib.hid (X5.out.on hb); have S6 := Lib.hid (blk_below S5.out hb); clear hb; have v60 := (blk_cell X6.out.V 0).trans rfl; have v61 := (blk_cell X6.out.V 1).trans rfl; have v62 := (blk_cell X6.out.V 2).trans rfl; have v63 := (blk_cell X6.out.V 3).trans rfl; have r60 := (blk_cell X6.out.R 0).trans rfl; have r61 := (blk_cell X6.out.R 1).trans rfl; have r62 := (blk_cell X6.out.R 2).trans rfl; have r63 := (blk_cell X6.out.R 3).trans rfl; have f6 := blk_frozen X6.out.R)
        all_goals
          refine bodyPost_ret (v := .tuple #[.agg #[.int .u64 E, .int .i64 who, .int .i64 until_, .int .i64 wait], .bool false, .int .i64 0]) ?_ rfl ?_
          · have hz : w.heap.size + 1 + 1 < w6.heap.size := blk_lt X6.out.R
            simp [results, Try.results18, go_sem, hz, r60, r61, r62, r63]
          · exact ⟨by rw [HV.out, HY.out]; simp [hb2], (((X6.out.B.setCell (by simp; omega) _).setCell (by simp; omega) _).setCell (by simp; omega) _).setCell (by simp; omega) _⟩
      | false =>
        rw [hb2] at Wc
        go_wp2_with (refine (Wc _).mono ?_; rintro e w6 ⟨rfl, hb⟩; have X6 := Lib.hid (X5.out.on hb); have S6 := Lib.hid (blk_below S5.out hb); clear hb; have v60 := (blk_cell X6.out.V 0).trans rfl; have v61 := (blk_cell X6.out.V 1).trans rfl; have v62 := (blk_cell X6.out.V 2).trans rfl; have v63 := (blk_cell X6.out.V 3).trans rfl; have r60 := (blk_cell X6.out.R 0).trans rfl; have r61 := (blk_cell X6.out.R 1).trans rfl; have r62 := (blk_cell X6.out.R 2).trans rfl; have r63 := (blk_cell X6.out.R 3).trans rfl; have f6 := blk_frozen X6.out.R)
        all_goals
          go_roundg 1
          case measure => have := a2.out; omega
          case rel => exact ⟨3, rfl, ⟨by omega⟩, ⟨by omega⟩, ⟨fun _ => b0.out (by omega)⟩, ⟨fun _ => b1.out (by omega)⟩, ⟨fun _ => hb2⟩, ⟨fun h => by omega⟩, ⟨X6.out⟩, ⟨S6.out⟩⟩
    · have s3 := (blk_cell S5.out 3).trans rfl
      have hz := blk_lt S5.out
      have Wc := fun W => held_calls E who until_ wait from_ epoch now W
      cases hb3 : bar3 who until_ from_ now with
      | true =>
        rw [hb3] at Wc
        go_wp2_with (refine (Wc _).mono ?_; rintro e w6 ⟨rfl, hb⟩; have X6 := Lib.hid (X5.out.on hb); have S6 := Lib.hid (blk_below S5.out hb); clear hb; have v60 := (blk_cell X6.out.V 0).trans rfl; have v61 := (blk_cell X6.out.V 1).trans rfl; have v62 := (blk_cell X6.out.V 2).trans rfl; have v63 := (blk_cell X6.out.V 3).trans rfl; have r60 := (blk_cell X6.out.R 0).trans rfl; have r61 := (blk_cell X6.out.R 1).trans rfl; have r62 := (blk_cell X6.out.R 2).trans rfl; have r63 := (blk_cell X6.out.R 3).trans rfl; have f6 := blk_frozen X6.out.R)
        all_goals
          refine bodyPost_ret (v := .tuple #[.agg #[.int .u64 E, .int .i64 who, .int .i64 until_, .int .i64 wait], .bool false, .int .i64 0]) ?_ rfl ?_
          · have hz : w.heap.size + 1 + 1 < w6.heap.size := blk_lt X6.out.R
            simp [results, Try.results18, go_sem, hz, r60, r61, r62, r63]
          · exact ⟨by rw [HV.out, HY.out]; simp [hb3], (((X6.out.B.setCell (by simp; omega) _).setCell (by simp; omega) _).setCell (by simp; omega) _).setCell (by simp; omega) _⟩
      | false =>
        rw [hb3] at Wc
        go_wp2_with (refine (Wc _).mono ?_; rintro e w6 ⟨rfl, hb⟩; have X6 := Lib.hid (X5.out.on hb); have S6 := Lib.hid (blk_below S5.out hb); clear hb; have v60 := (blk_cell X6.out.V 0).trans rfl; have v61 := (blk_cell X6.out.V 1).trans rfl; have v62 := (blk_cell X6.out.V 2).trans rfl; have v63 := (blk_cell X6.out.V 3).trans rfl; have r60 := (blk_cell X6.out.R 0).trans rfl; have r61 := (blk_cell X6.out.R 1).trans rfl; have r62 := (blk_cell X6.out.R 2).trans rfl; have r63 := (blk_cell X6.out.R 3).trans rfl; have f6 := blk_frozen X6.out.R)
        all_goals
          go_roundg 0
          case measure => have := a2.out; omega
          case rel => exact ⟨4, rfl, ⟨by omega⟩, ⟨by omega⟩, ⟨fun _ => b0.out (by omega)⟩, ⟨fun _ => b1.out (by omega)⟩, ⟨fun _ => b2.out (by omega)⟩, ⟨fun _ => hb3⟩, ⟨X6.out⟩, ⟨S6.out⟩⟩
    · have X6 := X5
      have v60 := (blk_cell X6.out.V 0).trans rfl
      have r60 := (blk_cell X6.out.R 0).trans rfl
      have v61 := (blk_cell X6.out.V 1).trans rfl
      have r61 := (blk_cell X6.out.R 1).trans rfl
      have v62 := (blk_cell X6.out.V 2).trans rfl
      have r62 := (blk_cell X6.out.R 2).trans rfl
      have v63 := (blk_cell X6.out.V 3).trans rfl
      have r63 := (blk_cell X6.out.R 3).trans rfl
      have f6 := blk_frozen X6.out.R
      have g6 := blk_frozen X6.out.V
      have t6 := (blk_cell X6.out.T 0).trans rfl
      go_wp2
      go_region
      all_goals go_wp2
      all_goals
        refine bodyPost_ret (v := .tuple #[.agg #[.int .u64 epoch, .int .i64 from_, .int .i64 (wrap64 (now + t0)), .int .i64 wait], .bool true, .int .i64 0]) ?_ rfl ?_
        · have hz : w.heap.size + 1 + 1 < wr.heap.size := blk_lt X6.out.R
          simp [results, Try.results18, go_sem, hz, r60, r61, r62, r63, v60, v61, v62, v63]
        · refine ⟨by rw [HV.out, HY.out, b0.out (by omega), b1.out (by omega), b2.out (by omega), b3.out (by omega)]; rfl, ?_⟩
          have h1 : w.heap.size ≤ w.heap.size + 1 := by omega
          have h2 : w.heap.size ≤ w.heap.size + 1 + 1 := by omega
          exact Below.drew (Below.setCell (Below.setCell (Below.setCell (Below.setCell (Below.setCell (Below.setCell (Below.setCell X6.out.B h1 _) h1 _) h1 _) h2 _) h2 _) h2 _) h2 _)
def vote_Ask.f (a0_0 : Int) (a0_1 : Int) (a0_2 : Int) (a1_0 : Int) (a1_1 : Int) (a1_2 : Int) (a1_3 : Int) (a2 : Int) (a3 : Int) (a4 : Int) : Option (Int × Int × Int × Int × Bool × Int) :=
  (vote_May.f a0_0 a0_1 a0_2).bind fun m => if m = 0 then (vote_Check.f a1_0 a1_1 a1_2 a1_3).bind fun c => if c = 0 then (vote_node.f a2).bind fun n => if n = true then (vote_moment.f a4).bind fun o => if o = true then
    (if (bar0 a1_3 a4 || bar1 a1_0 a3 || bar2 a1_0 a1_1 a2 a3 || bar3 a1_1 a1_2 a2 a4) = true then some (a1_0, a1_1, a1_2, a1_3, false, 0) else some (a3, a2, wrap64 (a4 + a0_0), a1_3, true, 0))
    else some (a1_0, a1_1, a1_2, a1_3, false, 1) else some (a1_0, a1_1, a1_2, a1_3, false, 1) else some (a1_0, a1_1, a1_2, a1_3, false, 1) else some (a1_0, a1_1, a1_2, a1_3, false, 1)
theorem vote_Ask.calls (a0_0 : Int) (a0_1 : Int) (a0_2 : Int) (a1_0 : Int) (a1_1 : Int) (a1_2 : Int) (a1_3 : Int) (a2 : Int) (a3 : Int) (a4 : Int) (r1 : Int) (r2 : Int) (r3 : Int) (r4 : Int) (r5 : Bool) (r6 : Int) (w : World) (h : vote_Ask.f a0_0 a0_1 a0_2 a1_0 a1_1 a1_2 a1_3 a2 a3 a4 = some (r1, r2, r3, r4, r5, r6)) :
    Calls Try.prog 18 #[.agg #[.int .i64 a0_0, .int .i64 a0_1, .int .i64 a0_2], .agg #[.int .u64 a1_0, .int .i64 a1_1, .int .i64 a1_2, .int .i64 a1_3], .int .i64 a2, .int .u64 a3, .int .i64 a4] w fun e w' => e = .returned (.tuple #[.agg #[.int .u64 r1, .int .i64 r2, .int .i64 r3, .int .i64 r4], .bool r5, .int .i64 r6]) ∧ Below w.heap.size w w' := by
  unfold vote_Ask.f at h
  obtain ⟨m, hm, h⟩ := Option.bind_eq_some_iff.1 h
  rcases may_val hm with rfl | rfl
  · rw [if_pos rfl] at h
    obtain ⟨c, hc, h⟩ := Option.bind_eq_some_iff.1 h
    rcases check_val hc with rfl | rfl
    · rw [if_pos rfl] at h
      obtain ⟨n, hn, h⟩ := Option.bind_eq_some_iff.1 h
      cases n with
      | true =>
        rw [if_pos rfl] at h
        obtain ⟨o, ho, h⟩ := Option.bind_eq_some_iff.1 h
        cases o with
        | true =>
          rw [if_pos rfl] at h
          by_cases hb : (bar0 a1_3 a4 || bar1 a1_0 a3 || bar2 a1_0 a1_1 a2 a3 || bar3 a1_1 a1_2 a2 a4) = true
          · rw [if_pos hb] at h
            simp only [Option.some.injEq, Prod.mk.injEq] at h
            obtain ⟨rfl, rfl, rfl, rfl, rfl, rfl⟩ := h
            exact ask_good _ _ _ _ _ _ _ _ _ _ _ hm hc hn ho _ _ (by rw [if_pos hb]) (by rw [hb]; rfl)
          · rw [if_neg hb] at h
            simp only [Option.some.injEq, Prod.mk.injEq] at h
            obtain ⟨rfl, rfl, rfl, rfl, rfl, rfl⟩ := h
            exact ask_good _ _ _ _ _ _ _ _ _ _ _ hm hc hn ho _ _ (by rw [if_neg hb]) (by rw [Bool.eq_false_iff.2 hb]; rfl)
        | false =>
          rw [if_neg (by decide)] at h
          simp only [Option.some.injEq, Prod.mk.injEq] at h
          obtain ⟨rfl, rfl, rfl, rfl, rfl, rfl⟩ := h
          exact ask_bad4 _ _ _ _ _ _ _ _ _ _ _ hm hc hn ho
      | false =>
        rw [if_neg (by decide)] at h
        simp only [Option.some.injEq, Prod.mk.injEq] at h
        obtain ⟨rfl, rfl, rfl, rfl, rfl, rfl⟩ := h
        exact ask_bad3 _ _ _ _ _ _ _ _ _ _ _ hm hc hn
    · rw [if_neg (by decide)] at h
      simp only [Option.some.injEq, Prod.mk.injEq] at h
      obtain ⟨rfl, rfl, rfl, rfl, rfl, rfl⟩ := h
      exact ask_bad2 _ _ _ _ _ _ _ _ _ _ _ hm hc
  · rw [if_neg (by decide)] at h
    simp only [Option.some.injEq, Prod.mk.injEq] at h
    obtain ⟨rfl, rfl, rfl, rfl, rfl, rfl⟩ := h
    exact ask_bad1 _ _ _ _ _ _ _ _ _ _ _ hm
end Go.Proofs.Ytgfblogneggpmaa.Fn
