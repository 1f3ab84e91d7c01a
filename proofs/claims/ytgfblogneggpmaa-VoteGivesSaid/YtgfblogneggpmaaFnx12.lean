-- Written by program (a turned copy of the kit's print) for this seat: functions, contracts. Lean checks it.
import Derived.Test.YtgfblogneggpmaaFnx0
import Derived.Test.YtgfblogneggpmaaFnx1
import Derived.Test.YtgfblogneggpmaaAw16
import Derived.Test.YtgfblogneggpmaaExAsk
namespace Go.Proofs.Ytgfblogneggpmaa.Fn
open Go.RowKit Go.Proofs.YtgfblogneggpmaaW.PrintWords Go.Proofs.YtgfblogneggpmaaW.PrintLast Go.Proofs.YtgfblogneggpmaaW.PrintMore
attribute [local go_sem] max2_int min2_int max_two min_two max_three min_three max_four min_four   -- for this text's walks alone
set_option linter.unusedVariables false
set_option linter.unusedSimpArgs false

attribute [local go_sem high] eqA38
/-! ### tattlelaw17_VoteGives: function 6 -/
mutual
def tattlelaw17_VoteGives.j0 : Nat → Bool → Int → Bool → Int → Int → Int → Int → Int → Int → Int → Int → Int → Int → Int → Int → Int → Int → Option (Bool)
  | 0, _, _, _, _, _, _, _, _, _, _, _, _, _, _, _, _, _ => none
  | k + 1, x4, x5, x33, x255000, x255001, x255002, x255003, x255004, x255005, x255006, x255007, x255008, x255009, x262000, x262001, x262002, x262003 => if x33 = true then (if x5 = 0 then (if x4 = true then ((tattlelaw17_awakeT.f).bind fun t262 => (some t262)) else (if (x262000 == x255003 && (x262001 == x255004 && (x262002 == x255005 && (x262003 == x255006)))) = true then ((tattlelaw17_awakeT.f).bind fun t263 => (some t263)) else (some false))) else ((tattlelaw17_awakeT.f).bind fun t264 => (some t264))) else (if x255008 > x255003 then (if x255009 ≥ x255005 then (if x255009 ≥ x255006 then (tattlelaw17_VoteGives.j1 k x4 (!x4) x255000 x255001 x255002 x255003 x255004 x255005 x255006 x255007 x255008 x255009 x262000 x262001 x262002 x262003) else (tattlelaw17_VoteGives.j1 k x4 false x255000 x255001 x255002 x255003 x255004 x255005 x255006 x255007 x255008 x255009 x262000 x262001 x262002 x262003)) else (tattlelaw17_VoteGives.j1 k x4 false x255000 x255001 x255002 x255003 x255004 x255005 x255006 x255007 x255008 x255009 x262000 x262001 x262002 x262003)) else (tattlelaw17_VoteGives.j1 k x4 false x255000 x255001 x255002 x255003 x255004 x255005 x255006 x255007 x255008 x255009 x262000 x262001 x262002 x262003))
def tattlelaw17_VoteGives.j1 : Nat → Bool → Bool → Int → Int → Int → Int → Int → Int → Int → Int → Int → Int → Int → Int → Int → Int → Option (Bool)
  | 0, _, _, _, _, _, _, _, _, _, _, _, _, _, _, _, _ => none
  | k + 1, x4, x73, x255000, x255001, x255002, x255003, x255004, x255005, x255006, x255007, x255008, x255009, x262000, x262001, x262002, x262003 => if x73 = true then (some false) else (if x4 = true then ((vote_Ask.f x255000 x255001 x255002 x262000 x262001 x262002 x262003 x255007 x255008 (wrap64 (x255009 + 1))).bind fun bt265 => ((vote_Ask.f x255000 x255001 x255002 x262000 x262001 x262002 x262003 (Int.tmod (wrap64 (x255007 + 1)) 64) (IntKind.u64.wrap (x255008 + 1)) (wrap64 ((wrap64 (x255009 + x255000)) - 1))).bind fun bt272 => (if bt265.2.2.2.2.1 = true then (if bt265.2.2.2.2.2 = 0 then (if bt265.2.2.1 = (wrap64 (x262002 + 1)) then (if bt265.1 = x262000 then (if bt272.2.2.2.2.1 = true then (some false) else (if bt272.2.2.2.2.2 = 0 then ((tattlelaw17_awakeT.f).bind fun t279 => (some t279)) else (some false))) else (some false)) else (some false)) else (some false)) else (some false)))) else (if (x262000 == x255003 && (x262001 == x255004 && (x262002 == x255005 && (x262003 == x255006)))) = true then ((tattlelaw17_awakeT.f).bind fun t280 => (some t280)) else (some false)))
end
def tattlelaw17_VoteGives.f (k : Nat) (a0_0 : Int) (a0_1 : Int) (a0_2 : Int) (a0_3 : Int) (a0_4 : Int) (a0_5 : Int) (a0_6 : Int) (a0_7 : Int) (a0_8 : Int) (a0_9 : Int) : Option (Bool) := (vote_Ask.f a0_0 a0_1 a0_2 a0_3 a0_4 a0_5 a0_6 a0_7 a0_8 a0_9).bind fun bt255 => (if bt255.2.2.2.2.2 = 0 then (tattlelaw17_VoteGives.j0 k bt255.2.2.2.2.1 bt255.2.2.2.2.2 (decide (a0_9 > 549755813888)) a0_0 a0_1 a0_2 a0_3 a0_4 a0_5 a0_6 a0_7 a0_8 a0_9 bt255.1 bt255.2.1 bt255.2.2.1 bt255.2.2.2.1) else (tattlelaw17_VoteGives.j0 k bt255.2.2.2.2.1 bt255.2.2.2.2.2 true a0_0 a0_1 a0_2 a0_3 a0_4 a0_5 a0_6 a0_7 a0_8 a0_9 bt255.1 bt255.2.1 bt255.2.2.1 bt255.2.2.2.1))
theorem tattlelaw17_VoteGives.mono_l : ∀ k, (∀ y0 y1 y2 y3 y4 y5 y6 y7 y8 y9 y10 y11 y12 y13 y14 y15 y16, LeO (tattlelaw17_VoteGives.j0 k y0 y1 y2 y3 y4 y5 y6 y7 y8 y9 y10 y11 y12 y13 y14 y15 y16) (tattlelaw17_VoteGives.j0 (k + 1) y0 y1 y2 y3 y4 y5 y6 y7 y8 y9 y10 y11 y12 y13 y14 y15 y16)) ∧ (∀ y0 y1 y2 y3 y4 y5 y6 y7 y8 y9 y10 y11 y12 y13 y14 y15, LeO (tattlelaw17_VoteGives.j1 k y0 y1 y2 y3 y4 y5 y6 y7 y8 y9 y10 y11 y12 y13 y14 y15) (tattlelaw17_VoteGives.j1 (k + 1) y0 y1 y2 y3 y4 y5 y6 y7 y8 y9 y10 y11 y12 y13 y14 y15))
  | 0 => ⟨fun _ _ _ _ _ _ _ _ _ _ _ _ _ _ _ _ _ r h => by simp [tattlelaw17_VoteGives.j0] at h, fun _ _ _ _ _ _ _ _ _ _ _ _ _ _ _ _ r h => by simp [tattlelaw17_VoteGives.j1] at h⟩
  | k + 1 => by
    obtain ⟨ih0, ih1⟩ := tattlelaw17_VoteGives.mono_l k
    refine ⟨?_, ?_⟩
    · intro y0 y1 y2 y3 y4 y5 y6 y7 y8 y9 y10 y11 y12 y13 y14 y15 y16
      unfold tattlelaw17_VoteGives.j0
      repeat' first
      | (with_reducible exact ih0 _ _ _ _ _ _ _ _ _ _ _ _ _ _ _ _ _)
      | (with_reducible exact ih1 _ _ _ _ _ _ _ _ _ _ _ _ _ _ _ _)
      | (with_reducible exact LeO.refl _)
      | (with_reducible exact LeO.none _)
      | (with_reducible refine LeO.ite ?_ ?_)
      | (with_reducible refine LeO.bind ?_ (fun _ => ?_))
      | exact ih0 _ _ _ _ _ _ _ _ _ _ _ _ _ _ _ _ _
      | exact ih1 _ _ _ _ _ _ _ _ _ _ _ _ _ _ _ _
      | exact LeO.none _
      | refine LeO.ite ?_ ?_
      | refine LeO.bind ?_ (fun _ => ?_)
    · intro y0 y1 y2 y3 y4 y5 y6 y7 y8 y9 y10 y11 y12 y13 y14 y15
      unfold tattlelaw17_VoteGives.j1
      repeat' first
      | (with_reducible exact ih0 _ _ _ _ _ _ _ _ _ _ _ _ _ _ _ _ _)
      | (with_reducible exact ih1 _ _ _ _ _ _ _ _ _ _ _ _ _ _ _ _)
      | (with_reducible exact LeO.refl _)
      | (with_reducible exact LeO.none _)
      | (with_reducible refine LeO.ite ?_ ?_)
      | (with_reducible refine LeO.bind ?_ (fun _ => ?_))
      | exact ih0 _ _ _ _ _ _ _ _ _ _ _ _ _ _ _ _ _
      | exact ih1 _ _ _ _ _ _ _ _ _ _ _ _ _ _ _ _
      | exact LeO.none _
      | refine LeO.ite ?_ ?_
      | refine LeO.bind ?_ (fun _ => ?_)
theorem tattlelaw17_VoteGives.mono : ∀ a0 a1 a2 a3 a4 a5 a6 a7 a8 a9 k, LeO (tattlelaw17_VoteGives.f k a0 a1 a2 a3 a4 a5 a6 a7 a8 a9) (tattlelaw17_VoteGives.f (k + 1) a0 a1 a2 a3 a4 a5 a6 a7 a8 a9) := by
  intro a0 a1 a2 a3 a4 a5 a6 a7 a8 a9 k
  obtain ⟨ih0, ih1⟩ := tattlelaw17_VoteGives.mono_l k
  unfold tattlelaw17_VoteGives.f
  repeat' first
      | (with_reducible exact ih0 _ _ _ _ _ _ _ _ _ _ _ _ _ _ _ _ _)
      | (with_reducible exact ih1 _ _ _ _ _ _ _ _ _ _ _ _ _ _ _ _)
      | (with_reducible exact LeO.refl _)
      | (with_reducible exact LeO.none _)
      | (with_reducible refine LeO.ite ?_ ?_)
      | (with_reducible refine LeO.bind ?_ (fun _ => ?_))
      | exact ih0 _ _ _ _ _ _ _ _ _ _ _ _ _ _ _ _ _
      | exact ih1 _ _ _ _ _ _ _ _ _ _ _ _ _ _ _ _
      | exact LeO.none _
      | refine LeO.ite ?_ ?_
      | refine LeO.bind ?_ (fun _ => ?_)
set_option maxHeartbeats 8000000 in
set_option maxRecDepth 100000 in
theorem tattlelaw17_VoteGives.calls (k : Nat) (a0_0 : Int) (a0_1 : Int) (a0_2 : Int) (a0_3 : Int) (a0_4 : Int) (a0_5 : Int) (a0_6 : Int) (a0_7 : Int) (a0_8 : Int) (a0_9 : Int) (r : Bool) (w : World) (hrt : Aside0 (r = true)) (h : tattlelaw17_VoteGives.f k a0_0 a0_1 a0_2 a0_3 a0_4 a0_5 a0_6 a0_7 a0_8 a0_9 = some r) :
    Calls Try.prog 6 #[.agg #[.int .i64 a0_0, .int .i64 a0_1, .int .i64 a0_2, .int .u64 a0_3, .int .i64 a0_4, .int .i64 a0_5, .int .i64 a0_6, .int .i64 a0_7, .int .u64 a0_8, .int .i64 a0_9]] w fun e w' => e = .returned (.bool r) ∧ Below w.heap.size w w' := by
  have hu40 := Try.underlying40
  have hu23 := Try.underlying23
  have hu38 := Try.underlying38
  have HB := Aside0.mk (Below.refl w.heap.size w)
  have H : ((vote_Ask.f a0_0 a0_1 a0_2 a0_3 a0_4 a0_5 a0_6 a0_7 a0_8 a0_9).bind fun bt255 => (if bt255.2.2.2.2.2 = 0 then (tattlelaw17_VoteGives.j0 k bt255.2.2.2.2.1 bt255.2.2.2.2.2 (decide (a0_9 > 549755813888)) a0_0 a0_1 a0_2 a0_3 a0_4 a0_5 a0_6 a0_7 a0_8 a0_9 bt255.1 bt255.2.1 bt255.2.2.1 bt255.2.2.2.1) else (tattlelaw17_VoteGives.j0 k bt255.2.2.2.2.1 bt255.2.2.2.2.2 true a0_0 a0_1 a0_2 a0_3 a0_4 a0_5 a0_6 a0_7 a0_8 a0_9 bt255.1 bt255.2.1 bt255.2.2.1 bt255.2.2.2.1))) = some r := h
  clear h
  replace H := Option.bind_eq_some_iff.mp H
  obtain ⟨⟨t255, t256, t257, t258, t259, t260⟩, A20, H⟩ := H
  replace H : (if t260 = 0 then (tattlelaw17_VoteGives.j0 k t259 t260 (decide (a0_9 > 549755813888)) a0_0 a0_1 a0_2 a0_3 a0_4 a0_5 a0_6 a0_7 a0_8 a0_9 t255 t256 t257 t258) else (tattlelaw17_VoteGives.j0 k t259 t260 true a0_0 a0_1 a0_2 a0_3 a0_4 a0_5 a0_6 a0_7 a0_8 a0_9 t255 t256 t257 t258)) = some r := H
  have A2 := Aside0.mk A20
  clear A20
  have HC3 := Aside0.mk H
  clear H
  go_enter Try.func6, Try.ntmps6
  go_upto_region 2 with (first | ((with_reducible refine gate_dst (N := 1) rfl ?_); refine box_event ?hg (N := 1) ?hd (cs := #[.int .i64 a0_0, .int .i64 a0_1, .int .i64 a0_2, .int .u64 a0_3, .int .i64 a0_4, .int .i64 a0_5, .int .i64 a0_6, .int .i64 a0_7, .int .u64 a0_8, .int .i64 a0_9]) (t := 40) ?hr ?_; (case hd => rfl); (case hg => rfl); (case hr => first | (go_simp; done) | (go_simp; rfl)); intro gb254 hg w4 hbox hb; have n0_ := Aside0.mk (below_step (by repeat (first | (with_reducible first | exact HB.out | apply below_alloc | apply pw_below_drewN | apply below_drew1) | exact HB.out)) hb); have n1_ := Aside0.mk (hbox); have n2_ := Aside0.mk ((by rw [hg]; exact (below_size (by repeat (first | (with_reducible first | exact HB.out | apply below_alloc | apply pw_below_drewN | apply below_drew1) | exact HB.out))) : w.heap.size ≤ gb254)); have n3_ := Aside0.mk ((by rw [hg]; exact (below_size (by repeat (first | (with_reducible first | exact HB.out | apply below_alloc | apply pw_below_drewN | apply below_drew1) | exact HB.out))) : w.heap.size ≤ gb254)); clear HB; have HB := n0_; have BK254 := n1_; have GW254 := n2_; have GE254 := n3_; clear n0_ n1_ n2_ n3_; clear hb hbox hg; have hcz5_0 : w4.cell? ⟨gb254, 0, none⟩ = some (.int .i64 a0_0) := (blk_cell BK254.out 0).trans rfl; have hcz5_1 : w4.cell? ⟨gb254, 1, none⟩ = some (.int .i64 a0_1) := (blk_cell BK254.out 1).trans rfl; have hcz5_2 : w4.cell? ⟨gb254, 2, none⟩ = some (.int .i64 a0_2) := (blk_cell BK254.out 2).trans rfl; have hcz5_3 : w4.cell? ⟨gb254, 3, none⟩ = some (.int .u64 a0_3) := (blk_cell BK254.out 3).trans rfl; have hcz5_4 : w4.cell? ⟨gb254, 4, none⟩ = some (.int .i64 a0_4) := (blk_cell BK254.out 4).trans rfl; have hcz5_5 : w4.cell? ⟨gb254, 5, none⟩ = some (.int .i64 a0_5) := (blk_cell BK254.out 5).trans rfl; have hcz5_6 : w4.cell? ⟨gb254, 6, none⟩ = some (.int .i64 a0_6) := (blk_cell BK254.out 6).trans rfl; have hcz5_7 : w4.cell? ⟨gb254, 7, none⟩ = some (.int .i64 a0_7) := (blk_cell BK254.out 7).trans rfl; have hcz5_8 : w4.cell? ⟨gb254, 8, none⟩ = some (.int .u64 a0_8) := (blk_cell BK254.out 8).trans rfl; have hcz5_9 : w4.cell? ⟨gb254, 9, none⟩ = some (.int .i64 a0_9) := (blk_cell BK254.out 9).trans rfl; have hfz5_0 := blk_frozen BK254.out 0; have hfz5_1 := blk_frozen BK254.out 1; have hfz5_2 := blk_frozen BK254.out 2; have hfz5_3 := blk_frozen BK254.out 3; have hfz5_4 := blk_frozen BK254.out 4; have hfz5_5 := blk_frozen BK254.out 5; have hfz5_6 := blk_frozen BK254.out 6; have hfz5_7 := blk_frozen BK254.out 7; have hfz5_8 := blk_frozen BK254.out 8; have hfz5_9 := blk_frozen BK254.out 9) | ((with_reducible refine gate_callee (f := 18) rfl ?_); refine goesL_ (some 23) rfl rfl Try.func18 (by kernel_rfl) rfl #[.agg #[.int .i64 a0_0, .int .i64 a0_1, .int .i64 a0_2], .agg #[.int .u64 a0_3, .int .i64 a0_4, .int .i64 a0_5, .int .i64 a0_6], .int .i64 a0_7, .int .u64 a0_8, .int .i64 a0_9] rfl (by (try simp only [List.map_toArray, List.map_cons, List.map_nil]); first | done | rfl | (simp only [List.length_drop, List.length_take]; rfl)) ?_; (with_reducible refine (vote_Ask.calls a0_0 a0_1 a0_2 a0_3 a0_4 a0_5 a0_6 a0_7 a0_8 a0_9 t255 t256 t257 t258 t259 t260 _ A2.out).mono ?_); rintro e w6 ⟨rfl, hb⟩; refine ⟨_, rfl, ?_⟩; have n0_ := Aside0.mk (blk_below (g := gb254) (o := .cells #[.int .i64 a0_0, .int .i64 a0_1, .int .i64 a0_2, .int .u64 a0_3, .int .i64 a0_4, .int .i64 a0_5, .int .i64 a0_6, .int .i64 a0_7, .int .u64 a0_8, .int .i64 a0_9] 40 (0, 0)) (by (with_reducible repeat (first | refine blk_drewN ?_ _ | refine blk_drew ?_ | refine blk_alloc ?_ _)); exact BK254.out) hb); have n1_ := Aside0.mk (below_step (by repeat (first | (with_reducible first | exact HB.out | apply below_alloc | apply pw_below_drewN | apply below_drew1 | refine below_set ?_ GE254.out) | exact HB.out)) hb); clear BK254; clear HB; have BK254 := n0_; have HB := n1_; clear n0_ n1_; (try clear hb); (try clear hb2); (try clear hk); (try clear hi)) | ((with_reducible refine gate_dst (N := 3) rfl ?_); refine box_event ?hg (N := 3) ?hd (cs := #[.int .u64 0, .int .i64 0, .int .i64 0, .int .i64 0]) (t := 38) ?hr ?_; (case hd => rfl); (case hg => rfl); (case hr => first | (go_simp; done) | (go_simp; rfl)); intro gb261 hg w7 hbox hb; have n0_ := Aside0.mk (blk_below (g := gb254) (o := .cells #[.int .i64 a0_0, .int .i64 a0_1, .int .i64 a0_2, .int .u64 a0_3, .int .i64 a0_4, .int .i64 a0_5, .int .i64 a0_6, .int .i64 a0_7, .int .u64 a0_8, .int .i64 a0_9] 40 (0, 0)) (by (with_reducible repeat (first | refine blk_drewN ?_ _ | refine blk_drew ?_ | refine blk_alloc ?_ _)); exact BK254.out) hb); have n1_ := Aside0.mk (below_step (by repeat (first | (with_reducible first | exact HB.out | apply below_alloc | apply pw_below_drewN | apply below_drew1 | refine below_set ?_ GE254.out) | exact HB.out)) hb); have n2_ := Aside0.mk (hbox); have n3_ := Aside0.mk ((by rw [hg]; exact (below_size (by repeat (first | (with_reducible first | exact HB.out | apply below_alloc | apply pw_below_drewN | apply below_drew1 | refine below_set ?_ GE254.out) | exact HB.out))) : w.heap.size ≤ gb261)); have n4_ := Aside0.mk ((by rw [hg]; exact (below_size (by repeat (first | (with_reducible first | exact HB.out | apply below_alloc | apply pw_below_drewN | apply below_drew1 | refine below_set ?_ GE254.out) | exact HB.out))) : w.heap.size ≤ gb261)); have n5_ := Aside0.mk ((by rw [hg]; exact Nat.ne_of_lt (blk_lt (g := gb254) (o := .cells #[.int .i64 a0_0, .int .i64 a0_1, .int .i64 a0_2, .int .u64 a0_3, .int .i64 a0_4, .int .i64 a0_5, .int .i64 a0_6, .int .i64 a0_7, .int .u64 a0_8, .int .i64 a0_9] 40 (0, 0)) (by (with_reducible repeat (first | refine blk_drewN ?_ _ | refine blk_drew ?_ | refine blk_alloc ?_ _)); exact BK254.out)) : gb254 ≠ gb261)); have n6_ := Aside0.mk ((by rw [hg]; exact Nat.ne_of_gt (blk_lt (g := gb254) (o := .cells #[.int .i64 a0_0, .int .i64 a0_1, .int .i64 a0_2, .int .u64 a0_3, .int .i64 a0_4, .int .i64 a0_5, .int .i64 a0_6, .int .i64 a0_7, .int .u64 a0_8, .int .i64 a0_9] 40 (0, 0)) (by (with_reducible repeat (first | refine blk_drewN ?_ _ | refine blk_drew ?_ | refine blk_alloc ?_ _)); exact BK254.out)) : gb261 ≠ gb254)); clear BK254; clear HB; have BK254 := n0_; have HB := n1_; have BK261 := n2_; have GW261 := n3_; have GE261 := n4_; have NB254_261 := n5_; have NB261_254 := n6_; clear n0_ n1_ n2_ n3_ n4_ n5_ n6_; clear hb hbox hg; have hnb8 := NB261_254.out; have hnc8 := NB254_261.out; have hcz9_0 : w7.cell? ⟨gb261, 0, none⟩ = some (.int .u64 0) := (blk_cell BK261.out 0).trans rfl; have hcz9_1 : w7.cell? ⟨gb261, 1, none⟩ = some (.int .i64 0) := (blk_cell BK261.out 1).trans rfl; have hcz9_2 : w7.cell? ⟨gb261, 2, none⟩ = some (.int .i64 0) := (blk_cell BK261.out 2).trans rfl; have hcz9_3 : w7.cell? ⟨gb261, 3, none⟩ = some (.int .i64 0) := (blk_cell BK261.out 3).trans rfl; have hfz9_0 := blk_frozen BK261.out 0; have hfz9_1 := blk_frozen BK261.out 1; have hfz9_2 := blk_frozen BK261.out 2; have hfz9_3 := blk_frozen BK261.out 3))
  (try simp only [Act.put, List.setIfInBounds_toArray, List.set_cons_zero, List.set_cons_succ])
  go_cut [33] (fun v33 wc => ∃ (kq : Nat) (x33_2 : Bool), v33 = .bool x33_2 ∧ Aside0 (tattlelaw17_VoteGives.j0 kq t259 t260 x33_2 a0_0 a0_1 a0_2 a0_3 a0_4 a0_5 a0_6 a0_7 a0_8 a0_9 t255 t256 t257 t258 = some r) ∧ Aside0 (kq ≤ k) ∧ Aside0 (wc.heap[gb254]? = some (.cells #[.int .i64 a0_0, .int .i64 a0_1, .int .i64 a0_2, .int .u64 a0_3, .int .i64 a0_4, .int .i64 a0_5, .int .i64 a0_6, .int .i64 a0_7, .int .u64 a0_8, .int .i64 a0_9] 40 (0, 0))) ∧ Aside0 (wc.heap[gb261]? = some (.cells #[.int .u64 t255, .int .i64 t256, .int .i64 t257, .int .i64 t258] 38 (0, 0))) ∧ Aside0 (Below w.heap.size w wc))
  case first =>
    have H := HC3.out
    clear HC3
    by_cases c10 : t260 = 0
    · rw [if_pos c10] at H
      have c10b0 : (t260 == 0) = true := beq_iff_eq.mpr c10
      have c10b1 : (t260 != 0) = false := bne_eq_false_iff_eq.mpr c10
      clear c10
      (first | rw [c10b0] | (simp only [i64_w, i32_w]; rw [c10b0]) | skip)
      have H' := Aside0.mk H
      clear H
      have hnb11 := NB254_261.out
      have hnc11 := NB261_254.out
      have hcz12_0 : w7.cell? ⟨gb254, 0, none⟩ = some (.int .i64 a0_0) := (blk_cell BK254.out 0).trans rfl
      have hcz12_1 : w7.cell? ⟨gb254, 1, none⟩ = some (.int .i64 a0_1) := (blk_cell BK254.out 1).trans rfl
      have hcz12_2 : w7.cell? ⟨gb254, 2, none⟩ = some (.int .i64 a0_2) := (blk_cell BK254.out 2).trans rfl
      have hcz12_3 : w7.cell? ⟨gb254, 3, none⟩ = some (.int .u64 a0_3) := (blk_cell BK254.out 3).trans rfl
      have hcz12_4 : w7.cell? ⟨gb254, 4, none⟩ = some (.int .i64 a0_4) := (blk_cell BK254.out 4).trans rfl
      have hcz12_5 : w7.cell? ⟨gb254, 5, none⟩ = some (.int .i64 a0_5) := (blk_cell BK254.out 5).trans rfl
      have hcz12_6 : w7.cell? ⟨gb254, 6, none⟩ = some (.int .i64 a0_6) := (blk_cell BK254.out 6).trans rfl
      have hcz12_7 : w7.cell? ⟨gb254, 7, none⟩ = some (.int .i64 a0_7) := (blk_cell BK254.out 7).trans rfl
      have hcz12_8 : w7.cell? ⟨gb254, 8, none⟩ = some (.int .u64 a0_8) := (blk_cell BK254.out 8).trans rfl
      have hcz12_9 : w7.cell? ⟨gb254, 9, none⟩ = some (.int .i64 a0_9) := (blk_cell BK254.out 9).trans rfl
      have hfz12_0 := blk_frozen BK254.out 0
      have hfz12_1 := blk_frozen BK254.out 1
      have hfz12_2 := blk_frozen BK254.out 2
      have hfz12_3 := blk_frozen BK254.out 3
      have hfz12_4 := blk_frozen BK254.out 4
      have hfz12_5 := blk_frozen BK254.out 5
      have hfz12_6 := blk_frozen BK254.out 6
      have hfz12_7 := blk_frozen BK254.out 7
      have hfz12_8 := blk_frozen BK254.out 8
      have hfz12_9 := blk_frozen BK254.out 9
      go_wp2
      go_meet
      case rel => exact ⟨_, (decide (a0_9 > 549755813888)), (by first | rfl | (simp; done) | (simp [*]; done)), H', ⟨by first | omega | exact Nat.le_refl _⟩, ⟨by (with_reducible repeat (first | refine blk_drewN ?_ _ | refine blk_drew ?_ | refine blk_alloc ?_ _)); refine blk_far ?_ NB254_261.out _; (with_reducible repeat (first | refine blk_drewN ?_ _ | refine blk_drew ?_ | refine blk_alloc ?_ _)); refine blk_far ?_ NB254_261.out _; (with_reducible repeat (first | refine blk_drewN ?_ _ | refine blk_drew ?_ | refine blk_alloc ?_ _)); refine blk_far ?_ NB254_261.out _; (with_reducible repeat (first | refine blk_drewN ?_ _ | refine blk_drew ?_ | refine blk_alloc ?_ _)); refine blk_far ?_ NB254_261.out _; (with_reducible repeat (first | refine blk_drewN ?_ _ | refine blk_drew ?_ | refine blk_alloc ?_ _)); exact BK254.out⟩, ⟨by (with_reducible repeat (first | refine blk_drewN ?_ _ | refine blk_drew ?_ | refine blk_alloc ?_ _)); refine blk_put (cs := #[.int .u64 t255, .int .i64 t256, .int .i64 t257, .int .i64 0]) ?_ 3 _ rfl; (with_reducible repeat (first | refine blk_drewN ?_ _ | refine blk_drew ?_ | refine blk_alloc ?_ _)); refine blk_put (cs := #[.int .u64 t255, .int .i64 t256, .int .i64 0, .int .i64 0]) ?_ 2 _ rfl; (with_reducible repeat (first | refine blk_drewN ?_ _ | refine blk_drew ?_ | refine blk_alloc ?_ _)); refine blk_put (cs := #[.int .u64 t255, .int .i64 0, .int .i64 0, .int .i64 0]) ?_ 1 _ rfl; (with_reducible repeat (first | refine blk_drewN ?_ _ | refine blk_drew ?_ | refine blk_alloc ?_ _)); refine blk_put (cs := #[.int .u64 0, .int .i64 0, .int .i64 0, .int .i64 0]) ?_ 0 _ rfl; (with_reducible repeat (first | refine blk_drewN ?_ _ | refine blk_drew ?_ | refine blk_alloc ?_ _)); exact BK261.out⟩, ⟨by repeat (first | (with_reducible first | exact HB.out | apply below_alloc | apply pw_below_drewN | apply below_drew1 | refine below_set ?_ GE254.out | refine below_set ?_ GE261.out) | exact HB.out)⟩⟩
    · rw [if_neg c10] at H
      have c10b0 : (t260 == 0) = false := beq_eq_false_iff_ne.mpr c10
      have c10b1 : (t260 != 0) = true := bne_iff_ne.mpr c10
      (first | rw [c10b0] | (simp only [i64_w, i32_w]; rw [c10b0]) | skip)
      have H' := Aside0.mk H
      clear H
      go_wp2
      go_meet
      case rel => exact ⟨_, (true), (by first | rfl | (simp; done) | (simp [*]; done)), H', ⟨by first | omega | exact Nat.le_refl _⟩, ⟨by (with_reducible repeat (first | refine blk_drewN ?_ _ | refine blk_drew ?_ | refine blk_alloc ?_ _)); refine blk_far ?_ NB254_261.out _; (with_reducible repeat (first | refine blk_drewN ?_ _ | refine blk_drew ?_ | refine blk_alloc ?_ _)); refine blk_far ?_ NB254_261.out _; (with_reducible repeat (first | refine blk_drewN ?_ _ | refine blk_drew ?_ | refine blk_alloc ?_ _)); refine blk_far ?_ NB254_261.out _; (with_reducible repeat (first | refine blk_drewN ?_ _ | refine blk_drew ?_ | refine blk_alloc ?_ _)); refine blk_far ?_ NB254_261.out _; (with_reducible repeat (first | refine blk_drewN ?_ _ | refine blk_drew ?_ | refine blk_alloc ?_ _)); exact BK254.out⟩, ⟨by (with_reducible repeat (first | refine blk_drewN ?_ _ | refine blk_drew ?_ | refine blk_alloc ?_ _)); refine blk_put (cs := #[.int .u64 t255, .int .i64 t256, .int .i64 t257, .int .i64 0]) ?_ 3 _ rfl; (with_reducible repeat (first | refine blk_drewN ?_ _ | refine blk_drew ?_ | refine blk_alloc ?_ _)); refine blk_put (cs := #[.int .u64 t255, .int .i64 t256, .int .i64 0, .int .i64 0]) ?_ 2 _ rfl; (with_reducible repeat (first | refine blk_drewN ?_ _ | refine blk_drew ?_ | refine blk_alloc ?_ _)); refine blk_put (cs := #[.int .u64 t255, .int .i64 0, .int .i64 0, .int .i64 0]) ?_ 1 _ rfl; (with_reducible repeat (first | refine blk_drewN ?_ _ | refine blk_drew ?_ | refine blk_alloc ?_ _)); refine blk_put (cs := #[.int .u64 0, .int .i64 0, .int .i64 0, .int .i64 0]) ?_ 0 _ rfl; (with_reducible repeat (first | refine blk_drewN ?_ _ | refine blk_drew ?_ | refine blk_alloc ?_ _)); exact BK261.out⟩, ⟨by repeat (first | (with_reducible first | exact HB.out | apply below_alloc | apply pw_below_drewN | apply below_drew1 | refine below_set ?_ GE254.out | refine below_set ?_ GE261.out) | exact HB.out)⟩⟩
  case rest =>
    clear HC3
    try clear c1
    try clear p2
    try clear c6
    try clear c8
    try clear c10
    try clear c10b0
    try clear c10b1
    try clear c11
    try clear hcz12_0
    try clear hcz12_1
    try clear hcz12_2
    try clear hcz12_3
    try clear hcz12_4
    try clear hcz12_5
    try clear hcz12_6
    try clear hcz12_7
    try clear hcz12_8
    try clear hcz12_9
    try clear hcz5_0
    try clear hcz5_1
    try clear hcz5_2
    try clear hcz5_3
    try clear hcz5_4
    try clear hcz5_5
    try clear hcz5_6
    try clear hcz5_7
    try clear hcz5_8
    try clear hcz5_9
    try clear hcz9_0
    try clear hcz9_1
    try clear hcz9_2
    try clear hcz9_3
    try clear hfz12_0
    try clear hfz12_1
    try clear hfz12_2
    try clear hfz12_3
    try clear hfz12_4
    try clear hfz12_5
    try clear hfz12_6
    try clear hfz12_7
    try clear hfz12_8
    try clear hfz12_9
    try clear hfz5_0
    try clear hfz5_1
    try clear hfz5_2
    try clear hfz5_3
    try clear hfz5_4
    try clear hfz5_5
    try clear hfz5_6
    try clear hfz5_7
    try clear hfz5_8
    try clear hfz5_9
    try clear hfz9_0
    try clear hfz9_1
    try clear hfz9_2
    try clear hfz9_3
    obtain ⟨kq, x33_2, rfl, HA, HJ2, BK254, BK261, HB⟩ := hcut
    cases kq with
    | zero => exact absurd HA.out (by simp [tattlelaw17_VoteGives.j0])
    | succ kj2 =>
      have H := HA.out
      clear HA
      simp only [tattlelaw17_VoteGives.j0] at H
      by_cases c13 : x33_2 = true
      · subst c13
        have H1 : (if t260 = 0 then (if t259 = true then ((tattlelaw17_awakeT.f).bind fun t262 => (some t262)) else (if (t255 == a0_3 && (t256 == a0_4 && (t257 == a0_5 && (t258 == a0_6)))) = true then ((tattlelaw17_awakeT.f).bind fun t263 => (some t263)) else (some false))) else ((tattlelaw17_awakeT.f).bind fun t264 => (some t264))) = some r := by rw [if_pos rfl] at H; exact H
        clear H
        have H := H1
        clear H1
        by_cases c14 : t260 = 0
        · rw [if_pos c14] at H
          have c14b0 : (t260 == 0) = true := beq_iff_eq.mpr c14
          have c14b1 : (t260 != 0) = false := bne_eq_false_iff_eq.mpr c14
          clear c14
          by_cases c15 : t259 = true
          · subst c15
            have H1 : ((tattlelaw17_awakeT.f).bind fun t262 => (some t262)) = some r := by rw [if_pos rfl] at H; exact H
            clear H
            have H := H1
            clear H1
            replace H := Option.bind_eq_some_iff.mp H
            obtain ⟨t262, A160, H⟩ := H
            replace H : (some t262) = some r := H
            have A16 := Aside0.mk A160
            clear A160
            obtain rfl := Option.some.inj H
            go_wp2_with (first | (go_at_call 16; (with_reducible refine (tattlelaw17_awakeT.calls  t262 _ A16.out).mono ?_); rintro e w17 ⟨rfl, hb⟩; have n0_ := Aside0.mk (blk_below (g := gb254) (o := .cells #[.int .i64 a0_0, .int .i64 a0_1, .int .i64 a0_2, .int .u64 a0_3, .int .i64 a0_4, .int .i64 a0_5, .int .i64 a0_6, .int .i64 a0_7, .int .u64 a0_8, .int .i64 a0_9] 40 (0, 0)) (by (with_reducible repeat (first | refine blk_drewN ?_ _ | refine blk_drew ?_ | refine blk_alloc ?_ _)); exact BK254.out) hb); have n1_ := Aside0.mk (blk_below (g := gb261) (o := .cells #[.int .u64 t255, .int .i64 t256, .int .i64 t257, .int .i64 t258] 38 (0, 0)) (by (with_reducible repeat (first | refine blk_drewN ?_ _ | refine blk_drew ?_ | refine blk_alloc ?_ _)); exact BK261.out) hb); have n2_ := Aside0.mk (below_step (by repeat (first | (with_reducible first | exact HB.out | apply below_alloc | apply pw_below_drewN | apply below_drew1 | refine below_set ?_ GE254.out | refine below_set ?_ GE261.out) | exact HB.out)) hb); clear BK254; clear BK261; clear HB; have BK254 := n0_; have BK261 := n1_; have HB := n2_; clear n0_ n1_ n2_; (try clear hb); (try clear hb2); (try clear hk); (try clear hi)))
            go_ret
            exact ⟨by first | rfl | (simp [errW_none, errW_some] <;> rfl) | (simp [*, errW_none, errW_some] <;> rfl), by repeat (first | (with_reducible first | exact HB.out | apply below_alloc | apply pw_below_drewN | apply below_drew1 | refine below_set ?_ GE254.out | refine below_set ?_ GE261.out) | exact HB.out)⟩
          · replace c15 := Bool.eq_false_iff.mpr c15
            subst c15
            have H1 : (if (t255 == a0_3 && (t256 == a0_4 && (t257 == a0_5 && (t258 == a0_6)))) = true then ((tattlelaw17_awakeT.f).bind fun t263 => (some t263)) else (some false)) = some r := by rw [if_neg (show ¬ (false = true) by decide)] at H; exact H
            clear H
            have H := H1
            clear H1
            by_cases c18 : (t255 == a0_3 && (t256 == a0_4 && (t257 == a0_5 && (t258 == a0_6)))) = true
            · rw [if_pos c18] at H
              have c18b0 : (t255 == a0_3 && (t256 == a0_4 && (t257 == a0_5 && (t258 == a0_6)))) = true := c18
              (try (have c18b1 : decide (t255 = a0_3 && (t256 == a0_4 && (t257 == a0_5 && (t258 == a0_6)))) = true := by simpa using c18))
              (try (have c18b2 : (t255 == a0_3 && (t256 == a0_4 && (t257 == a0_5 && (t258 == a0_6)))) = true := by simpa using c18))
              clear c18
              replace H := Option.bind_eq_some_iff.mp H
              obtain ⟨t263, A190, H⟩ := H
              replace H : (some t263) = some r := H
              have A19 := Aside0.mk A190
              clear A190
              obtain rfl := Option.some.inj H
              have hnb20 := NB261_254.out
              have hnc20 := NB254_261.out
              have hcz21_0 : wc.cell? ⟨gb261, 0, none⟩ = some (.int .u64 t255) := (blk_cell BK261.out 0).trans rfl
              have hcz21_1 : wc.cell? ⟨gb261, 1, none⟩ = some (.int .i64 t256) := (blk_cell BK261.out 1).trans rfl
              have hcz21_2 : wc.cell? ⟨gb261, 2, none⟩ = some (.int .i64 t257) := (blk_cell BK261.out 2).trans rfl
              have hcz21_3 : wc.cell? ⟨gb261, 3, none⟩ = some (.int .i64 t258) := (blk_cell BK261.out 3).trans rfl
              have hfz21_0 := blk_frozen BK261.out 0
              have hfz21_1 := blk_frozen BK261.out 1
              have hfz21_2 := blk_frozen BK261.out 2
              have hfz21_3 := blk_frozen BK261.out 3
              have hcz22_0 : wc.cell? ⟨gb254, 0, none⟩ = some (.int .i64 a0_0) := (blk_cell BK254.out 0).trans rfl
              have hcz22_1 : wc.cell? ⟨gb254, 1, none⟩ = some (.int .i64 a0_1) := (blk_cell BK254.out 1).trans rfl
              have hcz22_2 : wc.cell? ⟨gb254, 2, none⟩ = some (.int .i64 a0_2) := (blk_cell BK254.out 2).trans rfl
              have hcz22_3 : wc.cell? ⟨gb254, 3, none⟩ = some (.int .u64 a0_3) := (blk_cell BK254.out 3).trans rfl
              have hcz22_4 : wc.cell? ⟨gb254, 4, none⟩ = some (.int .i64 a0_4) := (blk_cell BK254.out 4).trans rfl
              have hcz22_5 : wc.cell? ⟨gb254, 5, none⟩ = some (.int .i64 a0_5) := (blk_cell BK254.out 5).trans rfl
              have hcz22_6 : wc.cell? ⟨gb254, 6, none⟩ = some (.int .i64 a0_6) := (blk_cell BK254.out 6).trans rfl
              have hcz22_7 : wc.cell? ⟨gb254, 7, none⟩ = some (.int .i64 a0_7) := (blk_cell BK254.out 7).trans rfl
              have hcz22_8 : wc.cell? ⟨gb254, 8, none⟩ = some (.int .u64 a0_8) := (blk_cell BK254.out 8).trans rfl
              have hcz22_9 : wc.cell? ⟨gb254, 9, none⟩ = some (.int .i64 a0_9) := (blk_cell BK254.out 9).trans rfl
              have hfz22_0 := blk_frozen BK254.out 0
              have hfz22_1 := blk_frozen BK254.out 1
              have hfz22_2 := blk_frozen BK254.out 2
              have hfz22_3 := blk_frozen BK254.out 3
              have hfz22_4 := blk_frozen BK254.out 4
              have hfz22_5 := blk_frozen BK254.out 5
              have hfz22_6 := blk_frozen BK254.out 6
              have hfz22_7 := blk_frozen BK254.out 7
              have hfz22_8 := blk_frozen BK254.out 8
              have hfz22_9 := blk_frozen BK254.out 9
              go_wp2_with (first | (go_at_call 16; (with_reducible refine (tattlelaw17_awakeT.calls  t263 _ A19.out).mono ?_); rintro e w23 ⟨rfl, hb⟩; have n0_ := Aside0.mk (blk_below (g := gb254) (o := .cells #[.int .i64 a0_0, .int .i64 a0_1, .int .i64 a0_2, .int .u64 a0_3, .int .i64 a0_4, .int .i64 a0_5, .int .i64 a0_6, .int .i64 a0_7, .int .u64 a0_8, .int .i64 a0_9] 40 (0, 0)) (by (with_reducible repeat (first | refine blk_drewN ?_ _ | refine blk_drew ?_ | refine blk_alloc ?_ _)); exact BK254.out) hb); have n1_ := Aside0.mk (blk_below (g := gb261) (o := .cells #[.int .u64 t255, .int .i64 t256, .int .i64 t257, .int .i64 t258] 38 (0, 0)) (by (with_reducible repeat (first | refine blk_drewN ?_ _ | refine blk_drew ?_ | refine blk_alloc ?_ _)); exact BK261.out) hb); have n2_ := Aside0.mk (below_step (by repeat (first | (with_reducible first | exact HB.out | apply below_alloc | apply pw_below_drewN | apply below_drew1 | refine below_set ?_ GE254.out | refine below_set ?_ GE261.out) | exact HB.out)) hb); clear BK254; clear BK261; clear HB; have BK254 := n0_; have BK261 := n1_; have HB := n2_; clear n0_ n1_ n2_; (try clear hb); (try clear hb2); (try clear hk); (try clear hi)))
              go_ret
              exact ⟨by first | rfl | (simp [errW_none, errW_some] <;> rfl) | (simp [*, errW_none, errW_some] <;> rfl), by repeat (first | (with_reducible first | exact HB.out | apply below_alloc | apply pw_below_drewN | apply below_drew1 | refine below_set ?_ GE254.out | refine below_set ?_ GE261.out) | exact HB.out)⟩
            · rw [if_neg c18] at H
              have c18b0 : (t255 == a0_3 && (t256 == a0_4 && (t257 == a0_5 && (t258 == a0_6)))) = false := by simpa using c18
              (try (have c18b1 : decide (t255 = a0_3 && (t256 == a0_4 && (t257 == a0_5 && (t258 == a0_6)))) = false := by simpa using c18))
              (try (have c18b2 : (t255 == a0_3 && (t256 == a0_4 && (t257 == a0_5 && (t258 == a0_6)))) = false := by simpa using c18))
              (try (have c18b3 : ¬ (t255 = a0_3 && (t256 == a0_4 && (t257 == a0_5 && (t258 == a0_6)))) := by simpa using c18))
              clear c18
              exact absurd ((Option.some.inj H).trans hrt.out) (by decide)
        · rw [if_neg c14] at H
          have c14b0 : (t260 == 0) = false := beq_eq_false_iff_ne.mpr c14
          have c14b1 : (t260 != 0) = true := bne_iff_ne.mpr c14
          replace H := Option.bind_eq_some_iff.mp H
          obtain ⟨t264, A240, H⟩ := H
          replace H : (some t264) = some r := H
          have A24 := Aside0.mk A240
          clear A240
          obtain rfl := Option.some.inj H
          go_wp2_with (first | (go_at_call 16; (with_reducible refine (tattlelaw17_awakeT.calls  t264 _ A24.out).mono ?_); rintro e w25 ⟨rfl, hb⟩; have n0_ := Aside0.mk (blk_below (g := gb254) (o := .cells #[.int .i64 a0_0, .int .i64 a0_1, .int .i64 a0_2, .int .u64 a0_3, .int .i64 a0_4, .int .i64 a0_5, .int .i64 a0_6, .int .i64 a0_7, .int .u64 a0_8, .int .i64 a0_9] 40 (0, 0)) (by (with_reducible repeat (first | refine blk_drewN ?_ _ | refine blk_drew ?_ | refine blk_alloc ?_ _)); exact BK254.out) hb); have n1_ := Aside0.mk (blk_below (g := gb261) (o := .cells #[.int .u64 t255, .int .i64 t256, .int .i64 t257, .int .i64 t258] 38 (0, 0)) (by (with_reducible repeat (first | refine blk_drewN ?_ _ | refine blk_drew ?_ | refine blk_alloc ?_ _)); exact BK261.out) hb); have n2_ := Aside0.mk (below_step (by repeat (first | (with_reducible first | exact HB.out | apply below_alloc | apply pw_below_drewN | apply below_drew1 | refine below_set ?_ GE254.out | refine below_set ?_ GE261.out) | exact HB.out)) hb); clear BK254; clear BK261; clear HB; have BK254 := n0_; have BK261 := n1_; have HB := n2_; clear n0_ n1_ n2_; (try clear hb); (try clear hb2); (try clear hk); (try clear hi)))
          go_ret
          exact ⟨by first | rfl | (simp [errW_none, errW_some] <;> rfl) | (simp [*, errW_none, errW_some] <;> rfl), by repeat (first | (with_reducible first | exact HB.out | apply below_alloc | apply pw_below_drewN | apply below_drew1 | refine below_set ?_ GE254.out | refine below_set ?_ GE261.out) | exact HB.out)⟩
      · replace c13 := Bool.eq_false_iff.mpr c13
        subst c13
        have H1 : (if a0_8 > a0_3 then (if a0_9 ≥ a0_5 then (if a0_9 ≥ a0_6 then (tattlelaw17_VoteGives.j1 kj2 t259 (!t259) a0_0 a0_1 a0_2 a0_3 a0_4 a0_5 a0_6 a0_7 a0_8 a0_9 t255 t256 t257 t258) else (tattlelaw17_VoteGives.j1 kj2 t259 false a0_0 a0_1 a0_2 a0_3 a0_4 a0_5 a0_6 a0_7 a0_8 a0_9 t255 t256 t257 t258)) else (tattlelaw17_VoteGives.j1 kj2 t259 false a0_0 a0_1 a0_2 a0_3 a0_4 a0_5 a0_6 a0_7 a0_8 a0_9 t255 t256 t257 t258)) else (tattlelaw17_VoteGives.j1 kj2 t259 false a0_0 a0_1 a0_2 a0_3 a0_4 a0_5 a0_6 a0_7 a0_8 a0_9 t255 t256 t257 t258)) = some r := by rw [if_neg (show ¬ (false = true) by decide)] at H; exact H
        clear H
        have H := H1
        clear H1
        have HC26 := Aside0.mk H
        clear H
        go_upto_region 4 with (fail)
        go_cut [73] (fun v73 wc => ∃ (kq : Nat) (x73_25 : Bool), v73 = .bool x73_25 ∧ Aside0 (tattlelaw17_VoteGives.j1 kq t259 x73_25 a0_0 a0_1 a0_2 a0_3 a0_4 a0_5 a0_6 a0_7 a0_8 a0_9 t255 t256 t257 t258 = some r) ∧ Aside0 (kq ≤ kj2) ∧ Aside0 (wc.heap[gb254]? = some (.cells #[.int .i64 a0_0, .int .i64 a0_1, .int .i64 a0_2, .int .u64 a0_3, .int .i64 a0_4, .int .i64 a0_5, .int .i64 a0_6, .int .i64 a0_7, .int .u64 a0_8, .int .i64 a0_9] 40 (0, 0))) ∧ Aside0 (wc.heap[gb261]? = some (.cells #[.int .u64 t255, .int .i64 t256, .int .i64 t257, .int .i64 t258] 38 (0, 0))) ∧ Aside0 (Below w.heap.size w wc))
        case first =>
          have H := HC26.out
          clear HC26
          by_cases c27 : a0_8 > a0_3
          · rw [if_pos c27] at H
            have c27b0 : decide (a0_3 < a0_8) = true := decide_eq_true c27
            clear c27
            (first | rw [c27b0] | (simp only [i64_w, i32_w]; rw [c27b0]) | skip)
            by_cases c28 : a0_9 ≥ a0_5
            · rw [if_pos c28] at H
              have c28b0 : decide (a0_5 ≤ a0_9) = true := decide_eq_true c28
              clear c28
              by_cases c29 : a0_9 ≥ a0_6
              · rw [if_pos c29] at H
                have c29b0 : decide (a0_6 ≤ a0_9) = true := decide_eq_true c29
                clear c29
                have H' := Aside0.mk H
                clear H
                have hnb30 := NB254_261.out
                have hnc30 := NB261_254.out
                have hcz31_0 : wc.cell? ⟨gb254, 0, none⟩ = some (.int .i64 a0_0) := (blk_cell BK254.out 0).trans rfl
                have hcz31_1 : wc.cell? ⟨gb254, 1, none⟩ = some (.int .i64 a0_1) := (blk_cell BK254.out 1).trans rfl
                have hcz31_2 : wc.cell? ⟨gb254, 2, none⟩ = some (.int .i64 a0_2) := (blk_cell BK254.out 2).trans rfl
                have hcz31_3 : wc.cell? ⟨gb254, 3, none⟩ = some (.int .u64 a0_3) := (blk_cell BK254.out 3).trans rfl
                have hcz31_4 : wc.cell? ⟨gb254, 4, none⟩ = some (.int .i64 a0_4) := (blk_cell BK254.out 4).trans rfl
                have hcz31_5 : wc.cell? ⟨gb254, 5, none⟩ = some (.int .i64 a0_5) := (blk_cell BK254.out 5).trans rfl
                have hcz31_6 : wc.cell? ⟨gb254, 6, none⟩ = some (.int .i64 a0_6) := (blk_cell BK254.out 6).trans rfl
                have hcz31_7 : wc.cell? ⟨gb254, 7, none⟩ = some (.int .i64 a0_7) := (blk_cell BK254.out 7).trans rfl
                have hcz31_8 : wc.cell? ⟨gb254, 8, none⟩ = some (.int .u64 a0_8) := (blk_cell BK254.out 8).trans rfl
                have hcz31_9 : wc.cell? ⟨gb254, 9, none⟩ = some (.int .i64 a0_9) := (blk_cell BK254.out 9).trans rfl
                have hfz31_0 := blk_frozen BK254.out 0
                have hfz31_1 := blk_frozen BK254.out 1
                have hfz31_2 := blk_frozen BK254.out 2
                have hfz31_3 := blk_frozen BK254.out 3
                have hfz31_4 := blk_frozen BK254.out 4
                have hfz31_5 := blk_frozen BK254.out 5
                have hfz31_6 := blk_frozen BK254.out 6
                have hfz31_7 := blk_frozen BK254.out 7
                have hfz31_8 := blk_frozen BK254.out 8
                have hfz31_9 := blk_frozen BK254.out 9
                go_wp2
                go_meet
                case rel => exact ⟨_, (!t259), (by first | rfl | (simp; done) | (simp [*]; done)), H', ⟨by have := HJ2.out; first | omega | exact Nat.le_refl _⟩, ⟨by (with_reducible repeat (first | refine blk_drewN ?_ _ | refine blk_drew ?_ | refine blk_alloc ?_ _)); exact BK254.out⟩, ⟨by (with_reducible repeat (first | refine blk_drewN ?_ _ | refine blk_drew ?_ | refine blk_alloc ?_ _)); exact BK261.out⟩, ⟨by repeat (first | (with_reducible first | exact HB.out | apply below_alloc | apply pw_below_drewN | apply below_drew1 | refine below_set ?_ GE254.out | refine below_set ?_ GE261.out) | exact HB.out)⟩⟩
              · rw [if_neg c29] at H
                have c29b0 : decide (a0_6 ≤ a0_9) = false := decide_eq_false c29
                clear c29
                have H' := Aside0.mk H
                clear H
                have hnb32 := NB254_261.out
                have hnc32 := NB261_254.out
                have hcz33_0 : wc.cell? ⟨gb254, 0, none⟩ = some (.int .i64 a0_0) := (blk_cell BK254.out 0).trans rfl
                have hcz33_1 : wc.cell? ⟨gb254, 1, none⟩ = some (.int .i64 a0_1) := (blk_cell BK254.out 1).trans rfl
                have hcz33_2 : wc.cell? ⟨gb254, 2, none⟩ = some (.int .i64 a0_2) := (blk_cell BK254.out 2).trans rfl
                have hcz33_3 : wc.cell? ⟨gb254, 3, none⟩ = some (.int .u64 a0_3) := (blk_cell BK254.out 3).trans rfl
                have hcz33_4 : wc.cell? ⟨gb254, 4, none⟩ = some (.int .i64 a0_4) := (blk_cell BK254.out 4).trans rfl
                have hcz33_5 : wc.cell? ⟨gb254, 5, none⟩ = some (.int .i64 a0_5) := (blk_cell BK254.out 5).trans rfl
                have hcz33_6 : wc.cell? ⟨gb254, 6, none⟩ = some (.int .i64 a0_6) := (blk_cell BK254.out 6).trans rfl
                have hcz33_7 : wc.cell? ⟨gb254, 7, none⟩ = some (.int .i64 a0_7) := (blk_cell BK254.out 7).trans rfl
                have hcz33_8 : wc.cell? ⟨gb254, 8, none⟩ = some (.int .u64 a0_8) := (blk_cell BK254.out 8).trans rfl
                have hcz33_9 : wc.cell? ⟨gb254, 9, none⟩ = some (.int .i64 a0_9) := (blk_cell BK254.out 9).trans rfl
                have hfz33_0 := blk_frozen BK254.out 0
                have hfz33_1 := blk_frozen BK254.out 1
                have hfz33_2 := blk_frozen BK254.out 2
                have hfz33_3 := blk_frozen BK254.out 3
                have hfz33_4 := blk_frozen BK254.out 4
                have hfz33_5 := blk_frozen BK254.out 5
                have hfz33_6 := blk_frozen BK254.out 6
                have hfz33_7 := blk_frozen BK254.out 7
                have hfz33_8 := blk_frozen BK254.out 8
                have hfz33_9 := blk_frozen BK254.out 9
                go_wp2
                go_meet
                case rel => exact ⟨_, (false), (by first | rfl | (simp; done) | (simp [*]; done)), H', ⟨by have := HJ2.out; first | omega | exact Nat.le_refl _⟩, ⟨by (with_reducible repeat (first | refine blk_drewN ?_ _ | refine blk_drew ?_ | refine blk_alloc ?_ _)); exact BK254.out⟩, ⟨by (with_reducible repeat (first | refine blk_drewN ?_ _ | refine blk_drew ?_ | refine blk_alloc ?_ _)); exact BK261.out⟩, ⟨by repeat (first | (with_reducible first | exact HB.out | apply below_alloc | apply pw_below_drewN | apply below_drew1 | refine below_set ?_ GE254.out | refine below_set ?_ GE261.out) | exact HB.out)⟩⟩
            · rw [if_neg c28] at H
              have c28b0 : decide (a0_5 ≤ a0_9) = false := decide_eq_false c28
              clear c28
              have H' := Aside0.mk H
              clear H
              have hnb34 := NB254_261.out
              have hnc34 := NB261_254.out
              have hcz35_0 : wc.cell? ⟨gb254, 0, none⟩ = some (.int .i64 a0_0) := (blk_cell BK254.out 0).trans rfl
              have hcz35_1 : wc.cell? ⟨gb254, 1, none⟩ = some (.int .i64 a0_1) := (blk_cell BK254.out 1).trans rfl
              have hcz35_2 : wc.cell? ⟨gb254, 2, none⟩ = some (.int .i64 a0_2) := (blk_cell BK254.out 2).trans rfl
              have hcz35_3 : wc.cell? ⟨gb254, 3, none⟩ = some (.int .u64 a0_3) := (blk_cell BK254.out 3).trans rfl
              have hcz35_4 : wc.cell? ⟨gb254, 4, none⟩ = some (.int .i64 a0_4) := (blk_cell BK254.out 4).trans rfl
              have hcz35_5 : wc.cell? ⟨gb254, 5, none⟩ = some (.int .i64 a0_5) := (blk_cell BK254.out 5).trans rfl
              have hcz35_6 : wc.cell? ⟨gb254, 6, none⟩ = some (.int .i64 a0_6) := (blk_cell BK254.out 6).trans rfl
              have hcz35_7 : wc.cell? ⟨gb254, 7, none⟩ = some (.int .i64 a0_7) := (blk_cell BK254.out 7).trans rfl
              have hcz35_8 : wc.cell? ⟨gb254, 8, none⟩ = some (.int .u64 a0_8) := (blk_cell BK254.out 8).trans rfl
              have hcz35_9 : wc.cell? ⟨gb254, 9, none⟩ = some (.int .i64 a0_9) := (blk_cell BK254.out 9).trans rfl
              have hfz35_0 := blk_frozen BK254.out 0
              have hfz35_1 := blk_frozen BK254.out 1
              have hfz35_2 := blk_frozen BK254.out 2
              have hfz35_3 := blk_frozen BK254.out 3
              have hfz35_4 := blk_frozen BK254.out 4
              have hfz35_5 := blk_frozen BK254.out 5
              have hfz35_6 := blk_frozen BK254.out 6
              have hfz35_7 := blk_frozen BK254.out 7
              have hfz35_8 := blk_frozen BK254.out 8
              have hfz35_9 := blk_frozen BK254.out 9
              go_wp2
              go_meet
              case rel => exact ⟨_, (false), (by first | rfl | (simp; done) | (simp [*]; done)), H', ⟨by have := HJ2.out; first | omega | exact Nat.le_refl _⟩, ⟨by (with_reducible repeat (first | refine blk_drewN ?_ _ | refine blk_drew ?_ | refine blk_alloc ?_ _)); exact BK254.out⟩, ⟨by (with_reducible repeat (first | refine blk_drewN ?_ _ | refine blk_drew ?_ | refine blk_alloc ?_ _)); exact BK261.out⟩, ⟨by repeat (first | (with_reducible first | exact HB.out | apply below_alloc | apply pw_below_drewN | apply below_drew1 | refine below_set ?_ GE254.out | refine below_set ?_ GE261.out) | exact HB.out)⟩⟩
          · rw [if_neg c27] at H
            have c27b0 : decide (a0_3 < a0_8) = false := decide_eq_false c27
            clear c27
            (first | rw [c27b0] | (simp only [i64_w, i32_w]; rw [c27b0]) | skip)
            have H' := Aside0.mk H
            clear H
            have hnb36 := NB254_261.out
            have hnc36 := NB261_254.out
            have hcz37_0 : wc.cell? ⟨gb254, 0, none⟩ = some (.int .i64 a0_0) := (blk_cell BK254.out 0).trans rfl
            have hcz37_1 : wc.cell? ⟨gb254, 1, none⟩ = some (.int .i64 a0_1) := (blk_cell BK254.out 1).trans rfl
            have hcz37_2 : wc.cell? ⟨gb254, 2, none⟩ = some (.int .i64 a0_2) := (blk_cell BK254.out 2).trans rfl
            have hcz37_3 : wc.cell? ⟨gb254, 3, none⟩ = some (.int .u64 a0_3) := (blk_cell BK254.out 3).trans rfl
            have hcz37_4 : wc.cell? ⟨gb254, 4, none⟩ = some (.int .i64 a0_4) := (blk_cell BK254.out 4).trans rfl
            have hcz37_5 : wc.cell? ⟨gb254, 5, none⟩ = some (.int .i64 a0_5) := (blk_cell BK254.out 5).trans rfl
            have hcz37_6 : wc.cell? ⟨gb254, 6, none⟩ = some (.int .i64 a0_6) := (blk_cell BK254.out 6).trans rfl
            have hcz37_7 : wc.cell? ⟨gb254, 7, none⟩ = some (.int .i64 a0_7) := (blk_cell BK254.out 7).trans rfl
            have hcz37_8 : wc.cell? ⟨gb254, 8, none⟩ = some (.int .u64 a0_8) := (blk_cell BK254.out 8).trans rfl
            have hcz37_9 : wc.cell? ⟨gb254, 9, none⟩ = some (.int .i64 a0_9) := (blk_cell BK254.out 9).trans rfl
            have hfz37_0 := blk_frozen BK254.out 0
            have hfz37_1 := blk_frozen BK254.out 1
            have hfz37_2 := blk_frozen BK254.out 2
            have hfz37_3 := blk_frozen BK254.out 3
            have hfz37_4 := blk_frozen BK254.out 4
            have hfz37_5 := blk_frozen BK254.out 5
            have hfz37_6 := blk_frozen BK254.out 6
            have hfz37_7 := blk_frozen BK254.out 7
            have hfz37_8 := blk_frozen BK254.out 8
            have hfz37_9 := blk_frozen BK254.out 9
            go_wp2
            go_meet
            case rel => exact ⟨_, (false), (by first | rfl | (simp; done) | (simp [*]; done)), H', ⟨by have := HJ2.out; first | omega | exact Nat.le_refl _⟩, ⟨by (with_reducible repeat (first | refine blk_drewN ?_ _ | refine blk_drew ?_ | refine blk_alloc ?_ _)); exact BK254.out⟩, ⟨by (with_reducible repeat (first | refine blk_drewN ?_ _ | refine blk_drew ?_ | refine blk_alloc ?_ _)); exact BK261.out⟩, ⟨by repeat (first | (with_reducible first | exact HB.out | apply below_alloc | apply pw_below_drewN | apply below_drew1 | refine below_set ?_ GE254.out | refine below_set ?_ GE261.out) | exact HB.out)⟩⟩
        case rest =>
          clear HC26
          try clear c1
          try clear c2
          try clear p2
          try clear c3
          try clear c6
          try clear c8
          try clear c10
          try clear c10b0
          try clear c10b1
          try clear c11
          try clear c13
          try clear c14
          try clear c14b0
          try clear c14b1
          try clear c15
          try clear c18
          try clear c18b0
          try clear c18b1
          try clear c18b2
          try clear c20
          try clear c27
          try clear c27b0
          try clear c28
          try clear c28b0
          try clear c29
          try clear c29b0
          try clear c30
          try clear c32
          try clear c34
          try clear c36
          try clear hcz12_0
          try clear hcz12_1
          try clear hcz12_2
          try clear hcz12_3
          try clear hcz12_4
          try clear hcz12_5
          try clear hcz12_6
          try clear hcz12_7
          try clear hcz12_8
          try clear hcz12_9
          try clear hcz21_0
          try clear hcz21_1
          try clear hcz21_2
          try clear hcz21_3
          try clear hcz22_0
          try clear hcz22_1
          try clear hcz22_2
          try clear hcz22_3
          try clear hcz22_4
          try clear hcz22_5
          try clear hcz22_6
          try clear hcz22_7
          try clear hcz22_8
          try clear hcz22_9
          try clear hcz31_0
          try clear hcz31_1
          try clear hcz31_2
          try clear hcz31_3
          try clear hcz31_4
          try clear hcz31_5
          try clear hcz31_6
          try clear hcz31_7
          try clear hcz31_8
          try clear hcz31_9
          try clear hcz33_0
          try clear hcz33_1
          try clear hcz33_2
          try clear hcz33_3
          try clear hcz33_4
          try clear hcz33_5
          try clear hcz33_6
          try clear hcz33_7
          try clear hcz33_8
          try clear hcz33_9
          try clear hcz35_0
          try clear hcz35_1
          try clear hcz35_2
          try clear hcz35_3
          try clear hcz35_4
          try clear hcz35_5
          try clear hcz35_6
          try clear hcz35_7
          try clear hcz35_8
          try clear hcz35_9
          try clear hcz37_0
          try clear hcz37_1
          try clear hcz37_2
          try clear hcz37_3
          try clear hcz37_4
          try clear hcz37_5
          try clear hcz37_6
          try clear hcz37_7
          try clear hcz37_8
          try clear hcz37_9
          try clear hcz5_0
          try clear hcz5_1
          try clear hcz5_2
          try clear hcz5_3
          try clear hcz5_4
          try clear hcz5_5
          try clear hcz5_6
          try clear hcz5_7
          try clear hcz5_8
          try clear hcz5_9
          try clear hcz9_0
          try clear hcz9_1
          try clear hcz9_2
          try clear hcz9_3
          try clear hfz12_0
          try clear hfz12_1
          try clear hfz12_2
          try clear hfz12_3
          try clear hfz12_4
          try clear hfz12_5
          try clear hfz12_6
          try clear hfz12_7
          try clear hfz12_8
          try clear hfz12_9
          try clear hfz21_0
          try clear hfz21_1
          try clear hfz21_2
          try clear hfz21_3
          try clear hfz22_0
          try clear hfz22_1
          try clear hfz22_2
          try clear hfz22_3
          try clear hfz22_4
          try clear hfz22_5
          try clear hfz22_6
          try clear hfz22_7
          try clear hfz22_8
          try clear hfz22_9
          try clear hfz31_0
          try clear hfz31_1
          try clear hfz31_2
          try clear hfz31_3
          try clear hfz31_4
          try clear hfz31_5
          try clear hfz31_6
          try clear hfz31_7
          try clear hfz31_8
          try clear hfz31_9
          try clear hfz33_0
          try clear hfz33_1
          try clear hfz33_2
          try clear hfz33_3
          try clear hfz33_4
          try clear hfz33_5
          try clear hfz33_6
          try clear hfz33_7
          try clear hfz33_8
          try clear hfz33_9
          try clear hfz35_0
          try clear hfz35_1
          try clear hfz35_2
          try clear hfz35_3
          try clear hfz35_4
          try clear hfz35_5
          try clear hfz35_6
          try clear hfz35_7
          try clear hfz35_8
          try clear hfz35_9
          try clear hfz37_0
          try clear hfz37_1
          try clear hfz37_2
          try clear hfz37_3
          try clear hfz37_4
          try clear hfz37_5
          try clear hfz37_6
          try clear hfz37_7
          try clear hfz37_8
          try clear hfz37_9
          try clear hfz5_0
          try clear hfz5_1
          try clear hfz5_2
          try clear hfz5_3
          try clear hfz5_4
          try clear hfz5_5
          try clear hfz5_6
          try clear hfz5_7
          try clear hfz5_8
          try clear hfz5_9
          try clear hfz9_0
          try clear hfz9_1
          try clear hfz9_2
          try clear hfz9_3
          try clear p2
          obtain ⟨kq, x73_25, rfl, HA, HJ25, BK254, BK261, HB⟩ := hcut
          cases kq with
          | zero => exact absurd HA.out (by simp [tattlelaw17_VoteGives.j1])
          | succ kj25 =>
            have H := HA.out
            clear HA
            simp only [tattlelaw17_VoteGives.j1] at H
            by_cases c38 : x73_25 = true
            · subst c38
              have H1 : (some false) = some r := by rw [if_pos rfl] at H; exact H
              clear H
              have H := H1
              clear H1
              exact absurd ((Option.some.inj H).trans hrt.out) (by decide)
            · replace c38 := Bool.eq_false_iff.mpr c38
              subst c38
              have H1 : (if t259 = true then ((vote_Ask.f a0_0 a0_1 a0_2 t255 t256 t257 t258 a0_7 a0_8 (wrap64 (a0_9 + 1))).bind fun bt265 => ((vote_Ask.f a0_0 a0_1 a0_2 t255 t256 t257 t258 (Int.tmod (wrap64 (a0_7 + 1)) 64) (IntKind.u64.wrap (a0_8 + 1)) (wrap64 ((wrap64 (a0_9 + a0_0)) - 1))).bind fun bt272 => (if bt265.2.2.2.2.1 = true then (if bt265.2.2.2.2.2 = 0 then (if bt265.2.2.1 = (wrap64 (t257 + 1)) then (if bt265.1 = t255 then (if bt272.2.2.2.2.1 = true then (some false) else (if bt272.2.2.2.2.2 = 0 then ((tattlelaw17_awakeT.f).bind fun t279 => (some t279)) else (some false))) else (some false)) else (some false)) else (some false)) else (some false)))) else (if (t255 == a0_3 && (t256 == a0_4 && (t257 == a0_5 && (t258 == a0_6)))) = true then ((tattlelaw17_awakeT.f).bind fun t280 => (some t280)) else (some false))) = some r := by rw [if_neg (show ¬ (false = true) by decide)] at H; exact H
              clear H
              have H := H1
              clear H1
              by_cases c39 : t259 = true
              · subst c39
                have H1 : ((vote_Ask.f a0_0 a0_1 a0_2 t255 t256 t257 t258 a0_7 a0_8 (wrap64 (a0_9 + 1))).bind fun bt265 => ((vote_Ask.f a0_0 a0_1 a0_2 t255 t256 t257 t258 (Int.tmod (wrap64 (a0_7 + 1)) 64) (IntKind.u64.wrap (a0_8 + 1)) (wrap64 ((wrap64 (a0_9 + a0_0)) - 1))).bind fun bt272 => (if bt265.2.2.2.2.1 = true then (if bt265.2.2.2.2.2 = 0 then (if bt265.2.2.1 = (wrap64 (t257 + 1)) then (if bt265.1 = t255 then (if bt272.2.2.2.2.1 = true then (some false) else (if bt272.2.2.2.2.2 = 0 then ((tattlelaw17_awakeT.f).bind fun t279 => (some t279)) else (some false))) else (some false)) else (some false)) else (some false)) else (some false)))) = some r := by rw [if_pos rfl] at H; exact H
                clear H
                have H := H1
                clear H1
                replace H := Option.bind_eq_some_iff.mp H
                obtain ⟨⟨t265, t266, t267, t268, t269, t270⟩, A400, H⟩ := H
                replace H : ((vote_Ask.f a0_0 a0_1 a0_2 t255 t256 t257 t258 (Int.tmod (wrap64 (a0_7 + 1)) 64) (IntKind.u64.wrap (a0_8 + 1)) (wrap64 ((wrap64 (a0_9 + a0_0)) - 1))).bind fun bt272 => (if t269 = true then (if t270 = 0 then (if t267 = (wrap64 (t257 + 1)) then (if t265 = t255 then (if bt272.2.2.2.2.1 = true then (some false) else (if bt272.2.2.2.2.2 = 0 then ((tattlelaw17_awakeT.f).bind fun t279 => (some t279)) else (some false))) else (some false)) else (some false)) else (some false)) else (some false))) = some r := H
                have A40 := Aside0.mk A400
                clear A400
                replace H := Option.bind_eq_some_iff.mp H
                obtain ⟨⟨t272, t273, t274, t275, t276, t277⟩, A410, H⟩ := H
                replace H : (if t269 = true then (if t270 = 0 then (if t267 = (wrap64 (t257 + 1)) then (if t265 = t255 then (if t276 = true then (some false) else (if t277 = 0 then ((tattlelaw17_awakeT.f).bind fun t279 => (some t279)) else (some false))) else (some false)) else (some false)) else (some false)) else (some false)) = some r := H
                have A41 := Aside0.mk A410
                clear A410
                by_cases c42 : t269 = true
                · subst c42
                  have H1 : (if t270 = 0 then (if t267 = (wrap64 (t257 + 1)) then (if t265 = t255 then (if t276 = true then (some false) else (if t277 = 0 then ((tattlelaw17_awakeT.f).bind fun t279 => (some t279)) else (some false))) else (some false)) else (some false)) else (some false)) = some r := by rw [if_pos rfl] at H; exact H
                  clear H
                  have H := H1
                  clear H1
                  by_cases c43 : t270 = 0
                  · rw [if_pos c43] at H
                    have c43b0 : (t270 == 0) = true := beq_iff_eq.mpr c43
                    have c43b1 : (t270 != 0) = false := bne_eq_false_iff_eq.mpr c43
                    clear c43
                    by_cases c44 : t267 = (wrap64 (t257 + 1))
                    · rw [if_pos c44] at H
                      have c44b0 : (t267 == (wrap64 (t257 + 1))) = true := beq_iff_eq.mpr c44
                      have c44b1 : (t267 != (wrap64 (t257 + 1))) = false := bne_eq_false_iff_eq.mpr c44
                      clear c44
                      by_cases c45 : t265 = t255
                      · rw [if_pos c45] at H
                        have c45b0 : (t265 == t255) = true := beq_iff_eq.mpr c45
                        have c45b1 : (t265 != t255) = false := bne_eq_false_iff_eq.mpr c45
                        clear c45
                        by_cases c46 : t276 = true
                        · subst c46
                          have H1 : (some false) = some r := by rw [if_pos rfl] at H; exact H
                          clear H
                          have H := H1
                          clear H1
                          exact absurd ((Option.some.inj H).trans hrt.out) (by decide)
                        · replace c46 := Bool.eq_false_iff.mpr c46
                          subst c46
                          have H1 : (if t277 = 0 then ((tattlelaw17_awakeT.f).bind fun t279 => (some t279)) else (some false)) = some r := by rw [if_neg (show ¬ (false = true) by decide)] at H; exact H
                          clear H
                          have H := H1
                          clear H1
                          by_cases c47 : t277 = 0
                          · rw [if_pos c47] at H
                            have c47b0 : (t277 == 0) = true := beq_iff_eq.mpr c47
                            have c47b1 : (t277 != 0) = false := bne_eq_false_iff_eq.mpr c47
                            clear c47
                            replace H := Option.bind_eq_some_iff.mp H
                            obtain ⟨t279, A480, H⟩ := H
                            replace H : (some t279) = some r := H
                            have A48 := Aside0.mk A480
                            clear A480
                            obtain rfl := Option.some.inj H
                            have hnb49 := NB254_261.out
                            have hnc49 := NB261_254.out
                            have hcz50_0 : wc.cell? ⟨gb254, 0, none⟩ = some (.int .i64 a0_0) := (blk_cell BK254.out 0).trans rfl
                            have hcz50_1 : wc.cell? ⟨gb254, 1, none⟩ = some (.int .i64 a0_1) := (blk_cell BK254.out 1).trans rfl
                            have hcz50_2 : wc.cell? ⟨gb254, 2, none⟩ = some (.int .i64 a0_2) := (blk_cell BK254.out 2).trans rfl
                            have hcz50_3 : wc.cell? ⟨gb254, 3, none⟩ = some (.int .u64 a0_3) := (blk_cell BK254.out 3).trans rfl
                            have hcz50_4 : wc.cell? ⟨gb254, 4, none⟩ = some (.int .i64 a0_4) := (blk_cell BK254.out 4).trans rfl
                            have hcz50_5 : wc.cell? ⟨gb254, 5, none⟩ = some (.int .i64 a0_5) := (blk_cell BK254.out 5).trans rfl
                            have hcz50_6 : wc.cell? ⟨gb254, 6, none⟩ = some (.int .i64 a0_6) := (blk_cell BK254.out 6).trans rfl
                            have hcz50_7 : wc.cell? ⟨gb254, 7, none⟩ = some (.int .i64 a0_7) := (blk_cell BK254.out 7).trans rfl
                            have hcz50_8 : wc.cell? ⟨gb254, 8, none⟩ = some (.int .u64 a0_8) := (blk_cell BK254.out 8).trans rfl
                            have hcz50_9 : wc.cell? ⟨gb254, 9, none⟩ = some (.int .i64 a0_9) := (blk_cell BK254.out 9).trans rfl
                            have hfz50_0 := blk_frozen BK254.out 0
                            have hfz50_1 := blk_frozen BK254.out 1
                            have hfz50_2 := blk_frozen BK254.out 2
                            have hfz50_3 := blk_frozen BK254.out 3
                            have hfz50_4 := blk_frozen BK254.out 4
                            have hfz50_5 := blk_frozen BK254.out 5
                            have hfz50_6 := blk_frozen BK254.out 6
                            have hfz50_7 := blk_frozen BK254.out 7
                            have hfz50_8 := blk_frozen BK254.out 8
                            have hfz50_9 := blk_frozen BK254.out 9
                            have hcz51_0 : wc.cell? ⟨gb261, 0, none⟩ = some (.int .u64 t255) := (blk_cell BK261.out 0).trans rfl
                            have hcz51_1 : wc.cell? ⟨gb261, 1, none⟩ = some (.int .i64 t256) := (blk_cell BK261.out 1).trans rfl
                            have hcz51_2 : wc.cell? ⟨gb261, 2, none⟩ = some (.int .i64 t257) := (blk_cell BK261.out 2).trans rfl
                            have hcz51_3 : wc.cell? ⟨gb261, 3, none⟩ = some (.int .i64 t258) := (blk_cell BK261.out 3).trans rfl
                            have hfz51_0 := blk_frozen BK261.out 0
                            have hfz51_1 := blk_frozen BK261.out 1
                            have hfz51_2 := blk_frozen BK261.out 2
                            have hfz51_3 := blk_frozen BK261.out 3
                            go_wp2_with (first | ((with_reducible refine gate_callee (f := 18) rfl ?_); refine goesL_ (some 94) rfl rfl Try.func18 (by kernel_rfl) rfl #[.agg #[.int .i64 a0_0, .int .i64 a0_1, .int .i64 a0_2], .agg #[.int .u64 t255, .int .i64 t256, .int .i64 t257, .int .i64 t258], .int .i64 a0_7, .int .u64 a0_8, .int .i64 (wrap64 (a0_9 + 1))] rfl (by (try simp only [List.map_toArray, List.map_cons, List.map_nil]); first | done | rfl | (simp only [List.length_drop, List.length_take]; rfl)) ?_; (with_reducible refine (vote_Ask.calls a0_0 a0_1 a0_2 t255 t256 t257 t258 a0_7 a0_8 (wrap64 (a0_9 + 1)) t265 t266 t267 t268 true t270 _ A40.out).mono ?_); rintro e w52 ⟨rfl, hb⟩; refine ⟨_, rfl, ?_⟩; have n0_ := Aside0.mk (blk_below (g := gb254) (o := .cells #[.int .i64 a0_0, .int .i64 a0_1, .int .i64 a0_2, .int .u64 a0_3, .int .i64 a0_4, .int .i64 a0_5, .int .i64 a0_6, .int .i64 a0_7, .int .u64 a0_8, .int .i64 a0_9] 40 (0, 0)) (by (with_reducible repeat (first | refine blk_drewN ?_ _ | refine blk_drew ?_ | refine blk_alloc ?_ _)); exact BK254.out) hb); have n1_ := Aside0.mk (blk_below (g := gb261) (o := .cells #[.int .u64 t255, .int .i64 t256, .int .i64 t257, .int .i64 t258] 38 (0, 0)) (by (with_reducible repeat (first | refine blk_drewN ?_ _ | refine blk_drew ?_ | refine blk_alloc ?_ _)); exact BK261.out) hb); have n2_ := Aside0.mk (below_step (by repeat (first | (with_reducible first | exact HB.out | apply below_alloc | apply pw_below_drewN | apply below_drew1 | refine below_set ?_ GE254.out | refine below_set ?_ GE261.out) | exact HB.out)) hb); clear BK254; clear BK261; clear HB; have BK254 := n0_; have BK261 := n1_; have HB := n2_; clear n0_ n1_ n2_; (try clear hb); (try clear hb2); (try clear hk); (try clear hi)) | ((with_reducible refine gate_dst (N := 6) rfl ?_); refine box_event ?hg (N := 6) ?hd (cs := #[.int .u64 0, .int .i64 0, .int .i64 0, .int .i64 0]) (t := 38) ?hr ?_; (case hd => rfl); (case hg => rfl); (case hr => first | (go_simp; done) | (go_simp; rfl)); intro gb271 hg w53 hbox hb; have n0_ := Aside0.mk (blk_below (g := gb254) (o := .cells #[.int .i64 a0_0, .int .i64 a0_1, .int .i64 a0_2, .int .u64 a0_3, .int .i64 a0_4, .int .i64 a0_5, .int .i64 a0_6, .int .i64 a0_7, .int .u64 a0_8, .int .i64 a0_9] 40 (0, 0)) (by (with_reducible repeat (first | refine blk_drewN ?_ _ | refine blk_drew ?_ | refine blk_alloc ?_ _)); exact BK254.out) hb); have n1_ := Aside0.mk (blk_below (g := gb261) (o := .cells #[.int .u64 t255, .int .i64 t256, .int .i64 t257, .int .i64 t258] 38 (0, 0)) (by (with_reducible repeat (first | refine blk_drewN ?_ _ | refine blk_drew ?_ | refine blk_alloc ?_ _)); exact BK261.out) hb); have n2_ := Aside0.mk (below_step (by repeat (first | (with_reducible first | exact HB.out | apply below_alloc | apply pw_below_drewN | apply below_drew1 | refine below_set ?_ GE254.out | refine below_set ?_ GE261.out) | exact HB.out)) hb); have n3_ := Aside0.mk (hbox); have n4_ := Aside0.mk ((by rw [hg]; exact (below_size (by repeat (first | (with_reducible first | exact HB.out | apply below_alloc | apply pw_below_drewN | apply below_drew1 | refine below_set ?_ GE254.out | refine below_set ?_ GE261.out) | exact HB.out))) : w.heap.size ≤ gb271)); have n5_ := Aside0.mk ((by rw [hg]; exact (below_size (by repeat (first | (with_reducible first | exact HB.out | apply below_alloc | apply pw_below_drewN | apply below_drew1 | refine below_set ?_ GE254.out | refine below_set ?_ GE261.out) | exact HB.out))) : w.heap.size ≤ gb271)); have n6_ := Aside0.mk ((by rw [hg]; exact Nat.ne_of_lt (blk_lt (g := gb254) (o := .cells #[.int .i64 a0_0, .int .i64 a0_1, .int .i64 a0_2, .int .u64 a0_3, .int .i64 a0_4, .int .i64 a0_5, .int .i64 a0_6, .int .i64 a0_7, .int .u64 a0_8, .int .i64 a0_9] 40 (0, 0)) (by (with_reducible repeat (first | refine blk_drewN ?_ _ | refine blk_drew ?_ | refine blk_alloc ?_ _)); exact BK254.out)) : gb254 ≠ gb271)); have n7_ := Aside0.mk ((by rw [hg]; exact Nat.ne_of_gt (blk_lt (g := gb254) (o := .cells #[.int .i64 a0_0, .int .i64 a0_1, .int .i64 a0_2, .int .u64 a0_3, .int .i64 a0_4, .int .i64 a0_5, .int .i64 a0_6, .int .i64 a0_7, .int .u64 a0_8, .int .i64 a0_9] 40 (0, 0)) (by (with_reducible repeat (first | refine blk_drewN ?_ _ | refine blk_drew ?_ | refine blk_alloc ?_ _)); exact BK254.out)) : gb271 ≠ gb254)); have n8_ := Aside0.mk ((by rw [hg]; exact Nat.ne_of_lt (blk_lt (g := gb261) (o := .cells #[.int .u64 t255, .int .i64 t256, .int .i64 t257, .int .i64 t258] 38 (0, 0)) (by (with_reducible repeat (first | refine blk_drewN ?_ _ | refine blk_drew ?_ | refine blk_alloc ?_ _)); exact BK261.out)) : gb261 ≠ gb271)); have n9_ := Aside0.mk ((by rw [hg]; exact Nat.ne_of_gt (blk_lt (g := gb261) (o := .cells #[.int .u64 t255, .int .i64 t256, .int .i64 t257, .int .i64 t258] 38 (0, 0)) (by (with_reducible repeat (first | refine blk_drewN ?_ _ | refine blk_drew ?_ | refine blk_alloc ?_ _)); exact BK261.out)) : gb271 ≠ gb261)); clear BK254; clear BK261; clear HB; have BK254 := n0_; have BK261 := n1_; have HB := n2_; have BK271 := n3_; have GW271 := n4_; have GE271 := n5_; have NB254_271 := n6_; have NB271_254 := n7_; have NB261_271 := n8_; have NB271_261 := n9_; clear n0_ n1_ n2_ n3_ n4_ n5_ n6_ n7_ n8_ n9_; clear hb hbox hg; have hnb54 := NB271_254.out; have hnc54 := NB254_271.out; have hnb55 := NB271_261.out; have hnc55 := NB261_271.out; have hcz56_0 : w53.cell? ⟨gb271, 0, none⟩ = some (.int .u64 0) := (blk_cell BK271.out 0).trans rfl; have hcz56_1 : w53.cell? ⟨gb271, 1, none⟩ = some (.int .i64 0) := (blk_cell BK271.out 1).trans rfl; have hcz56_2 : w53.cell? ⟨gb271, 2, none⟩ = some (.int .i64 0) := (blk_cell BK271.out 2).trans rfl; have hcz56_3 : w53.cell? ⟨gb271, 3, none⟩ = some (.int .i64 0) := (blk_cell BK271.out 3).trans rfl; have hfz56_0 := blk_frozen BK271.out 0; have hfz56_1 := blk_frozen BK271.out 1; have hfz56_2 := blk_frozen BK271.out 2; have hfz56_3 := blk_frozen BK271.out 3; have hcz57_0 : w53.cell? ⟨gb254, 0, none⟩ = some (.int .i64 a0_0) := (blk_cell BK254.out 0).trans rfl; have hcz57_1 : w53.cell? ⟨gb254, 1, none⟩ = some (.int .i64 a0_1) := (blk_cell BK254.out 1).trans rfl; have hcz57_2 : w53.cell? ⟨gb254, 2, none⟩ = some (.int .i64 a0_2) := (blk_cell BK254.out 2).trans rfl; have hcz57_3 : w53.cell? ⟨gb254, 3, none⟩ = some (.int .u64 a0_3) := (blk_cell BK254.out 3).trans rfl; have hcz57_4 : w53.cell? ⟨gb254, 4, none⟩ = some (.int .i64 a0_4) := (blk_cell BK254.out 4).trans rfl; have hcz57_5 : w53.cell? ⟨gb254, 5, none⟩ = some (.int .i64 a0_5) := (blk_cell BK254.out 5).trans rfl; have hcz57_6 : w53.cell? ⟨gb254, 6, none⟩ = some (.int .i64 a0_6) := (blk_cell BK254.out 6).trans rfl; have hcz57_7 : w53.cell? ⟨gb254, 7, none⟩ = some (.int .i64 a0_7) := (blk_cell BK254.out 7).trans rfl; have hcz57_8 : w53.cell? ⟨gb254, 8, none⟩ = some (.int .u64 a0_8) := (blk_cell BK254.out 8).trans rfl; have hcz57_9 : w53.cell? ⟨gb254, 9, none⟩ = some (.int .i64 a0_9) := (blk_cell BK254.out 9).trans rfl; have hfz57_0 := blk_frozen BK254.out 0; have hfz57_1 := blk_frozen BK254.out 1; have hfz57_2 := blk_frozen BK254.out 2; have hfz57_3 := blk_frozen BK254.out 3; have hfz57_4 := blk_frozen BK254.out 4; have hfz57_5 := blk_frozen BK254.out 5; have hfz57_6 := blk_frozen BK254.out 6; have hfz57_7 := blk_frozen BK254.out 7; have hfz57_8 := blk_frozen BK254.out 8; have hfz57_9 := blk_frozen BK254.out 9; have hcz58_0 : w53.cell? ⟨gb261, 0, none⟩ = some (.int .u64 t255) := (blk_cell BK261.out 0).trans rfl; have hcz58_1 : w53.cell? ⟨gb261, 1, none⟩ = some (.int .i64 t256) := (blk_cell BK261.out 1).trans rfl; have hcz58_2 : w53.cell? ⟨gb261, 2, none⟩ = some (.int .i64 t257) := (blk_cell BK261.out 2).trans rfl; have hcz58_3 : w53.cell? ⟨gb261, 3, none⟩ = some (.int .i64 t258) := (blk_cell BK261.out 3).trans rfl; have hfz58_0 := blk_frozen BK261.out 0; have hfz58_1 := blk_frozen BK261.out 1; have hfz58_2 := blk_frozen BK261.out 2; have hfz58_3 := blk_frozen BK261.out 3) | ((with_reducible refine gate_callee (f := 18) rfl ?_); refine goesL_ (some 116) rfl rfl Try.func18 (by kernel_rfl) rfl #[.agg #[.int .i64 a0_0, .int .i64 a0_1, .int .i64 a0_2], .agg #[.int .u64 t255, .int .i64 t256, .int .i64 t257, .int .i64 t258], .int .i64 (Int.tmod (wrap64 (a0_7 + 1)) 64), .int .u64 (IntKind.u64.wrap (a0_8 + 1)), .int .i64 (wrap64 ((wrap64 (a0_9 + a0_0)) - 1))] rfl (by (try simp only [List.map_toArray, List.map_cons, List.map_nil]); first | done | rfl | (simp only [List.length_drop, List.length_take]; rfl)) ?_; (with_reducible refine (vote_Ask.calls a0_0 a0_1 a0_2 t255 t256 t257 t258 (Int.tmod (wrap64 (a0_7 + 1)) 64) (IntKind.u64.wrap (a0_8 + 1)) (wrap64 ((wrap64 (a0_9 + a0_0)) - 1)) t272 t273 t274 t275 false t277 _ A41.out).mono ?_); rintro e w59 ⟨rfl, hb⟩; refine ⟨_, rfl, ?_⟩; have n0_ := Aside0.mk (blk_below (g := gb254) (o := .cells #[.int .i64 a0_0, .int .i64 a0_1, .int .i64 a0_2, .int .u64 a0_3, .int .i64 a0_4, .int .i64 a0_5, .int .i64 a0_6, .int .i64 a0_7, .int .u64 a0_8, .int .i64 a0_9] 40 (0, 0)) (by (with_reducible repeat (first | refine blk_drewN ?_ _ | refine blk_drew ?_ | refine blk_alloc ?_ _)); refine blk_far ?_ NB254_271.out _; (with_reducible repeat (first | refine blk_drewN ?_ _ | refine blk_drew ?_ | refine blk_alloc ?_ _)); refine blk_far ?_ NB254_271.out _; (with_reducible repeat (first | refine blk_drewN ?_ _ | refine blk_drew ?_ | refine blk_alloc ?_ _)); refine blk_far ?_ NB254_271.out _; (with_reducible repeat (first | refine blk_drewN ?_ _ | refine blk_drew ?_ | refine blk_alloc ?_ _)); refine blk_far ?_ NB254_271.out _; (with_reducible repeat (first | refine blk_drewN ?_ _ | refine blk_drew ?_ | refine blk_alloc ?_ _)); exact BK254.out) hb); have n1_ := Aside0.mk (blk_below (g := gb261) (o := .cells #[.int .u64 t255, .int .i64 t256, .int .i64 t257, .int .i64 t258] 38 (0, 0)) (by (with_reducible repeat (first | refine blk_drewN ?_ _ | refine blk_drew ?_ | refine blk_alloc ?_ _)); refine blk_far ?_ NB261_271.out _; (with_reducible repeat (first | refine blk_drewN ?_ _ | refine blk_drew ?_ | refine blk_alloc ?_ _)); refine blk_far ?_ NB261_271.out _; (with_reducible repeat (first | refine blk_drewN ?_ _ | refine blk_drew ?_ | refine blk_alloc ?_ _)); refine blk_far ?_ NB261_271.out _; (with_reducible repeat (first | refine blk_drewN ?_ _ | refine blk_drew ?_ | refine blk_alloc ?_ _)); refine blk_far ?_ NB261_271.out _; (with_reducible repeat (first | refine blk_drewN ?_ _ | refine blk_drew ?_ | refine blk_alloc ?_ _)); exact BK261.out) hb); have n2_ := Aside0.mk (blk_below (g := gb271) (o := .cells #[.int .u64 t265, .int .i64 t266, .int .i64 t267, .int .i64 t268] 38 (0, 0)) (by (with_reducible repeat (first | refine blk_drewN ?_ _ | refine blk_drew ?_ | refine blk_alloc ?_ _)); refine blk_put (cs := #[.int .u64 t265, .int .i64 t266, .int .i64 t267, .int .i64 0]) ?_ 3 _ rfl; (with_reducible repeat (first | refine blk_drewN ?_ _ | refine blk_drew ?_ | refine blk_alloc ?_ _)); refine blk_put (cs := #[.int .u64 t265, .int .i64 t266, .int .i64 0, .int .i64 0]) ?_ 2 _ rfl; (with_reducible repeat (first | refine blk_drewN ?_ _ | refine blk_drew ?_ | refine blk_alloc ?_ _)); refine blk_put (cs := #[.int .u64 t265, .int .i64 0, .int .i64 0, .int .i64 0]) ?_ 1 _ rfl; (with_reducible repeat (first | refine blk_drewN ?_ _ | refine blk_drew ?_ | refine blk_alloc ?_ _)); refine blk_put (cs := #[.int .u64 0, .int .i64 0, .int .i64 0, .int .i64 0]) ?_ 0 _ rfl; (with_reducible repeat (first | refine blk_drewN ?_ _ | refine blk_drew ?_ | refine blk_alloc ?_ _)); exact BK271.out) hb); have n3_ := Aside0.mk (below_step (by repeat (first | (with_reducible first | exact HB.out | apply below_alloc | apply pw_below_drewN | apply below_drew1 | refine below_set ?_ GE254.out | refine below_set ?_ GE261.out | refine below_set ?_ GE271.out) | exact HB.out)) hb); clear BK254; clear BK261; clear BK271; clear HB; have BK254 := n0_; have BK261 := n1_; have BK271 := n2_; have HB := n3_; clear n0_ n1_ n2_ n3_; (try clear hb); (try clear hb2); (try clear hk); (try clear hi)) | ((with_reducible refine gate_dst (N := 9) rfl ?_); refine box_event ?hg (N := 9) ?hd (cs := #[.int .u64 0, .int .i64 0, .int .i64 0, .int .i64 0]) (t := 38) ?hr ?_; (case hd => rfl); (case hg => rfl); (case hr => first | (go_simp; done) | (go_simp; rfl)); intro gb278 hg w60 hbox hb; have n0_ := Aside0.mk (blk_below (g := gb254) (o := .cells #[.int .i64 a0_0, .int .i64 a0_1, .int .i64 a0_2, .int .u64 a0_3, .int .i64 a0_4, .int .i64 a0_5, .int .i64 a0_6, .int .i64 a0_7, .int .u64 a0_8, .int .i64 a0_9] 40 (0, 0)) (by (with_reducible repeat (first | refine blk_drewN ?_ _ | refine blk_drew ?_ | refine blk_alloc ?_ _)); exact BK254.out) hb); have n1_ := Aside0.mk (blk_below (g := gb261) (o := .cells #[.int .u64 t255, .int .i64 t256, .int .i64 t257, .int .i64 t258] 38 (0, 0)) (by (with_reducible repeat (first | refine blk_drewN ?_ _ | refine blk_drew ?_ | refine blk_alloc ?_ _)); exact BK261.out) hb); have n2_ := Aside0.mk (blk_below (g := gb271) (o := .cells #[.int .u64 t265, .int .i64 t266, .int .i64 t267, .int .i64 t268] 38 (0, 0)) (by (with_reducible repeat (first | refine blk_drewN ?_ _ | refine blk_drew ?_ | refine blk_alloc ?_ _)); exact BK271.out) hb); have n3_ := Aside0.mk (below_step (by repeat (first | (with_reducible first | exact HB.out | apply below_alloc | apply pw_below_drewN | apply below_drew1 | refine below_set ?_ GE254.out | refine below_set ?_ GE261.out | refine below_set ?_ GE271.out) | exact HB.out)) hb); have n4_ := Aside0.mk (hbox); have n5_ := Aside0.mk ((by rw [hg]; exact (below_size (by repeat (first | (with_reducible first | exact HB.out | apply below_alloc | apply pw_below_drewN | apply below_drew1 | refine below_set ?_ GE254.out | refine below_set ?_ GE261.out | refine below_set ?_ GE271.out) | exact HB.out))) : w.heap.size ≤ gb278)); have n6_ := Aside0.mk ((by rw [hg]; exact (below_size (by repeat (first | (with_reducible first | exact HB.out | apply below_alloc | apply pw_below_drewN | apply below_drew1 | refine below_set ?_ GE254.out | refine below_set ?_ GE261.out | refine below_set ?_ GE271.out) | exact HB.out))) : w.heap.size ≤ gb278)); have n7_ := Aside0.mk ((by rw [hg]; exact Nat.ne_of_lt (blk_lt (g := gb254) (o := .cells #[.int .i64 a0_0, .int .i64 a0_1, .int .i64 a0_2, .int .u64 a0_3, .int .i64 a0_4, .int .i64 a0_5, .int .i64 a0_6, .int .i64 a0_7, .int .u64 a0_8, .int .i64 a0_9] 40 (0, 0)) (by (with_reducible repeat (first | refine blk_drewN ?_ _ | refine blk_drew ?_ | refine blk_alloc ?_ _)); exact BK254.out)) : gb254 ≠ gb278)); have n8_ := Aside0.mk ((by rw [hg]; exact Nat.ne_of_gt (blk_lt (g := gb254) (o := .cells #[.int .i64 a0_0, .int .i64 a0_1, .int .i64 a0_2, .int .u64 a0_3, .int .i64 a0_4, .int .i64 a0_5, .int .i64 a0_6, .int .i64 a0_7, .int .u64 a0_8, .int .i64 a0_9] 40 (0, 0)) (by (with_reducible repeat (first | refine blk_drewN ?_ _ | refine blk_drew ?_ | refine blk_alloc ?_ _)); exact BK254.out)) : gb278 ≠ gb254)); have n9_ := Aside0.mk ((by rw [hg]; exact Nat.ne_of_lt (blk_lt (g := gb261) (o := .cells #[.int .u64 t255, .int .i64 t256, .int .i64 t257, .int .i64 t258] 38 (0, 0)) (by (with_reducible repeat (first | refine blk_drewN ?_ _ | refine blk_drew ?_ | refine blk_alloc ?_ _)); exact BK261.out)) : gb261 ≠ gb278)); have n10_ := Aside0.mk ((by rw [hg]; exact Nat.ne_of_gt (blk_lt (g := gb261) (o := .cells #[.int .u64 t255, .int .i64 t256, .int .i64 t257, .int .i64 t258] 38 (0, 0)) (by (with_reducible repeat (first | refine blk_drewN ?_ _ | refine blk_drew ?_ | refine blk_alloc ?_ _)); exact BK261.out)) : gb278 ≠ gb261)); have n11_ := Aside0.mk ((by rw [hg]; exact Nat.ne_of_lt (blk_lt (g := gb271) (o := .cells #[.int .u64 t265, .int .i64 t266, .int .i64 t267, .int .i64 t268] 38 (0, 0)) (by (with_reducible repeat (first | refine blk_drewN ?_ _ | refine blk_drew ?_ | refine blk_alloc ?_ _)); exact BK271.out)) : gb271 ≠ gb278)); have n12_ := Aside0.mk ((by rw [hg]; exact Nat.ne_of_gt (blk_lt (g := gb271) (o := .cells #[.int .u64 t265, .int .i64 t266, .int .i64 t267, .int .i64 t268] 38 (0, 0)) (by (with_reducible repeat (first | refine blk_drewN ?_ _ | refine blk_drew ?_ | refine blk_alloc ?_ _)); exact BK271.out)) : gb278 ≠ gb271)); clear BK254; clear BK261; clear BK271; clear HB; have BK254 := n0_; have BK261 := n1_; have BK271 := n2_; have HB := n3_; have BK278 := n4_; have GW278 := n5_; have GE278 := n6_; have NB254_278 := n7_; have NB278_254 := n8_; have NB261_278 := n9_; have NB278_261 := n10_; have NB271_278 := n11_; have NB278_271 := n12_; clear n0_ n1_ n2_ n3_ n4_ n5_ n6_ n7_ n8_ n9_ n10_ n11_ n12_; clear hb hbox hg; have hnb61 := NB278_254.out; have hnc61 := NB254_278.out; have hnb62 := NB278_261.out; have hnc62 := NB261_278.out; have hnb63 := NB278_271.out; have hnc63 := NB271_278.out; have hcz64_0 : w60.cell? ⟨gb278, 0, none⟩ = some (.int .u64 0) := (blk_cell BK278.out 0).trans rfl; have hcz64_1 : w60.cell? ⟨gb278, 1, none⟩ = some (.int .i64 0) := (blk_cell BK278.out 1).trans rfl; have hcz64_2 : w60.cell? ⟨gb278, 2, none⟩ = some (.int .i64 0) := (blk_cell BK278.out 2).trans rfl; have hcz64_3 : w60.cell? ⟨gb278, 3, none⟩ = some (.int .i64 0) := (blk_cell BK278.out 3).trans rfl; have hfz64_0 := blk_frozen BK278.out 0; have hfz64_1 := blk_frozen BK278.out 1; have hfz64_2 := blk_frozen BK278.out 2; have hfz64_3 := blk_frozen BK278.out 3; have hcz65_0 : w60.cell? ⟨gb271, 0, none⟩ = some (.int .u64 t265) := (blk_cell BK271.out 0).trans rfl; have hcz65_1 : w60.cell? ⟨gb271, 1, none⟩ = some (.int .i64 t266) := (blk_cell BK271.out 1).trans rfl; have hcz65_2 : w60.cell? ⟨gb271, 2, none⟩ = some (.int .i64 t267) := (blk_cell BK271.out 2).trans rfl; have hcz65_3 : w60.cell? ⟨gb271, 3, none⟩ = some (.int .i64 t268) := (blk_cell BK271.out 3).trans rfl; have hfz65_0 := blk_frozen BK271.out 0; have hfz65_1 := blk_frozen BK271.out 1; have hfz65_2 := blk_frozen BK271.out 2; have hfz65_3 := blk_frozen BK271.out 3; have hcz66_0 : w60.cell? ⟨gb261, 0, none⟩ = some (.int .u64 t255) := (blk_cell BK261.out 0).trans rfl; have hcz66_1 : w60.cell? ⟨gb261, 1, none⟩ = some (.int .i64 t256) := (blk_cell BK261.out 1).trans rfl; have hcz66_2 : w60.cell? ⟨gb261, 2, none⟩ = some (.int .i64 t257) := (blk_cell BK261.out 2).trans rfl; have hcz66_3 : w60.cell? ⟨gb261, 3, none⟩ = some (.int .i64 t258) := (blk_cell BK261.out 3).trans rfl; have hfz66_0 := blk_frozen BK261.out 0; have hfz66_1 := blk_frozen BK261.out 1; have hfz66_2 := blk_frozen BK261.out 2; have hfz66_3 := blk_frozen BK261.out 3) | (go_at_call 16; (with_reducible refine (tattlelaw17_awakeT.calls  t279 _ A48.out).mono ?_); rintro e w67 ⟨rfl, hb⟩; have n0_ := Aside0.mk (blk_below (g := gb254) (o := .cells #[.int .i64 a0_0, .int .i64 a0_1, .int .i64 a0_2, .int .u64 a0_3, .int .i64 a0_4, .int .i64 a0_5, .int .i64 a0_6, .int .i64 a0_7, .int .u64 a0_8, .int .i64 a0_9] 40 (0, 0)) (by (with_reducible repeat (first | refine blk_drewN ?_ _ | refine blk_drew ?_ | refine blk_alloc ?_ _)); refine blk_far ?_ NB254_278.out _; (with_reducible repeat (first | refine blk_drewN ?_ _ | refine blk_drew ?_ | refine blk_alloc ?_ _)); refine blk_far ?_ NB254_278.out _; (with_reducible repeat (first | refine blk_drewN ?_ _ | refine blk_drew ?_ | refine blk_alloc ?_ _)); refine blk_far ?_ NB254_278.out _; (with_reducible repeat (first | refine blk_drewN ?_ _ | refine blk_drew ?_ | refine blk_alloc ?_ _)); refine blk_far ?_ NB254_278.out _; (with_reducible repeat (first | refine blk_drewN ?_ _ | refine blk_drew ?_ | refine blk_alloc ?_ _)); exact BK254.out) hb); have n1_ := Aside0.mk (blk_below (g := gb261) (o := .cells #[.int .u64 t255, .int .i64 t256, .int .i64 t257, .int .i64 t258] 38 (0, 0)) (by (with_reducible repeat (first | refine blk_drewN ?_ _ | refine blk_drew ?_ | refine blk_alloc ?_ _)); refine blk_far ?_ NB261_278.out _; (with_reducible repeat (first | refine blk_drewN ?_ _ | refine blk_drew ?_ | refine blk_alloc ?_ _)); refine blk_far ?_ NB261_278.out _; (with_reducible repeat (first | refine blk_drewN ?_ _ | refine blk_drew ?_ | refine blk_alloc ?_ _)); refine blk_far ?_ NB261_278.out _; (with_reducible repeat (first | refine blk_drewN ?_ _ | refine blk_drew ?_ | refine blk_alloc ?_ _)); refine blk_far ?_ NB261_278.out _; (with_reducible repeat (first | refine blk_drewN ?_ _ | refine blk_drew ?_ | refine blk_alloc ?_ _)); exact BK261.out) hb); have n2_ := Aside0.mk (blk_below (g := gb271) (o := .cells #[.int .u64 t265, .int .i64 t266, .int .i64 t267, .int .i64 t268] 38 (0, 0)) (by (with_reducible repeat (first | refine blk_drewN ?_ _ | refine blk_drew ?_ | refine blk_alloc ?_ _)); refine blk_far ?_ NB271_278.out _; (with_reducible repeat (first | refine blk_drewN ?_ _ | refine blk_drew ?_ | refine blk_alloc ?_ _)); refine blk_far ?_ NB271_278.out _; (with_reducible repeat (first | refine blk_drewN ?_ _ | refine blk_drew ?_ | refine blk_alloc ?_ _)); refine blk_far ?_ NB271_278.out _; (with_reducible repeat (first | refine blk_drewN ?_ _ | refine blk_drew ?_ | refine blk_alloc ?_ _)); refine blk_far ?_ NB271_278.out _; (with_reducible repeat (first | refine blk_drewN ?_ _ | refine blk_drew ?_ | refine blk_alloc ?_ _)); exact BK271.out) hb); have n3_ := Aside0.mk (blk_below (g := gb278) (o := .cells #[.int .u64 t272, .int .i64 t273, .int .i64 t274, .int .i64 t275] 38 (0, 0)) (by (with_reducible repeat (first | refine blk_drewN ?_ _ | refine blk_drew ?_ | refine blk_alloc ?_ _)); refine blk_put (cs := #[.int .u64 t272, .int .i64 t273, .int .i64 t274, .int .i64 0]) ?_ 3 _ rfl; (with_reducible repeat (first | refine blk_drewN ?_ _ | refine blk_drew ?_ | refine blk_alloc ?_ _)); refine blk_put (cs := #[.int .u64 t272, .int .i64 t273, .int .i64 0, .int .i64 0]) ?_ 2 _ rfl; (with_reducible repeat (first | refine blk_drewN ?_ _ | refine blk_drew ?_ | refine blk_alloc ?_ _)); refine blk_put (cs := #[.int .u64 t272, .int .i64 0, .int .i64 0, .int .i64 0]) ?_ 1 _ rfl; (with_reducible repeat (first | refine blk_drewN ?_ _ | refine blk_drew ?_ | refine blk_alloc ?_ _)); refine blk_put (cs := #[.int .u64 0, .int .i64 0, .int .i64 0, .int .i64 0]) ?_ 0 _ rfl; (with_reducible repeat (first | refine blk_drewN ?_ _ | refine blk_drew ?_ | refine blk_alloc ?_ _)); exact BK278.out) hb); have n4_ := Aside0.mk (below_step (by repeat (first | (with_reducible first | exact HB.out | apply below_alloc | apply pw_below_drewN | apply below_drew1 | refine below_set ?_ GE254.out | refine below_set ?_ GE261.out | refine below_set ?_ GE271.out | refine below_set ?_ GE278.out) | exact HB.out)) hb); clear BK254; clear BK261; clear BK271; clear BK278; clear HB; have BK254 := n0_; have BK261 := n1_; have BK271 := n2_; have BK278 := n3_; have HB := n4_; clear n0_ n1_ n2_ n3_ n4_; (try clear hb); (try clear hb2); (try clear hk); (try clear hi)))
                            go_ret
                            exact ⟨by first | rfl | (simp [errW_none, errW_some] <;> rfl) | (simp [*, errW_none, errW_some] <;> rfl), by repeat (first | (with_reducible first | exact HB.out | apply below_alloc | apply pw_below_drewN | apply below_drew1 | refine below_set ?_ GE254.out | refine below_set ?_ GE261.out | refine below_set ?_ GE271.out | refine below_set ?_ GE278.out) | exact HB.out)⟩
                          · rw [if_neg c47] at H
                            have c47b0 : (t277 == 0) = false := beq_eq_false_iff_ne.mpr c47
                            have c47b1 : (t277 != 0) = true := bne_iff_ne.mpr c47
                            exact absurd ((Option.some.inj H).trans hrt.out) (by decide)
                      · rw [if_neg c45] at H
                        have c45b0 : (t265 == t255) = false := beq_eq_false_iff_ne.mpr c45
                        have c45b1 : (t265 != t255) = true := bne_iff_ne.mpr c45
                        exact absurd ((Option.some.inj H).trans hrt.out) (by decide)
                    · rw [if_neg c44] at H
                      have c44b0 : (t267 == (wrap64 (t257 + 1))) = false := beq_eq_false_iff_ne.mpr c44
                      have c44b1 : (t267 != (wrap64 (t257 + 1))) = true := bne_iff_ne.mpr c44
                      exact absurd ((Option.some.inj H).trans hrt.out) (by decide)
                  · rw [if_neg c43] at H
                    have c43b0 : (t270 == 0) = false := beq_eq_false_iff_ne.mpr c43
                    have c43b1 : (t270 != 0) = true := bne_iff_ne.mpr c43
                    exact absurd ((Option.some.inj H).trans hrt.out) (by decide)
                · replace c42 := Bool.eq_false_iff.mpr c42
                  subst c42
                  have H1 : (some false) = some r := by rw [if_neg (show ¬ (false = true) by decide)] at H; exact H
                  clear H
                  have H := H1
                  clear H1
                  exact absurd ((Option.some.inj H).trans hrt.out) (by decide)
              · replace c39 := Bool.eq_false_iff.mpr c39
                subst c39
                have H1 : (if (t255 == a0_3 && (t256 == a0_4 && (t257 == a0_5 && (t258 == a0_6)))) = true then ((tattlelaw17_awakeT.f).bind fun t280 => (some t280)) else (some false)) = some r := by rw [if_neg (show ¬ (false = true) by decide)] at H; exact H
                clear H
                have H := H1
                clear H1
                by_cases c68 : (t255 == a0_3 && (t256 == a0_4 && (t257 == a0_5 && (t258 == a0_6)))) = true
                · rw [if_pos c68] at H
                  have c68b0 : (t255 == a0_3 && (t256 == a0_4 && (t257 == a0_5 && (t258 == a0_6)))) = true := c68
                  (try (have c68b1 : decide (t255 = a0_3 && (t256 == a0_4 && (t257 == a0_5 && (t258 == a0_6)))) = true := by simpa using c68))
                  (try (have c68b2 : (t255 == a0_3 && (t256 == a0_4 && (t257 == a0_5 && (t258 == a0_6)))) = true := by simpa using c68))
                  clear c68
                  replace H := Option.bind_eq_some_iff.mp H
                  obtain ⟨t280, A690, H⟩ := H
                  replace H : (some t280) = some r := H
                  have A69 := Aside0.mk A690
                  clear A690
                  obtain rfl := Option.some.inj H
                  have hnb70 := NB261_254.out
                  have hnc70 := NB254_261.out
                  have hcz71_0 : wc.cell? ⟨gb261, 0, none⟩ = some (.int .u64 t255) := (blk_cell BK261.out 0).trans rfl
                  have hcz71_1 : wc.cell? ⟨gb261, 1, none⟩ = some (.int .i64 t256) := (blk_cell BK261.out 1).trans rfl
                  have hcz71_2 : wc.cell? ⟨gb261, 2, none⟩ = some (.int .i64 t257) := (blk_cell BK261.out 2).trans rfl
                  have hcz71_3 : wc.cell? ⟨gb261, 3, none⟩ = some (.int .i64 t258) := (blk_cell BK261.out 3).trans rfl
                  have hfz71_0 := blk_frozen BK261.out 0
                  have hfz71_1 := blk_frozen BK261.out 1
                  have hfz71_2 := blk_frozen BK261.out 2
                  have hfz71_3 := blk_frozen BK261.out 3
                  have hcz72_0 : wc.cell? ⟨gb254, 0, none⟩ = some (.int .i64 a0_0) := (blk_cell BK254.out 0).trans rfl
                  have hcz72_1 : wc.cell? ⟨gb254, 1, none⟩ = some (.int .i64 a0_1) := (blk_cell BK254.out 1).trans rfl
                  have hcz72_2 : wc.cell? ⟨gb254, 2, none⟩ = some (.int .i64 a0_2) := (blk_cell BK254.out 2).trans rfl
                  have hcz72_3 : wc.cell? ⟨gb254, 3, none⟩ = some (.int .u64 a0_3) := (blk_cell BK254.out 3).trans rfl
                  have hcz72_4 : wc.cell? ⟨gb254, 4, none⟩ = some (.int .i64 a0_4) := (blk_cell BK254.out 4).trans rfl
                  have hcz72_5 : wc.cell? ⟨gb254, 5, none⟩ = some (.int .i64 a0_5) := (blk_cell BK254.out 5).trans rfl
                  have hcz72_6 : wc.cell? ⟨gb254, 6, none⟩ = some (.int .i64 a0_6) := (blk_cell BK254.out 6).trans rfl
                  have hcz72_7 : wc.cell? ⟨gb254, 7, none⟩ = some (.int .i64 a0_7) := (blk_cell BK254.out 7).trans rfl
                  have hcz72_8 : wc.cell? ⟨gb254, 8, none⟩ = some (.int .u64 a0_8) := (blk_cell BK254.out 8).trans rfl
                  have hcz72_9 : wc.cell? ⟨gb254, 9, none⟩ = some (.int .i64 a0_9) := (blk_cell BK254.out 9).trans rfl
                  have hfz72_0 := blk_frozen BK254.out 0
                  have hfz72_1 := blk_frozen BK254.out 1
                  have hfz72_2 := blk_frozen BK254.out 2
                  have hfz72_3 := blk_frozen BK254.out 3
                  have hfz72_4 := blk_frozen BK254.out 4
                  have hfz72_5 := blk_frozen BK254.out 5
                  have hfz72_6 := blk_frozen BK254.out 6
                  have hfz72_7 := blk_frozen BK254.out 7
                  have hfz72_8 := blk_frozen BK254.out 8
                  have hfz72_9 := blk_frozen BK254.out 9
                  go_wp2_with (first | (go_at_call 16; (with_reducible refine (tattlelaw17_awakeT.calls  t280 _ A69.out).mono ?_); rintro e w73 ⟨rfl, hb⟩; have n0_ := Aside0.mk (blk_below (g := gb254) (o := .cells #[.int .i64 a0_0, .int .i64 a0_1, .int .i64 a0_2, .int .u64 a0_3, .int .i64 a0_4, .int .i64 a0_5, .int .i64 a0_6, .int .i64 a0_7, .int .u64 a0_8, .int .i64 a0_9] 40 (0, 0)) (by (with_reducible repeat (first | refine blk_drewN ?_ _ | refine blk_drew ?_ | refine blk_alloc ?_ _)); exact BK254.out) hb); have n1_ := Aside0.mk (blk_below (g := gb261) (o := .cells #[.int .u64 t255, .int .i64 t256, .int .i64 t257, .int .i64 t258] 38 (0, 0)) (by (with_reducible repeat (first | refine blk_drewN ?_ _ | refine blk_drew ?_ | refine blk_alloc ?_ _)); exact BK261.out) hb); have n2_ := Aside0.mk (below_step (by repeat (first | (with_reducible first | exact HB.out | apply below_alloc | apply pw_below_drewN | apply below_drew1 | refine below_set ?_ GE254.out | refine below_set ?_ GE261.out) | exact HB.out)) hb); clear BK254; clear BK261; clear HB; have BK254 := n0_; have BK261 := n1_; have HB := n2_; clear n0_ n1_ n2_; (try clear hb); (try clear hb2); (try clear hk); (try clear hi)))
                  go_ret
                  exact ⟨by first | rfl | (simp [errW_none, errW_some] <;> rfl) | (simp [*, errW_none, errW_some] <;> rfl), by repeat (first | (with_reducible first | exact HB.out | apply below_alloc | apply pw_below_drewN | apply below_drew1 | refine below_set ?_ GE254.out | refine below_set ?_ GE261.out) | exact HB.out)⟩
                · rw [if_neg c68] at H
                  have c68b0 : (t255 == a0_3 && (t256 == a0_4 && (t257 == a0_5 && (t258 == a0_6)))) = false := by simpa using c68
                  (try (have c68b1 : decide (t255 = a0_3 && (t256 == a0_4 && (t257 == a0_5 && (t258 == a0_6)))) = false := by simpa using c68))
                  (try (have c68b2 : (t255 == a0_3 && (t256 == a0_4 && (t257 == a0_5 && (t258 == a0_6)))) = false := by simpa using c68))
                  (try (have c68b3 : ¬ (t255 = a0_3 && (t256 == a0_4 && (t257 == a0_5 && (t258 == a0_6)))) := by simpa using c68))
                  clear c68
                  exact absurd ((Option.some.inj H).trans hrt.out) (by decide)

end Go.Proofs.Ytgfblogneggpmaa.Fn
