-- Written by program (a turned copy of the kit's print) for this seat: functions, contracts. Lean checks it.
import Derived.Test.YtgfblogneggpmaaFnx0
import Derived.Test.YtgfblogneggpmaaFnx1
import Derived.Test.YtgfblogneggpmaaAw16
import Derived.Test.YtgfblogneggpmaaExAsk
namespace Go.Proofs.Ytgfblogneggpmaa.Fn
open Go.RowKit Go.Proofs.YtgfblogneggpmaaW.PrintWords Go.Proofs.YtgfblogneggpmaaW.PrintLast Go.Proofs.YtgfblogneggpmaaW.PrintMore
attribute [local go_sem] max2_int min2_int max_two min_two max_three min_three max_four min_four   -- for this text's walks alone
set_option linter.unusedVariables false
set_option linter.unusedSimpArgs false

attribute [local go_sem high] eqA38
/-! ### tattlelaw17_VoteSame: function 7 -/
def tattlelaw17_VoteSame.j0 : Nat → Int → Bool → Bool → Int → Int → Int → Int → Int → Int → Int → Int → Int → Int → Int → Int → Int → Int → Option (Bool)
  | 0, _, _, _, _, _, _, _, _, _, _, _, _, _, _, _, _, _ => none
  | k + 1, x1, x6, x46, x282000, x282001, x282002, x282003, x282004, x282005, x282006, x282007, x282008, x282009, x289000, x289001, x289002, x289003 => if x46 = true then ((tattlelaw17_awakeT.f).bind fun t289 => (some t289)) else ((vote_Ask.f x282000 x282001 x282002 x282003 x282004 (wrap64 (x282005 + (wrap64 (x1)))) (wrap64 (x282006 + (wrap64 (x1)))) x282007 x282008 (wrap64 (x282009 + (wrap64 (x1))))).bind fun bt291 => (if bt291.2.2.2.2.2 = 0 then (if (x6 != bt291.2.2.2.2.1) = true then (some false) else (if x6 = true then (if x289000 = bt291.1 then (if x289001 = bt291.2.1 then (if bt291.2.2.1 = (wrap64 (x289002 + (wrap64 (x1)))) then (if bt291.2.2.2.1 = (wrap64 (x289003 + (wrap64 (x1)))) then ((tattlelaw17_awakeT.f).bind fun t298 => (some t298)) else (some false)) else (some false)) else (some false)) else (some false)) else (if (!(x289000 == x282003) || (!(x289001 == x282004) || (!(x289002 == x282005) || (!(x289003 == x282006))))) = true then (some false) else (if (!(bt291.1 == x282003) || (!(bt291.2.1 == x282004) || (!(bt291.2.2.1 == (wrap64 (x282005 + (wrap64 (x1))))) || (!(bt291.2.2.2.1 == (wrap64 (x282006 + (wrap64 (x1))))))))) = true then (some false) else (if x289000 = bt291.1 then (if x289001 = bt291.2.1 then (if bt291.2.2.1 = (wrap64 (x289002 + (wrap64 (x1)))) then (if bt291.2.2.2.1 = (wrap64 (x289003 + (wrap64 (x1)))) then ((tattlelaw17_awakeT.f).bind fun t299 => (some t299)) else (some false)) else (some false)) else (some false)) else (some false)))))) else (some false)))
def tattlelaw17_VoteSame.f (k : Nat) (a0_0 : Int) (a0_1 : Int) (a0_2 : Int) (a0_3 : Int) (a0_4 : Int) (a0_5 : Int) (a0_6 : Int) (a0_7 : Int) (a0_8 : Int) (a0_9 : Int) (a1 : Int) : Option (Bool) := (vote_Ask.f a0_0 a0_1 a0_2 a0_3 a0_4 a0_5 a0_6 a0_7 a0_8 a0_9).bind fun bt282 => (if bt282.2.2.2.2.2 = 0 then (if a0_9 > 549755813888 then (tattlelaw17_VoteSame.j0 k a1 bt282.2.2.2.2.1 true a0_0 a0_1 a0_2 a0_3 a0_4 a0_5 a0_6 a0_7 a0_8 a0_9 bt282.1 bt282.2.1 bt282.2.2.1 bt282.2.2.2.1) else (if a0_5 > 549755813888 then (tattlelaw17_VoteSame.j0 k a1 bt282.2.2.2.2.1 true a0_0 a0_1 a0_2 a0_3 a0_4 a0_5 a0_6 a0_7 a0_8 a0_9 bt282.1 bt282.2.1 bt282.2.2.1 bt282.2.2.2.1) else (tattlelaw17_VoteSame.j0 k a1 bt282.2.2.2.2.1 (decide (a0_6 > 549755813888)) a0_0 a0_1 a0_2 a0_3 a0_4 a0_5 a0_6 a0_7 a0_8 a0_9 bt282.1 bt282.2.1 bt282.2.2.1 bt282.2.2.2.1))) else (tattlelaw17_VoteSame.j0 k a1 bt282.2.2.2.2.1 true a0_0 a0_1 a0_2 a0_3 a0_4 a0_5 a0_6 a0_7 a0_8 a0_9 bt282.1 bt282.2.1 bt282.2.2.1 bt282.2.2.2.1))
theorem tattlelaw17_VoteSame.mono_l : ∀ k, (∀ y0 y1 y2 y3 y4 y5 y6 y7 y8 y9 y10 y11 y12 y13 y14 y15 y16, LeO (tattlelaw17_VoteSame.j0 k y0 y1 y2 y3 y4 y5 y6 y7 y8 y9 y10 y11 y12 y13 y14 y15 y16) (tattlelaw17_VoteSame.j0 (k + 1) y0 y1 y2 y3 y4 y5 y6 y7 y8 y9 y10 y11 y12 y13 y14 y15 y16))
  | 0 => fun _ _ _ _ _ _ _ _ _ _ _ _ _ _ _ _ _ r h => by simp [tattlelaw17_VoteSame.j0] at h
  | k + 1 => by
    have ih0 := tattlelaw17_VoteSame.mono_l k
    · intro y0 y1 y2 y3 y4 y5 y6 y7 y8 y9 y10 y11 y12 y13 y14 y15 y16
      unfold tattlelaw17_VoteSame.j0
      repeat' first
      | (with_reducible exact ih0 _ _ _ _ _ _ _ _ _ _ _ _ _ _ _ _ _)
      | (with_reducible exact LeO.refl _)
      | (with_reducible exact LeO.none _)
      | (with_reducible refine LeO.ite ?_ ?_)
      | (with_reducible refine LeO.bind ?_ (fun _ => ?_))
      | exact ih0 _ _ _ _ _ _ _ _ _ _ _ _ _ _ _ _ _
      | exact LeO.none _
      | refine LeO.ite ?_ ?_
      | refine LeO.bind ?_ (fun _ => ?_)
theorem tattlelaw17_VoteSame.mono : ∀ a0 a1 a2 a3 a4 a5 a6 a7 a8 a9 a10 k, LeO (tattlelaw17_VoteSame.f k a0 a1 a2 a3 a4 a5 a6 a7 a8 a9 a10) (tattlelaw17_VoteSame.f (k + 1) a0 a1 a2 a3 a4 a5 a6 a7 a8 a9 a10) := by
  intro a0 a1 a2 a3 a4 a5 a6 a7 a8 a9 a10 k
  have ih0 := tattlelaw17_VoteSame.mono_l k
  unfold tattlelaw17_VoteSame.f
  repeat' first
      | (with_reducible exact ih0 _ _ _ _ _ _ _ _ _ _ _ _ _ _ _ _ _)
      | (with_reducible exact LeO.refl _)
      | (with_reducible exact LeO.none _)
      | (with_reducible refine LeO.ite ?_ ?_)
      | (with_reducible refine LeO.bind ?_ (fun _ => ?_))
      | exact ih0 _ _ _ _ _ _ _ _ _ _ _ _ _ _ _ _ _
      | exact LeO.none _
      | refine LeO.ite ?_ ?_
      | refine LeO.bind ?_ (fun _ => ?_)
theorem wp_gen {p : Program} {c : Code} {K : Exit → Act → World → Prop} {a : Act} {W : World} (Q : World → Prop) (hq : Q W) (h : ∀ W', Q W' → Code.wp p c K a W') : Code.wp p c K a W := h W hq
set_option maxHeartbeats 8000000 in
set_option maxRecDepth 100000 in
theorem tattlelaw17_VoteSame.calls (k : Nat) (a0_0 : Int) (a0_1 : Int) (a0_2 : Int) (a0_3 : Int) (a0_4 : Int) (a0_5 : Int) (a0_6 : Int) (a0_7 : Int) (a0_8 : Int) (a0_9 : Int) (a1 : Int) (r : Bool) (w : World) (hrt : Aside0 (r = true)) (h : tattlelaw17_VoteSame.f k a0_0 a0_1 a0_2 a0_3 a0_4 a0_5 a0_6 a0_7 a0_8 a0_9 a1 = some r) :
    Calls Try.prog 7 #[.agg #[.int .i64 a0_0, .int .i64 a0_1, .int .i64 a0_2, .int .u64 a0_3, .int .i64 a0_4, .int .i64 a0_5, .int .i64 a0_6, .int .i64 a0_7, .int .u64 a0_8, .int .i64 a0_9], .int .u16 a1] w fun e w' => e = .returned (.bool r) ∧ Below w.heap.size w w' := by
  have hu40 := Try.underlying40
  have hu23 := Try.underlying23
  have hu38 := Try.underlying38
  have HB := Aside0.mk (Below.refl w.heap.size w)
  have H : ((vote_Ask.f a0_0 a0_1 a0_2 a0_3 a0_4 a0_5 a0_6 a0_7 a0_8 a0_9).bind fun bt282 => (if bt282.2.2.2.2.2 = 0 then (if a0_9 > 549755813888 then (tattlelaw17_VoteSame.j0 k a1 bt282.2.2.2.2.1 true a0_0 a0_1 a0_2 a0_3 a0_4 a0_5 a0_6 a0_7 a0_8 a0_9 bt282.1 bt282.2.1 bt282.2.2.1 bt282.2.2.2.1) else (if a0_5 > 549755813888 then (tattlelaw17_VoteSame.j0 k a1 bt282.2.2.2.2.1 true a0_0 a0_1 a0_2 a0_3 a0_4 a0_5 a0_6 a0_7 a0_8 a0_9 bt282.1 bt282.2.1 bt282.2.2.1 bt282.2.2.2.1) else (tattlelaw17_VoteSame.j0 k a1 bt282.2.2.2.2.1 (decide (a0_6 > 549755813888)) a0_0 a0_1 a0_2 a0_3 a0_4 a0_5 a0_6 a0_7 a0_8 a0_9 bt282.1 bt282.2.1 bt282.2.2.1 bt282.2.2.2.1))) else (tattlelaw17_VoteSame.j0 k a1 bt282.2.2.2.2.1 true a0_0 a0_1 a0_2 a0_3 a0_4 a0_5 a0_6 a0_7 a0_8 a0_9 bt282.1 bt282.2.1 bt282.2.2.1 bt282.2.2.2.1))) = some r := h
  clear h
  replace H := Option.bind_eq_some_iff.mp H
  obtain ⟨⟨t282, t283, t284, t285, t286, t287⟩, A30, H⟩ := H
  replace H : (if t287 = 0 then (if a0_9 > 549755813888 then (tattlelaw17_VoteSame.j0 k a1 t286 true a0_0 a0_1 a0_2 a0_3 a0_4 a0_5 a0_6 a0_7 a0_8 a0_9 t282 t283 t284 t285) else (if a0_5 > 549755813888 then (tattlelaw17_VoteSame.j0 k a1 t286 true a0_0 a0_1 a0_2 a0_3 a0_4 a0_5 a0_6 a0_7 a0_8 a0_9 t282 t283 t284 t285) else (tattlelaw17_VoteSame.j0 k a1 t286 (decide (a0_6 > 549755813888)) a0_0 a0_1 a0_2 a0_3 a0_4 a0_5 a0_6 a0_7 a0_8 a0_9 t282 t283 t284 t285))) else (tattlelaw17_VoteSame.j0 k a1 t286 true a0_0 a0_1 a0_2 a0_3 a0_4 a0_5 a0_6 a0_7 a0_8 a0_9 t282 t283 t284 t285)) = some r := H
  have A3 := Aside0.mk A30
  clear A30
  have HC4 := Aside0.mk H
  clear H
  go_enter Try.func7, Try.ntmps7
  go_upto_region 2 with (first | ((with_reducible refine gate_dst (N := 2) rfl ?_); refine box_event ?hg (N := 2) ?hd (cs := #[.int .i64 a0_0, .int .i64 a0_1, .int .i64 a0_2, .int .u64 a0_3, .int .i64 a0_4, .int .i64 a0_5, .int .i64 a0_6, .int .i64 a0_7, .int .u64 a0_8, .int .i64 a0_9]) (t := 40) ?hr ?_; (case hd => rfl); (case hg => rfl); (case hr => first | (go_simp; done) | (go_simp; rfl)); intro gb281 hg w5 hbox hb; have n0_ := Aside0.mk (below_step (by repeat (first | (with_reducible first | exact HB.out | apply below_alloc | apply pw_below_drewN | apply below_drew1) | exact HB.out)) hb); have n1_ := Aside0.mk (hbox); have n2_ := Aside0.mk ((by rw [hg]; exact (below_size (by repeat (first | (with_reducible first | exact HB.out | apply below_alloc | apply pw_below_drewN | apply below_drew1) | exact HB.out))) : w.heap.size ≤ gb281)); have n3_ := Aside0.mk ((by rw [hg]; exact (below_size (by repeat (first | (with_reducible first | exact HB.out | apply below_alloc | apply pw_below_drewN | apply below_drew1) | exact HB.out))) : w.heap.size ≤ gb281)); clear HB; have HB := n0_; have BK281 := n1_; have GW281 := n2_; have GE281 := n3_; clear n0_ n1_ n2_ n3_; clear hb hbox hg; have hcz6_0 : w5.cell? ⟨gb281, 0, none⟩ = some (.int .i64 a0_0) := (blk_cell BK281.out 0).trans rfl; have hcz6_1 : w5.cell? ⟨gb281, 1, none⟩ = some (.int .i64 a0_1) := (blk_cell BK281.out 1).trans rfl; have hcz6_2 : w5.cell? ⟨gb281, 2, none⟩ = some (.int .i64 a0_2) := (blk_cell BK281.out 2).trans rfl; have hcz6_3 : w5.cell? ⟨gb281, 3, none⟩ = some (.int .u64 a0_3) := (blk_cell BK281.out 3).trans rfl; have hcz6_4 : w5.cell? ⟨gb281, 4, none⟩ = some (.int .i64 a0_4) := (blk_cell BK281.out 4).trans rfl; have hcz6_5 : w5.cell? ⟨gb281, 5, none⟩ = some (.int .i64 a0_5) := (blk_cell BK281.out 5).trans rfl; have hcz6_6 : w5.cell? ⟨gb281, 6, none⟩ = some (.int .i64 a0_6) := (blk_cell BK281.out 6).trans rfl; have hcz6_7 : w5.cell? ⟨gb281, 7, none⟩ = some (.int .i64 a0_7) := (blk_cell BK281.out 7).trans rfl; have hcz6_8 : w5.cell? ⟨gb281, 8, none⟩ = some (.int .u64 a0_8) := (blk_cell BK281.out 8).trans rfl; have hcz6_9 : w5.cell? ⟨gb281, 9, none⟩ = some (.int .i64 a0_9) := (blk_cell BK281.out 9).trans rfl; have hfz6_0 := blk_frozen BK281.out 0; have hfz6_1 := blk_frozen BK281.out 1; have hfz6_2 := blk_frozen BK281.out 2; have hfz6_3 := blk_frozen BK281.out 3; have hfz6_4 := blk_frozen BK281.out 4; have hfz6_5 := blk_frozen BK281.out 5; have hfz6_6 := blk_frozen BK281.out 6; have hfz6_7 := blk_frozen BK281.out 7; have hfz6_8 := blk_frozen BK281.out 8; have hfz6_9 := blk_frozen BK281.out 9) | ((with_reducible refine gate_callee (f := 18) rfl ?_); refine goesL_ (some 24) rfl rfl Try.func18 (by kernel_rfl) rfl #[.agg #[.int .i64 a0_0, .int .i64 a0_1, .int .i64 a0_2], .agg #[.int .u64 a0_3, .int .i64 a0_4, .int .i64 a0_5, .int .i64 a0_6], .int .i64 a0_7, .int .u64 a0_8, .int .i64 a0_9] rfl (by (try simp only [List.map_toArray, List.map_cons, List.map_nil]); first | done | rfl | (simp only [List.length_drop, List.length_take]; rfl)) ?_; (with_reducible refine (vote_Ask.calls a0_0 a0_1 a0_2 a0_3 a0_4 a0_5 a0_6 a0_7 a0_8 a0_9 t282 t283 t284 t285 t286 t287 _ A3.out).mono ?_); rintro e w7 ⟨rfl, hb⟩; refine ⟨_, rfl, ?_⟩; have n0_ := Aside0.mk (blk_below (g := gb281) (o := .cells #[.int .i64 a0_0, .int .i64 a0_1, .int .i64 a0_2, .int .u64 a0_3, .int .i64 a0_4, .int .i64 a0_5, .int .i64 a0_6, .int .i64 a0_7, .int .u64 a0_8, .int .i64 a0_9] 40 (0, 0)) (by (with_reducible repeat (first | refine blk_drewN ?_ _ | refine blk_drew ?_ | refine blk_alloc ?_ _)); exact BK281.out) hb); have n1_ := Aside0.mk (below_step (by repeat (first | (with_reducible first | exact HB.out | apply below_alloc | apply pw_below_drewN | apply below_drew1 | refine below_set ?_ GE281.out) | exact HB.out)) hb); clear BK281; clear HB; have BK281 := n0_; have HB := n1_; clear n0_ n1_; (try clear hb); (try clear hb2); (try clear hk); (try clear hi)) | ((with_reducible refine gate_dst (N := 5) rfl ?_); refine box_event ?hg (N := 5) ?hd (cs := #[.int .u64 0, .int .i64 0, .int .i64 0, .int .i64 0]) (t := 38) ?hr ?_; (case hd => rfl); (case hg => rfl); (case hr => first | (go_simp; done) | (go_simp; rfl)); intro gb288 hg w8 hbox hb; have n0_ := Aside0.mk (blk_below (g := gb281) (o := .cells #[.int .i64 a0_0, .int .i64 a0_1, .int .i64 a0_2, .int .u64 a0_3, .int .i64 a0_4, .int .i64 a0_5, .int .i64 a0_6, .int .i64 a0_7, .int .u64 a0_8, .int .i64 a0_9] 40 (0, 0)) (by (with_reducible repeat (first | refine blk_drewN ?_ _ | refine blk_drew ?_ | refine blk_alloc ?_ _)); exact BK281.out) hb); have n1_ := Aside0.mk (below_step (by repeat (first | (with_reducible first | exact HB.out | apply below_alloc | apply pw_below_drewN | apply below_drew1 | refine below_set ?_ GE281.out) | exact HB.out)) hb); have n2_ := Aside0.mk (hbox); have n3_ := Aside0.mk ((by rw [hg]; exact (below_size (by repeat (first | (with_reducible first | exact HB.out | apply below_alloc | apply pw_below_drewN | apply below_drew1 | refine below_set ?_ GE281.out) | exact HB.out))) : w.heap.size ≤ gb288)); have n4_ := Aside0.mk ((by rw [hg]; exact (below_size (by repeat (first | (with_reducible first | exact HB.out | apply below_alloc | apply pw_below_drewN | apply below_drew1 | refine below_set ?_ GE281.out) | exact HB.out))) : w.heap.size ≤ gb288)); have n5_ := Aside0.mk ((by rw [hg]; exact Nat.ne_of_lt (blk_lt (g := gb281) (o := .cells #[.int .i64 a0_0, .int .i64 a0_1, .int .i64 a0_2, .int .u64 a0_3, .int .i64 a0_4, .int .i64 a0_5, .int .i64 a0_6, .int .i64 a0_7, .int .u64 a0_8, .int .i64 a0_9] 40 (0, 0)) (by (with_reducible repeat (first | refine blk_drewN ?_ _ | refine blk_drew ?_ | refine blk_alloc ?_ _)); exact BK281.out)) : gb281 ≠ gb288)); have n6_ := Aside0.mk ((by rw [hg]; exact Nat.ne_of_gt (blk_lt (g := gb281) (o := .cells #[.int .i64 a0_0, .int .i64 a0_1, .int .i64 a0_2, .int .u64 a0_3, .int .i64 a0_4, .int .i64 a0_5, .int .i64 a0_6, .int .i64 a0_7, .int .u64 a0_8, .int .i64 a0_9] 40 (0, 0)) (by (with_reducible repeat (first | refine blk_drewN ?_ _ | refine blk_drew ?_ | refine blk_alloc ?_ _)); exact BK281.out)) : gb288 ≠ gb281)); clear BK281; clear HB; have BK281 := n0_; have HB := n1_; have BK288 := n2_; have GW288 := n3_; have GE288 := n4_; have NB281_288 := n5_; have NB288_281 := n6_; clear n0_ n1_ n2_ n3_ n4_ n5_ n6_; clear hb hbox hg; have hnb9 := NB288_281.out; have hnc9 := NB281_288.out; have hcz10_0 : w8.cell? ⟨gb288, 0, none⟩ = some (.int .u64 0) := (blk_cell BK288.out 0).trans rfl; have hcz10_1 : w8.cell? ⟨gb288, 1, none⟩ = some (.int .i64 0) := (blk_cell BK288.out 1).trans rfl; have hcz10_2 : w8.cell? ⟨gb288, 2, none⟩ = some (.int .i64 0) := (blk_cell BK288.out 2).trans rfl; have hcz10_3 : w8.cell? ⟨gb288, 3, none⟩ = some (.int .i64 0) := (blk_cell BK288.out 3).trans rfl; have hfz10_0 := blk_frozen BK288.out 0; have hfz10_1 := blk_frozen BK288.out 1; have hfz10_2 := blk_frozen BK288.out 2; have hfz10_3 := blk_frozen BK288.out 3))
  (try simp only [Act.put, List.setIfInBounds_toArray, List.set_cons_zero, List.set_cons_succ])
  go_cut [46] (fun v46 wc => ∃ (kq : Nat) (x46_3 : Bool), v46 = .bool x46_3 ∧ Aside0 (tattlelaw17_VoteSame.j0 kq a1 t286 x46_3 a0_0 a0_1 a0_2 a0_3 a0_4 a0_5 a0_6 a0_7 a0_8 a0_9 t282 t283 t284 t285 = some r) ∧ Aside0 (kq ≤ k) ∧ Aside0 (wc.heap[gb281]? = some (.cells #[.int .i64 a0_0, .int .i64 a0_1, .int .i64 a0_2, .int .u64 a0_3, .int .i64 a0_4, .int .i64 a0_5, .int .i64 a0_6, .int .i64 a0_7, .int .u64 a0_8, .int .i64 a0_9] 40 (0, 0))) ∧ Aside0 (wc.heap[gb288]? = some (.cells #[.int .u64 t282, .int .i64 t283, .int .i64 t284, .int .i64 t285] 38 (0, 0))) ∧ Aside0 (Below w.heap.size w wc))
  case first => as_aux_lemma =>
    have H := HC4.out
    clear HC4
    by_cases c11 : t287 = 0
    · rw [if_pos c11] at H
      have c11b0 : (t287 == 0) = true := beq_iff_eq.mpr c11
      have c11b1 : (t287 != 0) = false := bne_eq_false_iff_eq.mpr c11
      clear c11
      (first | rw [c11b0] | (simp only [i64_w, i32_w]; rw [c11b0]) | skip)
      by_cases c12 : a0_9 > 549755813888
      · rw [if_pos c12] at H
        have c12b0 : decide (549755813888 < a0_9) = true := decide_eq_true c12
        clear c12
        as_aux_lemma =>
          have H' := Aside0.mk H
          clear H
          have hnb13 := NB281_288.out
          have hnc13 := NB288_281.out
          have hcz14_0 : w8.cell? ⟨gb281, 0, none⟩ = some (.int .i64 a0_0) := (blk_cell BK281.out 0).trans rfl
          have hcz14_1 : w8.cell? ⟨gb281, 1, none⟩ = some (.int .i64 a0_1) := (blk_cell BK281.out 1).trans rfl
          have hcz14_2 : w8.cell? ⟨gb281, 2, none⟩ = some (.int .i64 a0_2) := (blk_cell BK281.out 2).trans rfl
          have hcz14_3 : w8.cell? ⟨gb281, 3, none⟩ = some (.int .u64 a0_3) := (blk_cell BK281.out 3).trans rfl
          have hcz14_4 : w8.cell? ⟨gb281, 4, none⟩ = some (.int .i64 a0_4) := (blk_cell BK281.out 4).trans rfl
          have hcz14_5 : w8.cell? ⟨gb281, 5, none⟩ = some (.int .i64 a0_5) := (blk_cell BK281.out 5).trans rfl
          have hcz14_6 : w8.cell? ⟨gb281, 6, none⟩ = some (.int .i64 a0_6) := (blk_cell BK281.out 6).trans rfl
          have hcz14_7 : w8.cell? ⟨gb281, 7, none⟩ = some (.int .i64 a0_7) := (blk_cell BK281.out 7).trans rfl
          have hcz14_8 : w8.cell? ⟨gb281, 8, none⟩ = some (.int .u64 a0_8) := (blk_cell BK281.out 8).trans rfl
          have hcz14_9 : w8.cell? ⟨gb281, 9, none⟩ = some (.int .i64 a0_9) := (blk_cell BK281.out 9).trans rfl
          have hfz14_0 := blk_frozen BK281.out 0
          have hfz14_1 := blk_frozen BK281.out 1
          have hfz14_2 := blk_frozen BK281.out 2
          have hfz14_3 := blk_frozen BK281.out 3
          have hfz14_4 := blk_frozen BK281.out 4
          have hfz14_5 := blk_frozen BK281.out 5
          have hfz14_6 := blk_frozen BK281.out 6
          have hfz14_7 := blk_frozen BK281.out 7
          have hfz14_8 := blk_frozen BK281.out 8
          have hfz14_9 := blk_frozen BK281.out 9
          go_wp2
          go_meet
          case rel => exact ⟨_, (true), (by first | rfl | (simp; done) | (simp [*]; done)), H', ⟨by first | omega | exact Nat.le_refl _⟩, ⟨by (with_reducible repeat (first | refine blk_drewN ?_ _ | refine blk_drew ?_ | refine blk_alloc ?_ _)); refine blk_far ?_ NB281_288.out _; (with_reducible repeat (first | refine blk_drewN ?_ _ | refine blk_drew ?_ | refine blk_alloc ?_ _)); refine blk_far ?_ NB281_288.out _; (with_reducible repeat (first | refine blk_drewN ?_ _ | refine blk_drew ?_ | refine blk_alloc ?_ _)); refine blk_far ?_ NB281_288.out _; (with_reducible repeat (first | refine blk_drewN ?_ _ | refine blk_drew ?_ | refine blk_alloc ?_ _)); refine blk_far ?_ NB281_288.out _; (with_reducible repeat (first | refine blk_drewN ?_ _ | refine blk_drew ?_ | refine blk_alloc ?_ _)); exact BK281.out⟩, ⟨by (with_reducible repeat (first | refine blk_drewN ?_ _ | refine blk_drew ?_ | refine blk_alloc ?_ _)); refine blk_put (cs := #[.int .u64 t282, .int .i64 t283, .int .i64 t284, .int .i64 0]) ?_ 3 _ rfl; (with_reducible repeat (first | refine blk_drewN ?_ _ | refine blk_drew ?_ | refine blk_alloc ?_ _)); refine blk_put (cs := #[.int .u64 t282, .int .i64 t283, .int .i64 0, .int .i64 0]) ?_ 2 _ rfl; (with_reducible repeat (first | refine blk_drewN ?_ _ | refine blk_drew ?_ | refine blk_alloc ?_ _)); refine blk_put (cs := #[.int .u64 t282, .int .i64 0, .int .i64 0, .int .i64 0]) ?_ 1 _ rfl; (with_reducible repeat (first | refine blk_drewN ?_ _ | refine blk_drew ?_ | refine blk_alloc ?_ _)); refine blk_put (cs := #[.int .u64 0, .int .i64 0, .int .i64 0, .int .i64 0]) ?_ 0 _ rfl; (with_reducible repeat (first | refine blk_drewN ?_ _ | refine blk_drew ?_ | refine blk_alloc ?_ _)); exact BK288.out⟩, ⟨by repeat (first | (with_reducible first | exact HB.out | apply below_alloc | apply pw_below_drewN | apply below_drew1 | refine below_set ?_ GE281.out | refine below_set ?_ GE288.out) | exact HB.out)⟩⟩
      · rw [if_neg c12] at H
        have c12b0 : decide (549755813888 < a0_9) = false := decide_eq_false c12
        clear c12
        by_cases c15 : a0_5 > 549755813888
        · rw [if_pos c15] at H
          have c15b0 : decide (549755813888 < a0_5) = true := decide_eq_true c15
          clear c15
          as_aux_lemma =>
            have H' := Aside0.mk H
            clear H
            have hnb16 := NB281_288.out
            have hnc16 := NB288_281.out
            have hcz17_0 : w8.cell? ⟨gb281, 0, none⟩ = some (.int .i64 a0_0) := (blk_cell BK281.out 0).trans rfl
            have hcz17_1 : w8.cell? ⟨gb281, 1, none⟩ = some (.int .i64 a0_1) := (blk_cell BK281.out 1).trans rfl
            have hcz17_2 : w8.cell? ⟨gb281, 2, none⟩ = some (.int .i64 a0_2) := (blk_cell BK281.out 2).trans rfl
            have hcz17_3 : w8.cell? ⟨gb281, 3, none⟩ = some (.int .u64 a0_3) := (blk_cell BK281.out 3).trans rfl
            have hcz17_4 : w8.cell? ⟨gb281, 4, none⟩ = some (.int .i64 a0_4) := (blk_cell BK281.out 4).trans rfl
            have hcz17_5 : w8.cell? ⟨gb281, 5, none⟩ = some (.int .i64 a0_5) := (blk_cell BK281.out 5).trans rfl
            have hcz17_6 : w8.cell? ⟨gb281, 6, none⟩ = some (.int .i64 a0_6) := (blk_cell BK281.out 6).trans rfl
            have hcz17_7 : w8.cell? ⟨gb281, 7, none⟩ = some (.int .i64 a0_7) := (blk_cell BK281.out 7).trans rfl
            have hcz17_8 : w8.cell? ⟨gb281, 8, none⟩ = some (.int .u64 a0_8) := (blk_cell BK281.out 8).trans rfl
            have hcz17_9 : w8.cell? ⟨gb281, 9, none⟩ = some (.int .i64 a0_9) := (blk_cell BK281.out 9).trans rfl
            have hfz17_0 := blk_frozen BK281.out 0
            have hfz17_1 := blk_frozen BK281.out 1
            have hfz17_2 := blk_frozen BK281.out 2
            have hfz17_3 := blk_frozen BK281.out 3
            have hfz17_4 := blk_frozen BK281.out 4
            have hfz17_5 := blk_frozen BK281.out 5
            have hfz17_6 := blk_frozen BK281.out 6
            have hfz17_7 := blk_frozen BK281.out 7
            have hfz17_8 := blk_frozen BK281.out 8
            have hfz17_9 := blk_frozen BK281.out 9
            go_wp2
            go_meet
            case rel => exact ⟨_, (true), (by first | rfl | (simp; done) | (simp [*]; done)), H', ⟨by first | omega | exact Nat.le_refl _⟩, ⟨by (with_reducible repeat (first | refine blk_drewN ?_ _ | refine blk_drew ?_ | refine blk_alloc ?_ _)); refine blk_far ?_ NB281_288.out _; (with_reducible repeat (first | refine blk_drewN ?_ _ | refine blk_drew ?_ | refine blk_alloc ?_ _)); refine blk_far ?_ NB281_288.out _; (with_reducible repeat (first | refine blk_drewN ?_ _ | refine blk_drew ?_ | refine blk_alloc ?_ _)); refine blk_far ?_ NB281_288.out _; (with_reducible repeat (first | refine blk_drewN ?_ _ | refine blk_drew ?_ | refine blk_alloc ?_ _)); refine blk_far ?_ NB281_288.out _; (with_reducible repeat (first | refine blk_drewN ?_ _ | refine blk_drew ?_ | refine blk_alloc ?_ _)); exact BK281.out⟩, ⟨by (with_reducible repeat (first | refine blk_drewN ?_ _ | refine blk_drew ?_ | refine blk_alloc ?_ _)); refine blk_put (cs := #[.int .u64 t282, .int .i64 t283, .int .i64 t284, .int .i64 0]) ?_ 3 _ rfl; (with_reducible repeat (first | refine blk_drewN ?_ _ | refine blk_drew ?_ | refine blk_alloc ?_ _)); refine blk_put (cs := #[.int .u64 t282, .int .i64 t283, .int .i64 0, .int .i64 0]) ?_ 2 _ rfl; (with_reducible repeat (first | refine blk_drewN ?_ _ | refine blk_drew ?_ | refine blk_alloc ?_ _)); refine blk_put (cs := #[.int .u64 t282, .int .i64 0, .int .i64 0, .int .i64 0]) ?_ 1 _ rfl; (with_reducible repeat (first | refine blk_drewN ?_ _ | refine blk_drew ?_ | refine blk_alloc ?_ _)); refine blk_put (cs := #[.int .u64 0, .int .i64 0, .int .i64 0, .int .i64 0]) ?_ 0 _ rfl; (with_reducible repeat (first | refine blk_drewN ?_ _ | refine blk_drew ?_ | refine blk_alloc ?_ _)); exact BK288.out⟩, ⟨by repeat (first | (with_reducible first | exact HB.out | apply below_alloc | apply pw_below_drewN | apply below_drew1 | refine below_set ?_ GE281.out | refine below_set ?_ GE288.out) | exact HB.out)⟩⟩
        · rw [if_neg c15] at H
          have c15b0 : decide (549755813888 < a0_5) = false := decide_eq_false c15
          clear c15
          as_aux_lemma =>
            have H' := Aside0.mk H
            clear H
            have hnb18 := NB281_288.out
            have hnc18 := NB288_281.out
            have hcz19_0 : w8.cell? ⟨gb281, 0, none⟩ = some (.int .i64 a0_0) := (blk_cell BK281.out 0).trans rfl
            have hcz19_1 : w8.cell? ⟨gb281, 1, none⟩ = some (.int .i64 a0_1) := (blk_cell BK281.out 1).trans rfl
            have hcz19_2 : w8.cell? ⟨gb281, 2, none⟩ = some (.int .i64 a0_2) := (blk_cell BK281.out 2).trans rfl
            have hcz19_3 : w8.cell? ⟨gb281, 3, none⟩ = some (.int .u64 a0_3) := (blk_cell BK281.out 3).trans rfl
            have hcz19_4 : w8.cell? ⟨gb281, 4, none⟩ = some (.int .i64 a0_4) := (blk_cell BK281.out 4).trans rfl
            have hcz19_5 : w8.cell? ⟨gb281, 5, none⟩ = some (.int .i64 a0_5) := (blk_cell BK281.out 5).trans rfl
            have hcz19_6 : w8.cell? ⟨gb281, 6, none⟩ = some (.int .i64 a0_6) := (blk_cell BK281.out 6).trans rfl
            have hcz19_7 : w8.cell? ⟨gb281, 7, none⟩ = some (.int .i64 a0_7) := (blk_cell BK281.out 7).trans rfl
            have hcz19_8 : w8.cell? ⟨gb281, 8, none⟩ = some (.int .u64 a0_8) := (blk_cell BK281.out 8).trans rfl
            have hcz19_9 : w8.cell? ⟨gb281, 9, none⟩ = some (.int .i64 a0_9) := (blk_cell BK281.out 9).trans rfl
            have hfz19_0 := blk_frozen BK281.out 0
            have hfz19_1 := blk_frozen BK281.out 1
            have hfz19_2 := blk_frozen BK281.out 2
            have hfz19_3 := blk_frozen BK281.out 3
            have hfz19_4 := blk_frozen BK281.out 4
            have hfz19_5 := blk_frozen BK281.out 5
            have hfz19_6 := blk_frozen BK281.out 6
            have hfz19_7 := blk_frozen BK281.out 7
            have hfz19_8 := blk_frozen BK281.out 8
            have hfz19_9 := blk_frozen BK281.out 9
            go_wp2
            go_meet
            case rel => exact ⟨_, (decide (a0_6 > 549755813888)), (by first | rfl | (simp; done) | (simp [*]; done)), H', ⟨by first | omega | exact Nat.le_refl _⟩, ⟨by (with_reducible repeat (first | refine blk_drewN ?_ _ | refine blk_drew ?_ | refine blk_alloc ?_ _)); refine blk_far ?_ NB281_288.out _; (with_reducible repeat (first | refine blk_drewN ?_ _ | refine blk_drew ?_ | refine blk_alloc ?_ _)); refine blk_far ?_ NB281_288.out _; (with_reducible repeat (first | refine blk_drewN ?_ _ | refine blk_drew ?_ | refine blk_alloc ?_ _)); refine blk_far ?_ NB281_288.out _; (with_reducible repeat (first | refine blk_drewN ?_ _ | refine blk_drew ?_ | refine blk_alloc ?_ _)); refine blk_far ?_ NB281_288.out _; (with_reducible repeat (first | refine blk_drewN ?_ _ | refine blk_drew ?_ | refine blk_alloc ?_ _)); exact BK281.out⟩, ⟨by (with_reducible repeat (first | refine blk_drewN ?_ _ | refine blk_drew ?_ | refine blk_alloc ?_ _)); refine blk_put (cs := #[.int .u64 t282, .int .i64 t283, .int .i64 t284, .int .i64 0]) ?_ 3 _ rfl; (with_reducible repeat (first | refine blk_drewN ?_ _ | refine blk_drew ?_ | refine blk_alloc ?_ _)); refine blk_put (cs := #[.int .u64 t282, .int .i64 t283, .int .i64 0, .int .i64 0]) ?_ 2 _ rfl; (with_reducible repeat (first | refine blk_drewN ?_ _ | refine blk_drew ?_ | refine blk_alloc ?_ _)); refine blk_put (cs := #[.int .u64 t282, .int .i64 0, .int .i64 0, .int .i64 0]) ?_ 1 _ rfl; (with_reducible repeat (first | refine blk_drewN ?_ _ | refine blk_drew ?_ | refine blk_alloc ?_ _)); refine blk_put (cs := #[.int .u64 0, .int .i64 0, .int .i64 0, .int .i64 0]) ?_ 0 _ rfl; (with_reducible repeat (first | refine blk_drewN ?_ _ | refine blk_drew ?_ | refine blk_alloc ?_ _)); exact BK288.out⟩, ⟨by repeat (first | (with_reducible first | exact HB.out | apply below_alloc | apply pw_below_drewN | apply below_drew1 | refine below_set ?_ GE281.out | refine below_set ?_ GE288.out) | exact HB.out)⟩⟩
    · rw [if_neg c11] at H
      have c11b0 : (t287 == 0) = false := beq_eq_false_iff_ne.mpr c11
      have c11b1 : (t287 != 0) = true := bne_iff_ne.mpr c11
      (first | rw [c11b0] | (simp only [i64_w, i32_w]; rw [c11b0]) | skip)
      as_aux_lemma =>
        have H' := Aside0.mk H
        clear H
        go_wp2
        go_meet
        case rel => exact ⟨_, (true), (by first | rfl | (simp; done) | (simp [*]; done)), H', ⟨by first | omega | exact Nat.le_refl _⟩, ⟨by (with_reducible repeat (first | refine blk_drewN ?_ _ | refine blk_drew ?_ | refine blk_alloc ?_ _)); refine blk_far ?_ NB281_288.out _; (with_reducible repeat (first | refine blk_drewN ?_ _ | refine blk_drew ?_ | refine blk_alloc ?_ _)); refine blk_far ?_ NB281_288.out _; (with_reducible repeat (first | refine blk_drewN ?_ _ | refine blk_drew ?_ | refine blk_alloc ?_ _)); refine blk_far ?_ NB281_288.out _; (with_reducible repeat (first | refine blk_drewN ?_ _ | refine blk_drew ?_ | refine blk_alloc ?_ _)); refine blk_far ?_ NB281_288.out _; (with_reducible repeat (first | refine blk_drewN ?_ _ | refine blk_drew ?_ | refine blk_alloc ?_ _)); exact BK281.out⟩, ⟨by (with_reducible repeat (first | refine blk_drewN ?_ _ | refine blk_drew ?_ | refine blk_alloc ?_ _)); refine blk_put (cs := #[.int .u64 t282, .int .i64 t283, .int .i64 t284, .int .i64 0]) ?_ 3 _ rfl; (with_reducible repeat (first | refine blk_drewN ?_ _ | refine blk_drew ?_ | refine blk_alloc ?_ _)); refine blk_put (cs := #[.int .u64 t282, .int .i64 t283, .int .i64 0, .int .i64 0]) ?_ 2 _ rfl; (with_reducible repeat (first | refine blk_drewN ?_ _ | refine blk_drew ?_ | refine blk_alloc ?_ _)); refine blk_put (cs := #[.int .u64 t282, .int .i64 0, .int .i64 0, .int .i64 0]) ?_ 1 _ rfl; (with_reducible repeat (first | refine blk_drewN ?_ _ | refine blk_drew ?_ | refine blk_alloc ?_ _)); refine blk_put (cs := #[.int .u64 0, .int .i64 0, .int .i64 0, .int .i64 0]) ?_ 0 _ rfl; (with_reducible repeat (first | refine blk_drewN ?_ _ | refine blk_drew ?_ | refine blk_alloc ?_ _)); exact BK288.out⟩, ⟨by repeat (first | (with_reducible first | exact HB.out | apply below_alloc | apply pw_below_drewN | apply below_drew1 | refine below_set ?_ GE281.out | refine below_set ?_ GE288.out) | exact HB.out)⟩⟩
  case rest => as_aux_lemma =>
    clear HC4
    try clear c1
    try clear p2
    try clear c7
    try clear c9
    try clear c11
    try clear c11b0
    try clear c11b1
    try clear c12
    try clear c12b0
    try clear c13
    try clear c15
    try clear c15b0
    try clear c16
    try clear c18
    try clear hcz10_0
    try clear hcz10_1
    try clear hcz10_2
    try clear hcz10_3
    try clear hcz14_0
    try clear hcz14_1
    try clear hcz14_2
    try clear hcz14_3
    try clear hcz14_4
    try clear hcz14_5
    try clear hcz14_6
    try clear hcz14_7
    try clear hcz14_8
    try clear hcz14_9
    try clear hcz17_0
    try clear hcz17_1
    try clear hcz17_2
    try clear hcz17_3
    try clear hcz17_4
    try clear hcz17_5
    try clear hcz17_6
    try clear hcz17_7
    try clear hcz17_8
    try clear hcz17_9
    try clear hcz19_0
    try clear hcz19_1
    try clear hcz19_2
    try clear hcz19_3
    try clear hcz19_4
    try clear hcz19_5
    try clear hcz19_6
    try clear hcz19_7
    try clear hcz19_8
    try clear hcz19_9
    try clear hcz6_0
    try clear hcz6_1
    try clear hcz6_2
    try clear hcz6_3
    try clear hcz6_4
    try clear hcz6_5
    try clear hcz6_6
    try clear hcz6_7
    try clear hcz6_8
    try clear hcz6_9
    try clear hfz10_0
    try clear hfz10_1
    try clear hfz10_2
    try clear hfz10_3
    try clear hfz14_0
    try clear hfz14_1
    try clear hfz14_2
    try clear hfz14_3
    try clear hfz14_4
    try clear hfz14_5
    try clear hfz14_6
    try clear hfz14_7
    try clear hfz14_8
    try clear hfz14_9
    try clear hfz17_0
    try clear hfz17_1
    try clear hfz17_2
    try clear hfz17_3
    try clear hfz17_4
    try clear hfz17_5
    try clear hfz17_6
    try clear hfz17_7
    try clear hfz17_8
    try clear hfz17_9
    try clear hfz19_0
    try clear hfz19_1
    try clear hfz19_2
    try clear hfz19_3
    try clear hfz19_4
    try clear hfz19_5
    try clear hfz19_6
    try clear hfz19_7
    try clear hfz19_8
    try clear hfz19_9
    try clear hfz6_0
    try clear hfz6_1
    try clear hfz6_2
    try clear hfz6_3
    try clear hfz6_4
    try clear hfz6_5
    try clear hfz6_6
    try clear hfz6_7
    try clear hfz6_8
    try clear hfz6_9
    obtain ⟨kq, x46_3, rfl, HA, HJ3, BK281, BK288, HB⟩ := hcut
    cases kq with
    | zero => exact absurd HA.out (by simp [tattlelaw17_VoteSame.j0])
    | succ kj3 =>
      have H := HA.out
      clear HA
      simp only [tattlelaw17_VoteSame.j0] at H
      by_cases c20 : x46_3 = true
      · subst c20
        have H1 : ((tattlelaw17_awakeT.f).bind fun t289 => (some t289)) = some r := by rw [if_pos rfl] at H; exact H
        clear H
        have H := H1
        clear H1
        replace H := Option.bind_eq_some_iff.mp H
        obtain ⟨t289, A210, H⟩ := H
        replace H : (some t289) = some r := H
        have A21 := Aside0.mk A210
        clear A210
        as_aux_lemma =>
          obtain rfl := Option.some.inj H
          go_wp2_with (first | ((with_reducible refine gate_callee (f := 16) rfl ?_); refine goesL_ (some 47) rfl rfl Try.func16 (by kernel_rfl) rfl #[] rfl (by (try simp only [List.map_toArray, List.map_cons, List.map_nil]); first | done | rfl | (simp only [List.length_drop, List.length_take]; rfl)) ?_; (with_reducible refine (tattlelaw17_awakeT.calls  t289 _ A21.out).mono ?_); rintro e w22 ⟨rfl, hb⟩; refine ⟨_, rfl, ?_⟩; have n0_ := Aside0.mk (blk_below (g := gb281) (o := .cells #[.int .i64 a0_0, .int .i64 a0_1, .int .i64 a0_2, .int .u64 a0_3, .int .i64 a0_4, .int .i64 a0_5, .int .i64 a0_6, .int .i64 a0_7, .int .u64 a0_8, .int .i64 a0_9] 40 (0, 0)) (by (with_reducible repeat (first | refine blk_drewN ?_ _ | refine blk_drew ?_ | refine blk_alloc ?_ _)); exact BK281.out) hb); have n1_ := Aside0.mk (blk_below (g := gb288) (o := .cells #[.int .u64 t282, .int .i64 t283, .int .i64 t284, .int .i64 t285] 38 (0, 0)) (by (with_reducible repeat (first | refine blk_drewN ?_ _ | refine blk_drew ?_ | refine blk_alloc ?_ _)); exact BK288.out) hb); have n2_ := Aside0.mk (below_step (by repeat (first | (with_reducible first | exact HB.out | apply below_alloc | apply pw_below_drewN | apply below_drew1 | refine below_set ?_ GE281.out | refine below_set ?_ GE288.out) | exact HB.out)) hb); clear BK281; clear BK288; clear HB; have BK281 := n0_; have BK288 := n1_; have HB := n2_; clear n0_ n1_ n2_; (try clear hb); (try clear hb2); (try clear hk); (try clear hi)))
          go_ret
          exact ⟨by first | rfl | (simp [errW_none, errW_some] <;> rfl) | (simp [*, errW_none, errW_some] <;> rfl), by repeat (first | (with_reducible first | exact HB.out | apply below_alloc | apply pw_below_drewN | apply below_drew1 | refine below_set ?_ GE281.out | refine below_set ?_ GE288.out) | exact HB.out)⟩
      · replace c20 := Bool.eq_false_iff.mpr c20
        subst c20
        have H1 : ((vote_Ask.f a0_0 a0_1 a0_2 a0_3 a0_4 (wrap64 (a0_5 + (wrap64 (a1)))) (wrap64 (a0_6 + (wrap64 (a1)))) a0_7 a0_8 (wrap64 (a0_9 + (wrap64 (a1))))).bind fun bt291 => (if bt291.2.2.2.2.2 = 0 then (if (t286 != bt291.2.2.2.2.1) = true then (some false) else (if t286 = true then (if t282 = bt291.1 then (if t283 = bt291.2.1 then (if bt291.2.2.1 = (wrap64 (t284 + (wrap64 (a1)))) then (if bt291.2.2.2.1 = (wrap64 (t285 + (wrap64 (a1)))) then ((tattlelaw17_awakeT.f).bind fun t298 => (some t298)) else (some false)) else (some false)) else (some false)) else (some false)) else (if (!(t282 == a0_3) || (!(t283 == a0_4) || (!(t284 == a0_5) || (!(t285 == a0_6))))) = true then (some false) else (if (!(bt291.1 == a0_3) || (!(bt291.2.1 == a0_4) || (!(bt291.2.2.1 == (wrap64 (a0_5 + (wrap64 (a1))))) || (!(bt291.2.2.2.1 == (wrap64 (a0_6 + (wrap64 (a1))))))))) = true then (some false) else (if t282 = bt291.1 then (if t283 = bt291.2.1 then (if bt291.2.2.1 = (wrap64 (t284 + (wrap64 (a1)))) then (if bt291.2.2.2.1 = (wrap64 (t285 + (wrap64 (a1)))) then ((tattlelaw17_awakeT.f).bind fun t299 => (some t299)) else (some false)) else (some false)) else (some false)) else (some false)))))) else (some false))) = some r := by rw [if_neg (show ¬ (false = true) by decide)] at H; exact H
        clear H
        have H := H1
        clear H1
        replace H := Option.bind_eq_some_iff.mp H
        obtain ⟨⟨t291, t292, t293, t294, t295, t296⟩, A230, H⟩ := H
        replace H : (if t296 = 0 then (if (t286 != t295) = true then (some false) else (if t286 = true then (if t282 = t291 then (if t283 = t292 then (if t293 = (wrap64 (t284 + (wrap64 (a1)))) then (if t294 = (wrap64 (t285 + (wrap64 (a1)))) then ((tattlelaw17_awakeT.f).bind fun t298 => (some t298)) else (some false)) else (some false)) else (some false)) else (some false)) else (if (!(t282 == a0_3) || (!(t283 == a0_4) || (!(t284 == a0_5) || (!(t285 == a0_6))))) = true then (some false) else (if (!(t291 == a0_3) || (!(t292 == a0_4) || (!(t293 == (wrap64 (a0_5 + (wrap64 (a1))))) || (!(t294 == (wrap64 (a0_6 + (wrap64 (a1))))))))) = true then (some false) else (if t282 = t291 then (if t283 = t292 then (if t293 = (wrap64 (t284 + (wrap64 (a1)))) then (if t294 = (wrap64 (t285 + (wrap64 (a1)))) then ((tattlelaw17_awakeT.f).bind fun t299 => (some t299)) else (some false)) else (some false)) else (some false)) else (some false)))))) else (some false)) = some r := H
        have A23 := Aside0.mk A230
        clear A230
        by_cases c24 : t296 = 0
        · rw [if_pos c24] at H
          have c24b0 : (t296 == 0) = true := beq_iff_eq.mpr c24
          have c24b1 : (t296 != 0) = false := bne_eq_false_iff_eq.mpr c24
          clear c24
          by_cases c25 : (t286 != t295) = true
          · rw [if_pos c25] at H
            have c25b0 : (t286 != t295) = true := c25
            (try (have c25b1 : decide (t286 = t295) = false := by simpa using c25))
            (try (have c25b2 : (t286 == t295) = false := by simpa using c25))
            (try (have c25b3 : ¬ (t286 = t295) := by simpa using c25))
            clear c25
            as_aux_lemma =>
              exact absurd ((Option.some.inj H).trans hrt.out) (by decide)
          · rw [if_neg c25] at H
            have c25b0 : (t286 != t295) = false := by simpa using c25
            (try (have c25b1 : decide (t286 = t295) = true := by simpa using c25))
            (try (have c25b2 : (t286 == t295) = true := by simpa using c25))
            clear c25
            by_cases c26 : t286 = true
            · subst c26
              have H1 : (if t282 = t291 then (if t283 = t292 then (if t293 = (wrap64 (t284 + (wrap64 (a1)))) then (if t294 = (wrap64 (t285 + (wrap64 (a1)))) then ((tattlelaw17_awakeT.f).bind fun t298 => (some t298)) else (some false)) else (some false)) else (some false)) else (some false)) = some r := by rw [if_pos rfl] at H; exact H
              clear H
              have H := H1
              clear H1
              by_cases c27 : t282 = t291
              · rw [if_pos c27] at H
                have c27b0 : (t282 == t291) = true := beq_iff_eq.mpr c27
                have c27b1 : (t282 != t291) = false := bne_eq_false_iff_eq.mpr c27
                clear c27
                by_cases c28 : t283 = t292
                · rw [if_pos c28] at H
                  have c28b0 : (t283 == t292) = true := beq_iff_eq.mpr c28
                  have c28b1 : (t283 != t292) = false := bne_eq_false_iff_eq.mpr c28
                  clear c28
                  by_cases c29 : t293 = (wrap64 (t284 + (wrap64 (a1))))
                  · rw [if_pos c29] at H
                    have c29b0 : (t293 == (wrap64 (t284 + (wrap64 (a1))))) = true := beq_iff_eq.mpr c29
                    have c29b1 : (t293 != (wrap64 (t284 + (wrap64 (a1))))) = false := bne_eq_false_iff_eq.mpr c29
                    clear c29
                    by_cases c30 : t294 = (wrap64 (t285 + (wrap64 (a1))))
                    · rw [if_pos c30] at H
                      have c30b0 : (t294 == (wrap64 (t285 + (wrap64 (a1))))) = true := beq_iff_eq.mpr c30
                      have c30b1 : (t294 != (wrap64 (t285 + (wrap64 (a1))))) = false := bne_eq_false_iff_eq.mpr c30
                      clear c30
                      replace H := Option.bind_eq_some_iff.mp H
                      obtain ⟨t298, A310, H⟩ := H
                      replace H : (some t298) = some r := H
                      have A31 := Aside0.mk A310
                      clear A310
                      as_aux_lemma =>
                        obtain rfl := Option.some.inj H
                        have hnb32 := NB281_288.out
                        have hnc32 := NB288_281.out
                        have hcz33_0 : wc.cell? ⟨gb281, 0, none⟩ = some (.int .i64 a0_0) := (blk_cell BK281.out 0).trans rfl
                        have hcz33_1 : wc.cell? ⟨gb281, 1, none⟩ = some (.int .i64 a0_1) := (blk_cell BK281.out 1).trans rfl
                        have hcz33_2 : wc.cell? ⟨gb281, 2, none⟩ = some (.int .i64 a0_2) := (blk_cell BK281.out 2).trans rfl
                        have hcz33_3 : wc.cell? ⟨gb281, 3, none⟩ = some (.int .u64 a0_3) := (blk_cell BK281.out 3).trans rfl
                        have hcz33_4 : wc.cell? ⟨gb281, 4, none⟩ = some (.int .i64 a0_4) := (blk_cell BK281.out 4).trans rfl
                        have hcz33_5 : wc.cell? ⟨gb281, 5, none⟩ = some (.int .i64 a0_5) := (blk_cell BK281.out 5).trans rfl
                        have hcz33_6 : wc.cell? ⟨gb281, 6, none⟩ = some (.int .i64 a0_6) := (blk_cell BK281.out 6).trans rfl
                        have hcz33_7 : wc.cell? ⟨gb281, 7, none⟩ = some (.int .i64 a0_7) := (blk_cell BK281.out 7).trans rfl
                        have hcz33_8 : wc.cell? ⟨gb281, 8, none⟩ = some (.int .u64 a0_8) := (blk_cell BK281.out 8).trans rfl
                        have hcz33_9 : wc.cell? ⟨gb281, 9, none⟩ = some (.int .i64 a0_9) := (blk_cell BK281.out 9).trans rfl
                        have hfz33_0 := blk_frozen BK281.out 0
                        have hfz33_1 := blk_frozen BK281.out 1
                        have hfz33_2 := blk_frozen BK281.out 2
                        have hfz33_3 := blk_frozen BK281.out 3
                        have hfz33_4 := blk_frozen BK281.out 4
                        have hfz33_5 := blk_frozen BK281.out 5
                        have hfz33_6 := blk_frozen BK281.out 6
                        have hfz33_7 := blk_frozen BK281.out 7
                        have hfz33_8 := blk_frozen BK281.out 8
                        have hfz33_9 := blk_frozen BK281.out 9
                        go_upto_region 7 with (first | ((with_reducible refine gate_dst (N := 9) rfl ?_); refine box_event ?hg (N := 9) ?hd (cs := #[.int .u64 0, .int .i64 0, .int .i64 0, .int .i64 0]) (t := 38) ?hr ?_; (case hd => rfl); (case hg => rfl); (case hr => first | (go_simp; done) | (go_simp; rfl)); intro gb290 hg w34 hbox hb; have n0_ := Aside0.mk (blk_below (g := gb281) (o := .cells #[.int .i64 a0_0, .int .i64 a0_1, .int .i64 a0_2, .int .u64 a0_3, .int .i64 a0_4, .int .i64 a0_5, .int .i64 a0_6, .int .i64 a0_7, .int .u64 a0_8, .int .i64 a0_9] 40 (0, 0)) (by (with_reducible repeat (first | refine blk_drewN ?_ _ | refine blk_drew ?_ | refine blk_alloc ?_ _)); exact BK281.out) hb); have n1_ := Aside0.mk (blk_below (g := gb288) (o := .cells #[.int .u64 t282, .int .i64 t283, .int .i64 t284, .int .i64 t285] 38 (0, 0)) (by (with_reducible repeat (first | refine blk_drewN ?_ _ | refine blk_drew ?_ | refine blk_alloc ?_ _)); exact BK288.out) hb); have n2_ := Aside0.mk (below_step (by repeat (first | (with_reducible first | exact HB.out | apply below_alloc | apply pw_below_drewN | apply below_drew1 | refine below_set ?_ GE281.out | refine below_set ?_ GE288.out) | exact HB.out)) hb); have n3_ := Aside0.mk (hbox); have n4_ := Aside0.mk ((by rw [hg]; exact (below_size (by repeat (first | (with_reducible first | exact HB.out | apply below_alloc | apply pw_below_drewN | apply below_drew1 | refine below_set ?_ GE281.out | refine below_set ?_ GE288.out) | exact HB.out))) : w.heap.size ≤ gb290)); have n5_ := Aside0.mk ((by rw [hg]; exact (below_size (by repeat (first | (with_reducible first | exact HB.out | apply below_alloc | apply pw_below_drewN | apply below_drew1 | refine below_set ?_ GE281.out | refine below_set ?_ GE288.out) | exact HB.out))) : w.heap.size ≤ gb290)); have n6_ := Aside0.mk ((by rw [hg]; exact Nat.ne_of_lt (blk_lt (g := gb281) (o := .cells #[.int .i64 a0_0, .int .i64 a0_1, .int .i64 a0_2, .int .u64 a0_3, .int .i64 a0_4, .int .i64 a0_5, .int .i64 a0_6, .int .i64 a0_7, .int .u64 a0_8, .int .i64 a0_9] 40 (0, 0)) (by (with_reducible repeat (first | refine blk_drewN ?_ _ | refine blk_drew ?_ | refine blk_alloc ?_ _)); exact BK281.out)) : gb281 ≠ gb290)); have n7_ := Aside0.mk ((by rw [hg]; exact Nat.ne_of_gt (blk_lt (g := gb281) (o := .cells #[.int .i64 a0_0, .int .i64 a0_1, .int .i64 a0_2, .int .u64 a0_3, .int .i64 a0_4, .int .i64 a0_5, .int .i64 a0_6, .int .i64 a0_7, .int .u64 a0_8, .int .i64 a0_9] 40 (0, 0)) (by (with_reducible repeat (first | refine blk_drewN ?_ _ | refine blk_drew ?_ | refine blk_alloc ?_ _)); exact BK281.out)) : gb290 ≠ gb281)); have n8_ := Aside0.mk ((by rw [hg]; exact Nat.ne_of_lt (blk_lt (g := gb288) (o := .cells #[.int .u64 t282, .int .i64 t283, .int .i64 t284, .int .i64 t285] 38 (0, 0)) (by (with_reducible repeat (first | refine blk_drewN ?_ _ | refine blk_drew ?_ | refine blk_alloc ?_ _)); exact BK288.out)) : gb288 ≠ gb290)); have n9_ := Aside0.mk ((by rw [hg]; exact Nat.ne_of_gt (blk_lt (g := gb288) (o := .cells #[.int .u64 t282, .int .i64 t283, .int .i64 t284, .int .i64 t285] 38 (0, 0)) (by (with_reducible repeat (first | refine blk_drewN ?_ _ | refine blk_drew ?_ | refine blk_alloc ?_ _)); exact BK288.out)) : gb290 ≠ gb288)); clear BK281; clear BK288; clear HB; have BK281 := n0_; have BK288 := n1_; have HB := n2_; have BK290 := n3_; have GW290 := n4_; have GE290 := n5_; have NB281_290 := n6_; have NB290_281 := n7_; have NB288_290 := n8_; have NB290_288 := n9_; clear n0_ n1_ n2_ n3_ n4_ n5_ n6_ n7_ n8_ n9_; clear hb hbox hg; have hnb35 := NB290_281.out; have hnc35 := NB281_290.out; have hnb36 := NB290_288.out; have hnc36 := NB288_290.out; have hcz37_0 : w34.cell? ⟨gb290, 0, none⟩ = some (.int .u64 0) := (blk_cell BK290.out 0).trans rfl; have hcz37_1 : w34.cell? ⟨gb290, 1, none⟩ = some (.int .i64 0) := (blk_cell BK290.out 1).trans rfl; have hcz37_2 : w34.cell? ⟨gb290, 2, none⟩ = some (.int .i64 0) := (blk_cell BK290.out 2).trans rfl; have hcz37_3 : w34.cell? ⟨gb290, 3, none⟩ = some (.int .i64 0) := (blk_cell BK290.out 3).trans rfl; have hfz37_0 := blk_frozen BK290.out 0; have hfz37_1 := blk_frozen BK290.out 1; have hfz37_2 := blk_frozen BK290.out 2; have hfz37_3 := blk_frozen BK290.out 3; have hcz38_0 : w34.cell? ⟨gb281, 0, none⟩ = some (.int .i64 a0_0) := (blk_cell BK281.out 0).trans rfl; have hcz38_1 : w34.cell? ⟨gb281, 1, none⟩ = some (.int .i64 a0_1) := (blk_cell BK281.out 1).trans rfl; have hcz38_2 : w34.cell? ⟨gb281, 2, none⟩ = some (.int .i64 a0_2) := (blk_cell BK281.out 2).trans rfl; have hcz38_3 : w34.cell? ⟨gb281, 3, none⟩ = some (.int .u64 a0_3) := (blk_cell BK281.out 3).trans rfl; have hcz38_4 : w34.cell? ⟨gb281, 4, none⟩ = some (.int .i64 a0_4) := (blk_cell BK281.out 4).trans rfl; have hcz38_5 : w34.cell? ⟨gb281, 5, none⟩ = some (.int .i64 a0_5) := (blk_cell BK281.out 5).trans rfl; have hcz38_6 : w34.cell? ⟨gb281, 6, none⟩ = some (.int .i64 a0_6) := (blk_cell BK281.out 6).trans rfl; have hcz38_7 : w34.cell? ⟨gb281, 7, none⟩ = some (.int .i64 a0_7) := (blk_cell BK281.out 7).trans rfl; have hcz38_8 : w34.cell? ⟨gb281, 8, none⟩ = some (.int .u64 a0_8) := (blk_cell BK281.out 8).trans rfl; have hcz38_9 : w34.cell? ⟨gb281, 9, none⟩ = some (.int .i64 a0_9) := (blk_cell BK281.out 9).trans rfl; have hfz38_0 := blk_frozen BK281.out 0; have hfz38_1 := blk_frozen BK281.out 1; have hfz38_2 := blk_frozen BK281.out 2; have hfz38_3 := blk_frozen BK281.out 3; have hfz38_4 := blk_frozen BK281.out 4; have hfz38_5 := blk_frozen BK281.out 5; have hfz38_6 := blk_frozen BK281.out 6; have hfz38_7 := blk_frozen BK281.out 7; have hfz38_8 := blk_frozen BK281.out 8; have hfz38_9 := blk_frozen BK281.out 9))
                        refine wp_gen (fun W => W.heap[gb281]? = some (.cells #[.int .i64 a0_0, .int .i64 a0_1, .int .i64 a0_2, .int .u64 a0_3, .int .i64 a0_4, .int .i64 a0_5, .int .i64 a0_6, .int .i64 a0_7, .int .u64 a0_8, .int .i64 a0_9] 40 (0, 0)) ∧ W.heap[gb288]? = some (.cells #[.int .u64 t282, .int .i64 t283, .int .i64 t284, .int .i64 t285] 38 (0, 0)) ∧ W.heap[gb290]? = some (.cells #[.int .u64 a0_3, .int .i64 a0_4, .int .i64 (wrap64 (a0_5 + (wrap64 (a1)))), .int .i64 (wrap64 (a0_6 + (wrap64 (a1))))] 38 (0, 0)) ∧ Below w.heap.size w W) ⟨(by (with_reducible repeat (first | refine blk_drewN ?_ _ | refine blk_drew ?_ | refine blk_alloc ?_ _)); refine blk_far ?_ NB281_290.out _; (with_reducible repeat (first | refine blk_drewN ?_ _ | refine blk_drew ?_ | refine blk_alloc ?_ _)); refine blk_far ?_ NB281_290.out _; (with_reducible repeat (first | refine blk_drewN ?_ _ | refine blk_drew ?_ | refine blk_alloc ?_ _)); refine blk_far ?_ NB281_290.out _; (with_reducible repeat (first | refine blk_drewN ?_ _ | refine blk_drew ?_ | refine blk_alloc ?_ _)); refine blk_far ?_ NB281_290.out _; (with_reducible repeat (first | refine blk_drewN ?_ _ | refine blk_drew ?_ | refine blk_alloc ?_ _)); refine blk_far ?_ NB281_290.out _; (with_reducible repeat (first | refine blk_drewN ?_ _ | refine blk_drew ?_ | refine blk_alloc ?_ _)); refine blk_far ?_ NB281_290.out _; (with_reducible repeat (first | refine blk_drewN ?_ _ | refine blk_drew ?_ | refine blk_alloc ?_ _)); exact BK281.out), (by (with_reducible repeat (first | refine blk_drewN ?_ _ | refine blk_drew ?_ | refine blk_alloc ?_ _)); refine blk_far ?_ NB288_290.out _; (with_reducible repeat (first | refine blk_drewN ?_ _ | refine blk_drew ?_ | refine blk_alloc ?_ _)); refine blk_far ?_ NB288_290.out _; (with_reducible repeat (first | refine blk_drewN ?_ _ | refine blk_drew ?_ | refine blk_alloc ?_ _)); refine blk_far ?_ NB288_290.out _; (with_reducible repeat (first | refine blk_drewN ?_ _ | refine blk_drew ?_ | refine blk_alloc ?_ _)); refine blk_far ?_ NB288_290.out _; (with_reducible repeat (first | refine blk_drewN ?_ _ | refine blk_drew ?_ | refine blk_alloc ?_ _)); refine blk_far ?_ NB288_290.out _; (with_reducible repeat (first | refine blk_drewN ?_ _ | refine blk_drew ?_ | refine blk_alloc ?_ _)); refine blk_far ?_ NB288_290.out _; (with_reducible repeat (first | refine blk_drewN ?_ _ | refine blk_drew ?_ | refine blk_alloc ?_ _)); exact BK288.out), (by (with_reducible repeat (first | refine blk_drewN ?_ _ | refine blk_drew ?_ | refine blk_alloc ?_ _)); refine blk_put (cs := #[.int .u64 a0_3, .int .i64 a0_4, .int .i64 (wrap64 (a0_5 + (wrap64 (a1)))), .int .i64 a0_6]) ?_ 3 _ rfl; (with_reducible repeat (first | refine blk_drewN ?_ _ | refine blk_drew ?_ | refine blk_alloc ?_ _)); refine blk_put (cs := #[.int .u64 a0_3, .int .i64 a0_4, .int .i64 a0_5, .int .i64 a0_6]) ?_ 2 _ rfl; (with_reducible repeat (first | refine blk_drewN ?_ _ | refine blk_drew ?_ | refine blk_alloc ?_ _)); refine blk_put (cs := #[.int .u64 a0_3, .int .i64 a0_4, .int .i64 a0_5, .int .i64 0]) ?_ 3 _ rfl; (with_reducible repeat (first | refine blk_drewN ?_ _ | refine blk_drew ?_ | refine blk_alloc ?_ _)); refine blk_put (cs := #[.int .u64 a0_3, .int .i64 a0_4, .int .i64 0, .int .i64 0]) ?_ 2 _ rfl; (with_reducible repeat (first | refine blk_drewN ?_ _ | refine blk_drew ?_ | refine blk_alloc ?_ _)); refine blk_put (cs := #[.int .u64 a0_3, .int .i64 0, .int .i64 0, .int .i64 0]) ?_ 1 _ rfl; (with_reducible repeat (first | refine blk_drewN ?_ _ | refine blk_drew ?_ | refine blk_alloc ?_ _)); refine blk_put (cs := #[.int .u64 0, .int .i64 0, .int .i64 0, .int .i64 0]) ?_ 0 _ rfl; (with_reducible repeat (first | refine blk_drewN ?_ _ | refine blk_drew ?_ | refine blk_alloc ?_ _)); exact BK290.out), (by repeat (first | (with_reducible first | exact HB.out | apply below_alloc | apply pw_below_drewN | apply below_drew1 | refine below_set ?_ GE281.out | refine below_set ?_ GE288.out | refine below_set ?_ GE290.out) | exact HB.out))⟩ ?_
                        rintro wv ⟨hqgb281, hqgb288, hqgb290, hqb⟩
                        clear BK281 BK288 BK290 HB
                        have BK281 := Aside0.mk hqgb281
                        have BK288 := Aside0.mk hqgb288
                        have BK290 := Aside0.mk hqgb290
                        have HB := Aside0.mk hqb
                        clear hqgb281 hqgb288 hqgb290 hqb
                        have hcg1_gb281_0 : wv.cell? ⟨gb281, 0, none⟩ = some (.int .i64 a0_0) := (blk_cell BK281.out 0).trans rfl
                        have hcg1_gb281_1 : wv.cell? ⟨gb281, 1, none⟩ = some (.int .i64 a0_1) := (blk_cell BK281.out 1).trans rfl
                        have hcg1_gb281_2 : wv.cell? ⟨gb281, 2, none⟩ = some (.int .i64 a0_2) := (blk_cell BK281.out 2).trans rfl
                        have hcg1_gb281_3 : wv.cell? ⟨gb281, 3, none⟩ = some (.int .u64 a0_3) := (blk_cell BK281.out 3).trans rfl
                        have hcg1_gb281_4 : wv.cell? ⟨gb281, 4, none⟩ = some (.int .i64 a0_4) := (blk_cell BK281.out 4).trans rfl
                        have hcg1_gb281_5 : wv.cell? ⟨gb281, 5, none⟩ = some (.int .i64 a0_5) := (blk_cell BK281.out 5).trans rfl
                        have hcg1_gb281_6 : wv.cell? ⟨gb281, 6, none⟩ = some (.int .i64 a0_6) := (blk_cell BK281.out 6).trans rfl
                        have hcg1_gb281_7 : wv.cell? ⟨gb281, 7, none⟩ = some (.int .i64 a0_7) := (blk_cell BK281.out 7).trans rfl
                        have hcg1_gb281_8 : wv.cell? ⟨gb281, 8, none⟩ = some (.int .u64 a0_8) := (blk_cell BK281.out 8).trans rfl
                        have hcg1_gb281_9 : wv.cell? ⟨gb281, 9, none⟩ = some (.int .i64 a0_9) := (blk_cell BK281.out 9).trans rfl
                        have hfg1_gb281_0 := blk_frozen BK281.out 0
                        have hfg1_gb281_1 := blk_frozen BK281.out 1
                        have hfg1_gb281_2 := blk_frozen BK281.out 2
                        have hfg1_gb281_3 := blk_frozen BK281.out 3
                        have hfg1_gb281_4 := blk_frozen BK281.out 4
                        have hfg1_gb281_5 := blk_frozen BK281.out 5
                        have hfg1_gb281_6 := blk_frozen BK281.out 6
                        have hfg1_gb281_7 := blk_frozen BK281.out 7
                        have hfg1_gb281_8 := blk_frozen BK281.out 8
                        have hfg1_gb281_9 := blk_frozen BK281.out 9
                        have hcg1_gb288_0 : wv.cell? ⟨gb288, 0, none⟩ = some (.int .u64 t282) := (blk_cell BK288.out 0).trans rfl
                        have hcg1_gb288_1 : wv.cell? ⟨gb288, 1, none⟩ = some (.int .i64 t283) := (blk_cell BK288.out 1).trans rfl
                        have hcg1_gb288_2 : wv.cell? ⟨gb288, 2, none⟩ = some (.int .i64 t284) := (blk_cell BK288.out 2).trans rfl
                        have hcg1_gb288_3 : wv.cell? ⟨gb288, 3, none⟩ = some (.int .i64 t285) := (blk_cell BK288.out 3).trans rfl
                        have hfg1_gb288_0 := blk_frozen BK288.out 0
                        have hfg1_gb288_1 := blk_frozen BK288.out 1
                        have hfg1_gb288_2 := blk_frozen BK288.out 2
                        have hfg1_gb288_3 := blk_frozen BK288.out 3
                        have hcg1_gb290_0 : wv.cell? ⟨gb290, 0, none⟩ = some (.int .u64 a0_3) := (blk_cell BK290.out 0).trans rfl
                        have hcg1_gb290_1 : wv.cell? ⟨gb290, 1, none⟩ = some (.int .i64 a0_4) := (blk_cell BK290.out 1).trans rfl
                        have hcg1_gb290_2 : wv.cell? ⟨gb290, 2, none⟩ = some (.int .i64 (wrap64 (a0_5 + (wrap64 (a1))))) := (blk_cell BK290.out 2).trans rfl
                        have hcg1_gb290_3 : wv.cell? ⟨gb290, 3, none⟩ = some (.int .i64 (wrap64 (a0_6 + (wrap64 (a1))))) := (blk_cell BK290.out 3).trans rfl
                        have hfg1_gb290_0 := blk_frozen BK290.out 0
                        have hfg1_gb290_1 := blk_frozen BK290.out 1
                        have hfg1_gb290_2 := blk_frozen BK290.out 2
                        have hfg1_gb290_3 := blk_frozen BK290.out 3
                        clear hcz37_0 hcz37_1 hcz37_2 hcz37_3 hfz37_0 hfz37_1 hfz37_2 hfz37_3 hcz38_0 hcz38_1 hcz38_2 hcz38_3 hcz38_4 hcz38_5 hcz38_6 hcz38_7 hcz38_8 hcz38_9 hfz38_0 hfz38_1 hfz38_2 hfz38_3 hfz38_4 hfz38_5 hfz38_6 hfz38_7 hfz38_8 hfz38_9
                        go_upto_region 8 with (first | ((with_reducible refine gate_callee (f := 18) rfl ?_); refine goesL_ (some 74) rfl rfl Try.func18 (by kernel_rfl) rfl #[.agg #[.int .i64 a0_0, .int .i64 a0_1, .int .i64 a0_2], .agg #[.int .u64 a0_3, .int .i64 a0_4, .int .i64 (wrap64 (a0_5 + (wrap64 (a1)))), .int .i64 (wrap64 (a0_6 + (wrap64 (a1))))], .int .i64 a0_7, .int .u64 a0_8, .int .i64 (wrap64 (a0_9 + (wrap64 (a1))))] rfl (by (try simp only [List.map_toArray, List.map_cons, List.map_nil]); first | done | rfl | (simp only [List.length_drop, List.length_take]; rfl)) ?_; (with_reducible refine (vote_Ask.calls a0_0 a0_1 a0_2 a0_3 a0_4 (wrap64 (a0_5 + (wrap64 (a1)))) (wrap64 (a0_6 + (wrap64 (a1)))) a0_7 a0_8 (wrap64 (a0_9 + (wrap64 (a1)))) t291 t292 t293 t294 t295 t296 _ A23.out).mono ?_); rintro e w39 ⟨rfl, hb⟩; refine ⟨_, rfl, ?_⟩; have n0_ := Aside0.mk (blk_below (g := gb281) (o := .cells #[.int .i64 a0_0, .int .i64 a0_1, .int .i64 a0_2, .int .u64 a0_3, .int .i64 a0_4, .int .i64 a0_5, .int .i64 a0_6, .int .i64 a0_7, .int .u64 a0_8, .int .i64 a0_9] 40 (0, 0)) (by (with_reducible repeat (first | refine blk_drewN ?_ _ | refine blk_drew ?_ | refine blk_alloc ?_ _)); exact BK281.out) hb); have n1_ := Aside0.mk (blk_below (g := gb288) (o := .cells #[.int .u64 t282, .int .i64 t283, .int .i64 t284, .int .i64 t285] 38 (0, 0)) (by (with_reducible repeat (first | refine blk_drewN ?_ _ | refine blk_drew ?_ | refine blk_alloc ?_ _)); exact BK288.out) hb); have n2_ := Aside0.mk (blk_below (g := gb290) (o := .cells #[.int .u64 a0_3, .int .i64 a0_4, .int .i64 (wrap64 (a0_5 + (wrap64 (a1)))), .int .i64 (wrap64 (a0_6 + (wrap64 (a1))))] 38 (0, 0)) (by (with_reducible repeat (first | refine blk_drewN ?_ _ | refine blk_drew ?_ | refine blk_alloc ?_ _)); exact BK290.out) hb); have n3_ := Aside0.mk (below_step (by repeat (first | (with_reducible first | exact HB.out | apply below_alloc | apply pw_below_drewN | apply below_drew1 | refine below_set ?_ GE281.out | refine below_set ?_ GE288.out | refine below_set ?_ GE290.out) | exact HB.out)) hb); clear BK281; clear BK288; clear BK290; clear HB; have BK281 := n0_; have BK288 := n1_; have BK290 := n2_; have HB := n3_; clear n0_ n1_ n2_ n3_; (try clear hb); (try clear hb2); (try clear hk); (try clear hi)) | ((with_reducible refine gate_dst (N := 10) rfl ?_); refine box_event ?hg (N := 10) ?hd (cs := #[.int .u64 0, .int .i64 0, .int .i64 0, .int .i64 0]) (t := 38) ?hr ?_; (case hd => rfl); (case hg => rfl); (case hr => first | (go_simp; done) | (go_simp; rfl)); intro gb297 hg w40 hbox hb; have n0_ := Aside0.mk (blk_below (g := gb281) (o := .cells #[.int .i64 a0_0, .int .i64 a0_1, .int .i64 a0_2, .int .u64 a0_3, .int .i64 a0_4, .int .i64 a0_5, .int .i64 a0_6, .int .i64 a0_7, .int .u64 a0_8, .int .i64 a0_9] 40 (0, 0)) (by (with_reducible repeat (first | refine blk_drewN ?_ _ | refine blk_drew ?_ | refine blk_alloc ?_ _)); exact BK281.out) hb); have n1_ := Aside0.mk (blk_below (g := gb288) (o := .cells #[.int .u64 t282, .int .i64 t283, .int .i64 t284, .int .i64 t285] 38 (0, 0)) (by (with_reducible repeat (first | refine blk_drewN ?_ _ | refine blk_drew ?_ | refine blk_alloc ?_ _)); exact BK288.out) hb); have n2_ := Aside0.mk (blk_below (g := gb290) (o := .cells #[.int .u64 a0_3, .int .i64 a0_4, .int .i64 (wrap64 (a0_5 + (wrap64 (a1)))), .int .i64 (wrap64 (a0_6 + (wrap64 (a1))))] 38 (0, 0)) (by (with_reducible repeat (first | refine blk_drewN ?_ _ | refine blk_drew ?_ | refine blk_alloc ?_ _)); exact BK290.out) hb); have n3_ := Aside0.mk (below_step (by repeat (first | (with_reducible first | exact HB.out | apply below_alloc | apply pw_below_drewN | apply below_drew1 | refine below_set ?_ GE281.out | refine below_set ?_ GE288.out | refine below_set ?_ GE290.out) | exact HB.out)) hb); have n4_ := Aside0.mk (hbox); have n5_ := Aside0.mk ((by rw [hg]; exact (below_size (by repeat (first | (with_reducible first | exact HB.out | apply below_alloc | apply pw_below_drewN | apply below_drew1 | refine below_set ?_ GE281.out | refine below_set ?_ GE288.out | refine below_set ?_ GE290.out) | exact HB.out))) : w.heap.size ≤ gb297)); have n6_ := Aside0.mk ((by rw [hg]; exact (below_size (by repeat (first | (with_reducible first | exact HB.out | apply below_alloc | apply pw_below_drewN | apply below_drew1 | refine below_set ?_ GE281.out | refine below_set ?_ GE288.out | refine below_set ?_ GE290.out) | exact HB.out))) : w.heap.size ≤ gb297)); have n7_ := Aside0.mk ((by rw [hg]; exact Nat.ne_of_lt (blk_lt (g := gb281) (o := .cells #[.int .i64 a0_0, .int .i64 a0_1, .int .i64 a0_2, .int .u64 a0_3, .int .i64 a0_4, .int .i64 a0_5, .int .i64 a0_6, .int .i64 a0_7, .int .u64 a0_8, .int .i64 a0_9] 40 (0, 0)) (by (with_reducible repeat (first | refine blk_drewN ?_ _ | refine blk_drew ?_ | refine blk_alloc ?_ _)); exact BK281.out)) : gb281 ≠ gb297)); have n8_ := Aside0.mk ((by rw [hg]; exact Nat.ne_of_gt (blk_lt (g := gb281) (o := .cells #[.int .i64 a0_0, .int .i64 a0_1, .int .i64 a0_2, .int .u64 a0_3, .int .i64 a0_4, .int .i64 a0_5, .int .i64 a0_6, .int .i64 a0_7, .int .u64 a0_8, .int .i64 a0_9] 40 (0, 0)) (by (with_reducible repeat (first | refine blk_drewN ?_ _ | refine blk_drew ?_ | refine blk_alloc ?_ _)); exact BK281.out)) : gb297 ≠ gb281)); have n9_ := Aside0.mk ((by rw [hg]; exact Nat.ne_of_lt (blk_lt (g := gb288) (o := .cells #[.int .u64 t282, .int .i64 t283, .int .i64 t284, .int .i64 t285] 38 (0, 0)) (by (with_reducible repeat (first | refine blk_drewN ?_ _ | refine blk_drew ?_ | refine blk_alloc ?_ _)); exact BK288.out)) : gb288 ≠ gb297)); have n10_ := Aside0.mk ((by rw [hg]; exact Nat.ne_of_gt (blk_lt (g := gb288) (o := .cells #[.int .u64 t282, .int .i64 t283, .int .i64 t284, .int .i64 t285] 38 (0, 0)) (by (with_reducible repeat (first | refine blk_drewN ?_ _ | refine blk_drew ?_ | refine blk_alloc ?_ _)); exact BK288.out)) : gb297 ≠ gb288)); have n11_ := Aside0.mk ((by rw [hg]; exact Nat.ne_of_lt (blk_lt (g := gb290) (o := .cells #[.int .u64 a0_3, .int .i64 a0_4, .int .i64 (wrap64 (a0_5 + (wrap64 (a1)))), .int .i64 (wrap64 (a0_6 + (wrap64 (a1))))] 38 (0, 0)) (by (with_reducible repeat (first | refine blk_drewN ?_ _ | refine blk_drew ?_ | refine blk_alloc ?_ _)); exact BK290.out)) : gb290 ≠ gb297)); have n12_ := Aside0.mk ((by rw [hg]; exact Nat.ne_of_gt (blk_lt (g := gb290) (o := .cells #[.int .u64 a0_3, .int .i64 a0_4, .int .i64 (wrap64 (a0_5 + (wrap64 (a1)))), .int .i64 (wrap64 (a0_6 + (wrap64 (a1))))] 38 (0, 0)) (by (with_reducible repeat (first | refine blk_drewN ?_ _ | refine blk_drew ?_ | refine blk_alloc ?_ _)); exact BK290.out)) : gb297 ≠ gb290)); clear BK281; clear BK288; clear BK290; clear HB; have BK281 := n0_; have BK288 := n1_; have BK290 := n2_; have HB := n3_; have BK297 := n4_; have GW297 := n5_; have GE297 := n6_; have NB281_297 := n7_; have NB297_281 := n8_; have NB288_297 := n9_; have NB297_288 := n10_; have NB290_297 := n11_; have NB297_290 := n12_; clear n0_ n1_ n2_ n3_ n4_ n5_ n6_ n7_ n8_ n9_ n10_ n11_ n12_; clear hb hbox hg; have hnb41 := NB297_281.out; have hnc41 := NB281_297.out; have hnb42 := NB297_288.out; have hnc42 := NB288_297.out; have hnb43 := NB297_290.out; have hnc43 := NB290_297.out; have hcz44_0 : w40.cell? ⟨gb297, 0, none⟩ = some (.int .u64 0) := (blk_cell BK297.out 0).trans rfl; have hcz44_1 : w40.cell? ⟨gb297, 1, none⟩ = some (.int .i64 0) := (blk_cell BK297.out 1).trans rfl; have hcz44_2 : w40.cell? ⟨gb297, 2, none⟩ = some (.int .i64 0) := (blk_cell BK297.out 2).trans rfl; have hcz44_3 : w40.cell? ⟨gb297, 3, none⟩ = some (.int .i64 0) := (blk_cell BK297.out 3).trans rfl; have hfz44_0 := blk_frozen BK297.out 0; have hfz44_1 := blk_frozen BK297.out 1; have hfz44_2 := blk_frozen BK297.out 2; have hfz44_3 := blk_frozen BK297.out 3; have hcz45_0 : w40.cell? ⟨gb288, 0, none⟩ = some (.int .u64 t282) := (blk_cell BK288.out 0).trans rfl; have hcz45_1 : w40.cell? ⟨gb288, 1, none⟩ = some (.int .i64 t283) := (blk_cell BK288.out 1).trans rfl; have hcz45_2 : w40.cell? ⟨gb288, 2, none⟩ = some (.int .i64 t284) := (blk_cell BK288.out 2).trans rfl; have hcz45_3 : w40.cell? ⟨gb288, 3, none⟩ = some (.int .i64 t285) := (blk_cell BK288.out 3).trans rfl; have hfz45_0 := blk_frozen BK288.out 0; have hfz45_1 := blk_frozen BK288.out 1; have hfz45_2 := blk_frozen BK288.out 2; have hfz45_3 := blk_frozen BK288.out 3))
                        refine wp_gen (fun W => W.heap[gb281]? = some (.cells #[.int .i64 a0_0, .int .i64 a0_1, .int .i64 a0_2, .int .u64 a0_3, .int .i64 a0_4, .int .i64 a0_5, .int .i64 a0_6, .int .i64 a0_7, .int .u64 a0_8, .int .i64 a0_9] 40 (0, 0)) ∧ W.heap[gb288]? = some (.cells #[.int .u64 t282, .int .i64 t283, .int .i64 t284, .int .i64 t285] 38 (0, 0)) ∧ W.heap[gb290]? = some (.cells #[.int .u64 a0_3, .int .i64 a0_4, .int .i64 (wrap64 (a0_5 + (wrap64 (a1)))), .int .i64 (wrap64 (a0_6 + (wrap64 (a1))))] 38 (0, 0)) ∧ W.heap[gb297]? = some (.cells #[.int .u64 t291, .int .i64 t292, .int .i64 t293, .int .i64 t294] 38 (0, 0)) ∧ Below w.heap.size w W) ⟨(by (with_reducible repeat (first | refine blk_drewN ?_ _ | refine blk_drew ?_ | refine blk_alloc ?_ _)); refine blk_far ?_ NB281_297.out _; (with_reducible repeat (first | refine blk_drewN ?_ _ | refine blk_drew ?_ | refine blk_alloc ?_ _)); refine blk_far ?_ NB281_297.out _; (with_reducible repeat (first | refine blk_drewN ?_ _ | refine blk_drew ?_ | refine blk_alloc ?_ _)); refine blk_far ?_ NB281_297.out _; (with_reducible repeat (first | refine blk_drewN ?_ _ | refine blk_drew ?_ | refine blk_alloc ?_ _)); refine blk_far ?_ NB281_297.out _; (with_reducible repeat (first | refine blk_drewN ?_ _ | refine blk_drew ?_ | refine blk_alloc ?_ _)); exact BK281.out), (by (with_reducible repeat (first | refine blk_drewN ?_ _ | refine blk_drew ?_ | refine blk_alloc ?_ _)); refine blk_far ?_ NB288_297.out _; (with_reducible repeat (first | refine blk_drewN ?_ _ | refine blk_drew ?_ | refine blk_alloc ?_ _)); refine blk_far ?_ NB288_297.out _; (with_reducible repeat (first | refine blk_drewN ?_ _ | refine blk_drew ?_ | refine blk_alloc ?_ _)); refine blk_far ?_ NB288_297.out _; (with_reducible repeat (first | refine blk_drewN ?_ _ | refine blk_drew ?_ | refine blk_alloc ?_ _)); refine blk_far ?_ NB288_297.out _; (with_reducible repeat (first | refine blk_drewN ?_ _ | refine blk_drew ?_ | refine blk_alloc ?_ _)); exact BK288.out), (by (with_reducible repeat (first | refine blk_drewN ?_ _ | refine blk_drew ?_ | refine blk_alloc ?_ _)); refine blk_far ?_ NB290_297.out _; (with_reducible repeat (first | refine blk_drewN ?_ _ | refine blk_drew ?_ | refine blk_alloc ?_ _)); refine blk_far ?_ NB290_297.out _; (with_reducible repeat (first | refine blk_drewN ?_ _ | refine blk_drew ?_ | refine blk_alloc ?_ _)); refine blk_far ?_ NB290_297.out _; (with_reducible repeat (first | refine blk_drewN ?_ _ | refine blk_drew ?_ | refine blk_alloc ?_ _)); refine blk_far ?_ NB290_297.out _; (with_reducible repeat (first | refine blk_drewN ?_ _ | refine blk_drew ?_ | refine blk_alloc ?_ _)); exact BK290.out), (by (with_reducible repeat (first | refine blk_drewN ?_ _ | refine blk_drew ?_ | refine blk_alloc ?_ _)); refine blk_put (cs := #[.int .u64 t291, .int .i64 t292, .int .i64 t293, .int .i64 0]) ?_ 3 _ rfl; (with_reducible repeat (first | refine blk_drewN ?_ _ | refine blk_drew ?_ | refine blk_alloc ?_ _)); refine blk_put (cs := #[.int .u64 t291, .int .i64 t292, .int .i64 0, .int .i64 0]) ?_ 2 _ rfl; (with_reducible repeat (first | refine blk_drewN ?_ _ | refine blk_drew ?_ | refine blk_alloc ?_ _)); refine blk_put (cs := #[.int .u64 t291, .int .i64 0, .int .i64 0, .int .i64 0]) ?_ 1 _ rfl; (with_reducible repeat (first | refine blk_drewN ?_ _ | refine blk_drew ?_ | refine blk_alloc ?_ _)); refine blk_put (cs := #[.int .u64 0, .int .i64 0, .int .i64 0, .int .i64 0]) ?_ 0 _ rfl; (with_reducible repeat (first | refine blk_drewN ?_ _ | refine blk_drew ?_ | refine blk_alloc ?_ _)); exact BK297.out), (by repeat (first | (with_reducible first | exact HB.out | apply below_alloc | apply pw_below_drewN | apply below_drew1 | refine below_set ?_ GE281.out | refine below_set ?_ GE288.out | refine below_set ?_ GE290.out | refine below_set ?_ GE297.out) | exact HB.out))⟩ ?_
                        rintro wx ⟨hqgb281, hqgb288, hqgb290, hqgb297, hqb⟩
                        clear BK281 BK288 BK290 BK297 HB
                        have BK281 := Aside0.mk hqgb281
                        have BK288 := Aside0.mk hqgb288
                        have BK290 := Aside0.mk hqgb290
                        have BK297 := Aside0.mk hqgb297
                        have HB := Aside0.mk hqb
                        clear hqgb281 hqgb288 hqgb290 hqgb297 hqb
                        have hcg2_gb281_0 : wx.cell? ⟨gb281, 0, none⟩ = some (.int .i64 a0_0) := (blk_cell BK281.out 0).trans rfl
                        have hcg2_gb281_1 : wx.cell? ⟨gb281, 1, none⟩ = some (.int .i64 a0_1) := (blk_cell BK281.out 1).trans rfl
                        have hcg2_gb281_2 : wx.cell? ⟨gb281, 2, none⟩ = some (.int .i64 a0_2) := (blk_cell BK281.out 2).trans rfl
                        have hcg2_gb281_3 : wx.cell? ⟨gb281, 3, none⟩ = some (.int .u64 a0_3) := (blk_cell BK281.out 3).trans rfl
                        have hcg2_gb281_4 : wx.cell? ⟨gb281, 4, none⟩ = some (.int .i64 a0_4) := (blk_cell BK281.out 4).trans rfl
                        have hcg2_gb281_5 : wx.cell? ⟨gb281, 5, none⟩ = some (.int .i64 a0_5) := (blk_cell BK281.out 5).trans rfl
                        have hcg2_gb281_6 : wx.cell? ⟨gb281, 6, none⟩ = some (.int .i64 a0_6) := (blk_cell BK281.out 6).trans rfl
                        have hcg2_gb281_7 : wx.cell? ⟨gb281, 7, none⟩ = some (.int .i64 a0_7) := (blk_cell BK281.out 7).trans rfl
                        have hcg2_gb281_8 : wx.cell? ⟨gb281, 8, none⟩ = some (.int .u64 a0_8) := (blk_cell BK281.out 8).trans rfl
                        have hcg2_gb281_9 : wx.cell? ⟨gb281, 9, none⟩ = some (.int .i64 a0_9) := (blk_cell BK281.out 9).trans rfl
                        have hfg2_gb281_0 := blk_frozen BK281.out 0
                        have hfg2_gb281_1 := blk_frozen BK281.out 1
                        have hfg2_gb281_2 := blk_frozen BK281.out 2
                        have hfg2_gb281_3 := blk_frozen BK281.out 3
                        have hfg2_gb281_4 := blk_frozen BK281.out 4
                        have hfg2_gb281_5 := blk_frozen BK281.out 5
                        have hfg2_gb281_6 := blk_frozen BK281.out 6
                        have hfg2_gb281_7 := blk_frozen BK281.out 7
                        have hfg2_gb281_8 := blk_frozen BK281.out 8
                        have hfg2_gb281_9 := blk_frozen BK281.out 9
                        have hcg2_gb288_0 : wx.cell? ⟨gb288, 0, none⟩ = some (.int .u64 t282) := (blk_cell BK288.out 0).trans rfl
                        have hcg2_gb288_1 : wx.cell? ⟨gb288, 1, none⟩ = some (.int .i64 t283) := (blk_cell BK288.out 1).trans rfl
                        have hcg2_gb288_2 : wx.cell? ⟨gb288, 2, none⟩ = some (.int .i64 t284) := (blk_cell BK288.out 2).trans rfl
                        have hcg2_gb288_3 : wx.cell? ⟨gb288, 3, none⟩ = some (.int .i64 t285) := (blk_cell BK288.out 3).trans rfl
                        have hfg2_gb288_0 := blk_frozen BK288.out 0
                        have hfg2_gb288_1 := blk_frozen BK288.out 1
                        have hfg2_gb288_2 := blk_frozen BK288.out 2
                        have hfg2_gb288_3 := blk_frozen BK288.out 3
                        have hcg2_gb290_0 : wx.cell? ⟨gb290, 0, none⟩ = some (.int .u64 a0_3) := (blk_cell BK290.out 0).trans rfl
                        have hcg2_gb290_1 : wx.cell? ⟨gb290, 1, none⟩ = some (.int .i64 a0_4) := (blk_cell BK290.out 1).trans rfl
                        have hcg2_gb290_2 : wx.cell? ⟨gb290, 2, none⟩ = some (.int .i64 (wrap64 (a0_5 + (wrap64 (a1))))) := (blk_cell BK290.out 2).trans rfl
                        have hcg2_gb290_3 : wx.cell? ⟨gb290, 3, none⟩ = some (.int .i64 (wrap64 (a0_6 + (wrap64 (a1))))) := (blk_cell BK290.out 3).trans rfl
                        have hfg2_gb290_0 := blk_frozen BK290.out 0
                        have hfg2_gb290_1 := blk_frozen BK290.out 1
                        have hfg2_gb290_2 := blk_frozen BK290.out 2
                        have hfg2_gb290_3 := blk_frozen BK290.out 3
                        have hcg2_gb297_0 : wx.cell? ⟨gb297, 0, none⟩ = some (.int .u64 t291) := (blk_cell BK297.out 0).trans rfl
                        have hcg2_gb297_1 : wx.cell? ⟨gb297, 1, none⟩ = some (.int .i64 t292) := (blk_cell BK297.out 1).trans rfl
                        have hcg2_gb297_2 : wx.cell? ⟨gb297, 2, none⟩ = some (.int .i64 t293) := (blk_cell BK297.out 2).trans rfl
                        have hcg2_gb297_3 : wx.cell? ⟨gb297, 3, none⟩ = some (.int .i64 t294) := (blk_cell BK297.out 3).trans rfl
                        have hfg2_gb297_0 := blk_frozen BK297.out 0
                        have hfg2_gb297_1 := blk_frozen BK297.out 1
                        have hfg2_gb297_2 := blk_frozen BK297.out 2
                        have hfg2_gb297_3 := blk_frozen BK297.out 3
                        clear hcz44_0 hcz44_1 hcz44_2 hcz44_3 hfz44_0 hfz44_1 hfz44_2 hfz44_3 hcz45_0 hcz45_1 hcz45_2 hcz45_3 hfz45_0 hfz45_1 hfz45_2 hfz45_3 hcg1_gb281_0 hcg1_gb281_1 hcg1_gb281_2 hcg1_gb281_3 hcg1_gb281_4 hcg1_gb281_5 hcg1_gb281_6 hcg1_gb281_7 hcg1_gb281_8 hcg1_gb281_9 hfg1_gb281_0 hfg1_gb281_1 hfg1_gb281_2 hfg1_gb281_3 hfg1_gb281_4 hfg1_gb281_5 hfg1_gb281_6 hfg1_gb281_7 hfg1_gb281_8 hfg1_gb281_9 hcg1_gb288_0 hcg1_gb288_1 hcg1_gb288_2 hcg1_gb288_3 hfg1_gb288_0 hfg1_gb288_1 hfg1_gb288_2 hfg1_gb288_3 hcg1_gb290_0 hcg1_gb290_1 hcg1_gb290_2 hcg1_gb290_3 hfg1_gb290_0 hfg1_gb290_1 hfg1_gb290_2 hfg1_gb290_3
                        go_wp2_with (first | (go_at_call 16; (with_reducible refine (tattlelaw17_awakeT.calls  t298 _ A31.out).mono ?_); rintro e w46 ⟨rfl, hb⟩; have n0_ := Aside0.mk (blk_below (g := gb281) (o := .cells #[.int .i64 a0_0, .int .i64 a0_1, .int .i64 a0_2, .int .u64 a0_3, .int .i64 a0_4, .int .i64 a0_5, .int .i64 a0_6, .int .i64 a0_7, .int .u64 a0_8, .int .i64 a0_9] 40 (0, 0)) (by (with_reducible repeat (first | refine blk_drewN ?_ _ | refine blk_drew ?_ | refine blk_alloc ?_ _)); exact BK281.out) hb); have n1_ := Aside0.mk (blk_below (g := gb288) (o := .cells #[.int .u64 t282, .int .i64 t283, .int .i64 t284, .int .i64 t285] 38 (0, 0)) (by (with_reducible repeat (first | refine blk_drewN ?_ _ | refine blk_drew ?_ | refine blk_alloc ?_ _)); exact BK288.out) hb); have n2_ := Aside0.mk (blk_below (g := gb290) (o := .cells #[.int .u64 a0_3, .int .i64 a0_4, .int .i64 (wrap64 (a0_5 + (wrap64 (a1)))), .int .i64 (wrap64 (a0_6 + (wrap64 (a1))))] 38 (0, 0)) (by (with_reducible repeat (first | refine blk_drewN ?_ _ | refine blk_drew ?_ | refine blk_alloc ?_ _)); exact BK290.out) hb); have n3_ := Aside0.mk (blk_below (g := gb297) (o := .cells #[.int .u64 t291, .int .i64 t292, .int .i64 t293, .int .i64 t294] 38 (0, 0)) (by (with_reducible repeat (first | refine blk_drewN ?_ _ | refine blk_drew ?_ | refine blk_alloc ?_ _)); exact BK297.out) hb); have n4_ := Aside0.mk (below_step (by repeat (first | (with_reducible first | exact HB.out | apply below_alloc | apply pw_below_drewN | apply below_drew1 | refine below_set ?_ GE281.out | refine below_set ?_ GE288.out | refine below_set ?_ GE290.out | refine below_set ?_ GE297.out) | exact HB.out)) hb); clear BK281; clear BK288; clear BK290; clear BK297; clear HB; have BK281 := n0_; have BK288 := n1_; have BK290 := n2_; have BK297 := n3_; have HB := n4_; clear n0_ n1_ n2_ n3_ n4_; (try clear hb); (try clear hb2); (try clear hk); (try clear hi)))
                        go_ret
                        exact ⟨by first | rfl | (simp [errW_none, errW_some] <;> rfl) | (simp [*, errW_none, errW_some] <;> rfl), by repeat (first | (with_reducible first | exact HB.out | apply below_alloc | apply pw_below_drewN | apply below_drew1 | refine below_set ?_ GE281.out | refine below_set ?_ GE288.out | refine below_set ?_ GE290.out | refine below_set ?_ GE297.out) | exact HB.out)⟩
                    · rw [if_neg c30] at H
                      have c30b0 : (t294 == (wrap64 (t285 + (wrap64 (a1))))) = false := beq_eq_false_iff_ne.mpr c30
                      have c30b1 : (t294 != (wrap64 (t285 + (wrap64 (a1))))) = true := bne_iff_ne.mpr c30
                      as_aux_lemma =>
                        exact absurd ((Option.some.inj H).trans hrt.out) (by decide)
                  · rw [if_neg c29] at H
                    have c29b0 : (t293 == (wrap64 (t284 + (wrap64 (a1))))) = false := beq_eq_false_iff_ne.mpr c29
                    have c29b1 : (t293 != (wrap64 (t284 + (wrap64 (a1))))) = true := bne_iff_ne.mpr c29
                    as_aux_lemma =>
                      exact absurd ((Option.some.inj H).trans hrt.out) (by decide)
                · rw [if_neg c28] at H
                  have c28b0 : (t283 == t292) = false := beq_eq_false_iff_ne.mpr c28
                  have c28b1 : (t283 != t292) = true := bne_iff_ne.mpr c28
                  as_aux_lemma =>
                    exact absurd ((Option.some.inj H).trans hrt.out) (by decide)
              · rw [if_neg c27] at H
                have c27b0 : (t282 == t291) = false := beq_eq_false_iff_ne.mpr c27
                have c27b1 : (t282 != t291) = true := bne_iff_ne.mpr c27
                as_aux_lemma =>
                  exact absurd ((Option.some.inj H).trans hrt.out) (by decide)
            · replace c26 := Bool.eq_false_iff.mpr c26
              subst c26
              have H1 : (if (!(t282 == a0_3) || (!(t283 == a0_4) || (!(t284 == a0_5) || (!(t285 == a0_6))))) = true then (some false) else (if (!(t291 == a0_3) || (!(t292 == a0_4) || (!(t293 == (wrap64 (a0_5 + (wrap64 (a1))))) || (!(t294 == (wrap64 (a0_6 + (wrap64 (a1))))))))) = true then (some false) else (if t282 = t291 then (if t283 = t292 then (if t293 = (wrap64 (t284 + (wrap64 (a1)))) then (if t294 = (wrap64 (t285 + (wrap64 (a1)))) then ((tattlelaw17_awakeT.f).bind fun t299 => (some t299)) else (some false)) else (some false)) else (some false)) else (some false)))) = some r := by rw [if_neg (show ¬ (false = true) by decide)] at H; exact H
              clear H
              have H := H1
              clear H1
              by_cases c47 : (!(t282 == a0_3) || (!(t283 == a0_4) || (!(t284 == a0_5) || (!(t285 == a0_6))))) = true
              · rw [if_pos c47] at H
                have c47b0 : (!(t282 == a0_3) || (!(t283 == a0_4) || (!(t284 == a0_5) || (!(t285 == a0_6))))) = true := c47
                clear c47
                as_aux_lemma =>
                  exact absurd ((Option.some.inj H).trans hrt.out) (by decide)
              · rw [if_neg c47] at H
                have c47b0 : (!(t282 == a0_3) || (!(t283 == a0_4) || (!(t284 == a0_5) || (!(t285 == a0_6))))) = false := by simpa using c47
                clear c47
                by_cases c48 : (!(t291 == a0_3) || (!(t292 == a0_4) || (!(t293 == (wrap64 (a0_5 + (wrap64 (a1))))) || (!(t294 == (wrap64 (a0_6 + (wrap64 (a1))))))))) = true
                · rw [if_pos c48] at H
                  have c48b0 : (!(t291 == a0_3) || (!(t292 == a0_4) || (!(t293 == (wrap64 (a0_5 + (wrap64 (a1))))) || (!(t294 == (wrap64 (a0_6 + (wrap64 (a1))))))))) = true := c48
                  clear c48
                  as_aux_lemma =>
                    exact absurd ((Option.some.inj H).trans hrt.out) (by decide)
                · rw [if_neg c48] at H
                  have c48b0 : (!(t291 == a0_3) || (!(t292 == a0_4) || (!(t293 == (wrap64 (a0_5 + (wrap64 (a1))))) || (!(t294 == (wrap64 (a0_6 + (wrap64 (a1))))))))) = false := by simpa using c48
                  clear c48
                  by_cases c49 : t282 = t291
                  · rw [if_pos c49] at H
                    have c49b0 : (t282 == t291) = true := beq_iff_eq.mpr c49
                    have c49b1 : (t282 != t291) = false := bne_eq_false_iff_eq.mpr c49
                    clear c49
                    by_cases c50 : t283 = t292
                    · rw [if_pos c50] at H
                      have c50b0 : (t283 == t292) = true := beq_iff_eq.mpr c50
                      have c50b1 : (t283 != t292) = false := bne_eq_false_iff_eq.mpr c50
                      clear c50
                      by_cases c51 : t293 = (wrap64 (t284 + (wrap64 (a1))))
                      · rw [if_pos c51] at H
                        have c51b0 : (t293 == (wrap64 (t284 + (wrap64 (a1))))) = true := beq_iff_eq.mpr c51
                        have c51b1 : (t293 != (wrap64 (t284 + (wrap64 (a1))))) = false := bne_eq_false_iff_eq.mpr c51
                        clear c51
                        by_cases c52 : t294 = (wrap64 (t285 + (wrap64 (a1))))
                        · rw [if_pos c52] at H
                          have c52b0 : (t294 == (wrap64 (t285 + (wrap64 (a1))))) = true := beq_iff_eq.mpr c52
                          have c52b1 : (t294 != (wrap64 (t285 + (wrap64 (a1))))) = false := bne_eq_false_iff_eq.mpr c52
                          clear c52
                          replace H := Option.bind_eq_some_iff.mp H
                          obtain ⟨t299, A530, H⟩ := H
                          replace H : (some t299) = some r := H
                          have A53 := Aside0.mk A530
                          clear A530
                          as_aux_lemma =>
                            obtain rfl := Option.some.inj H
                            have hnb54 := NB281_288.out
                            have hnc54 := NB288_281.out
                            have hcz55_0 : wc.cell? ⟨gb281, 0, none⟩ = some (.int .i64 a0_0) := (blk_cell BK281.out 0).trans rfl
                            have hcz55_1 : wc.cell? ⟨gb281, 1, none⟩ = some (.int .i64 a0_1) := (blk_cell BK281.out 1).trans rfl
                            have hcz55_2 : wc.cell? ⟨gb281, 2, none⟩ = some (.int .i64 a0_2) := (blk_cell BK281.out 2).trans rfl
                            have hcz55_3 : wc.cell? ⟨gb281, 3, none⟩ = some (.int .u64 a0_3) := (blk_cell BK281.out 3).trans rfl
                            have hcz55_4 : wc.cell? ⟨gb281, 4, none⟩ = some (.int .i64 a0_4) := (blk_cell BK281.out 4).trans rfl
                            have hcz55_5 : wc.cell? ⟨gb281, 5, none⟩ = some (.int .i64 a0_5) := (blk_cell BK281.out 5).trans rfl
                            have hcz55_6 : wc.cell? ⟨gb281, 6, none⟩ = some (.int .i64 a0_6) := (blk_cell BK281.out 6).trans rfl
                            have hcz55_7 : wc.cell? ⟨gb281, 7, none⟩ = some (.int .i64 a0_7) := (blk_cell BK281.out 7).trans rfl
                            have hcz55_8 : wc.cell? ⟨gb281, 8, none⟩ = some (.int .u64 a0_8) := (blk_cell BK281.out 8).trans rfl
                            have hcz55_9 : wc.cell? ⟨gb281, 9, none⟩ = some (.int .i64 a0_9) := (blk_cell BK281.out 9).trans rfl
                            have hfz55_0 := blk_frozen BK281.out 0
                            have hfz55_1 := blk_frozen BK281.out 1
                            have hfz55_2 := blk_frozen BK281.out 2
                            have hfz55_3 := blk_frozen BK281.out 3
                            have hfz55_4 := blk_frozen BK281.out 4
                            have hfz55_5 := blk_frozen BK281.out 5
                            have hfz55_6 := blk_frozen BK281.out 6
                            have hfz55_7 := blk_frozen BK281.out 7
                            have hfz55_8 := blk_frozen BK281.out 8
                            have hfz55_9 := blk_frozen BK281.out 9
                            go_upto_region 7 with (first | ((with_reducible refine gate_dst (N := 9) rfl ?_); refine box_event ?hg (N := 9) ?hd (cs := #[.int .u64 0, .int .i64 0, .int .i64 0, .int .i64 0]) (t := 38) ?hr ?_; (case hd => rfl); (case hg => rfl); (case hr => first | (go_simp; done) | (go_simp; rfl)); intro gb290 hg w56 hbox hb; have n0_ := Aside0.mk (blk_below (g := gb281) (o := .cells #[.int .i64 a0_0, .int .i64 a0_1, .int .i64 a0_2, .int .u64 a0_3, .int .i64 a0_4, .int .i64 a0_5, .int .i64 a0_6, .int .i64 a0_7, .int .u64 a0_8, .int .i64 a0_9] 40 (0, 0)) (by (with_reducible repeat (first | refine blk_drewN ?_ _ | refine blk_drew ?_ | refine blk_alloc ?_ _)); exact BK281.out) hb); have n1_ := Aside0.mk (blk_below (g := gb288) (o := .cells #[.int .u64 t282, .int .i64 t283, .int .i64 t284, .int .i64 t285] 38 (0, 0)) (by (with_reducible repeat (first | refine blk_drewN ?_ _ | refine blk_drew ?_ | refine blk_alloc ?_ _)); exact BK288.out) hb); have n2_ := Aside0.mk (below_step (by repeat (first | (with_reducible first | exact HB.out | apply below_alloc | apply pw_below_drewN | apply below_drew1 | refine below_set ?_ GE281.out | refine below_set ?_ GE288.out) | exact HB.out)) hb); have n3_ := Aside0.mk (hbox); have n4_ := Aside0.mk ((by rw [hg]; exact (below_size (by repeat (first | (with_reducible first | exact HB.out | apply below_alloc | apply pw_below_drewN | apply below_drew1 | refine below_set ?_ GE281.out | refine below_set ?_ GE288.out) | exact HB.out))) : w.heap.size ≤ gb290)); have n5_ := Aside0.mk ((by rw [hg]; exact (below_size (by repeat (first | (with_reducible first | exact HB.out | apply below_alloc | apply pw_below_drewN | apply below_drew1 | refine below_set ?_ GE281.out | refine below_set ?_ GE288.out) | exact HB.out))) : w.heap.size ≤ gb290)); have n6_ := Aside0.mk ((by rw [hg]; exact Nat.ne_of_lt (blk_lt (g := gb281) (o := .cells #[.int .i64 a0_0, .int .i64 a0_1, .int .i64 a0_2, .int .u64 a0_3, .int .i64 a0_4, .int .i64 a0_5, .int .i64 a0_6, .int .i64 a0_7, .int .u64 a0_8, .int .i64 a0_9] 40 (0, 0)) (by (with_reducible repeat (first | refine blk_drewN ?_ _ | refine blk_drew ?_ | refine blk_alloc ?_ _)); exact BK281.out)) : gb281 ≠ gb290)); have n7_ := Aside0.mk ((by rw [hg]; exact Nat.ne_of_gt (blk_lt (g := gb281) (o := .cells #[.int .i64 a0_0, .int .i64 a0_1, .int .i64 a0_2, .int .u64 a0_3, .int .i64 a0_4, .int .i64 a0_5, .int .i64 a0_6, .int .i64 a0_7, .int .u64 a0_8, .int .i64 a0_9] 40 (0, 0)) (by (with_reducible repeat (first | refine blk_drewN ?_ _ | refine blk_drew ?_ | refine blk_alloc ?_ _)); exact BK281.out)) : gb290 ≠ gb281)); have n8_ := Aside0.mk ((by rw [hg]; exact Nat.ne_of_lt (blk_lt (g := gb288) (o := .cells #[.int .u64 t282, .int .i64 t283, .int .i64 t284, .int .i64 t285] 38 (0, 0)) (by (with_reducible repeat (first | refine blk_drewN ?_ _ | refine blk_drew ?_ | refine blk_alloc ?_ _)); exact BK288.out)) : gb288 ≠ gb290)); have n9_ := Aside0.mk ((by rw [hg]; exact Nat.ne_of_gt (blk_lt (g := gb288) (o := .cells #[.int .u64 t282, .int .i64 t283, .int .i64 t284, .int .i64 t285] 38 (0, 0)) (by (with_reducible repeat (first | refine blk_drewN ?_ _ | refine blk_drew ?_ | refine blk_alloc ?_ _)); exact BK288.out)) : gb290 ≠ gb288)); clear BK281; clear BK288; clear HB; have BK281 := n0_; have BK288 := n1_; have HB := n2_; have BK290 := n3_; have GW290 := n4_; have GE290 := n5_; have NB281_290 := n6_; have NB290_281 := n7_; have NB288_290 := n8_; have NB290_288 := n9_; clear n0_ n1_ n2_ n3_ n4_ n5_ n6_ n7_ n8_ n9_; clear hb hbox hg; have hnb57 := NB290_281.out; have hnc57 := NB281_290.out; have hnb58 := NB290_288.out; have hnc58 := NB288_290.out; have hcz59_0 : w56.cell? ⟨gb290, 0, none⟩ = some (.int .u64 0) := (blk_cell BK290.out 0).trans rfl; have hcz59_1 : w56.cell? ⟨gb290, 1, none⟩ = some (.int .i64 0) := (blk_cell BK290.out 1).trans rfl; have hcz59_2 : w56.cell? ⟨gb290, 2, none⟩ = some (.int .i64 0) := (blk_cell BK290.out 2).trans rfl; have hcz59_3 : w56.cell? ⟨gb290, 3, none⟩ = some (.int .i64 0) := (blk_cell BK290.out 3).trans rfl; have hfz59_0 := blk_frozen BK290.out 0; have hfz59_1 := blk_frozen BK290.out 1; have hfz59_2 := blk_frozen BK290.out 2; have hfz59_3 := blk_frozen BK290.out 3; have hcz60_0 : w56.cell? ⟨gb281, 0, none⟩ = some (.int .i64 a0_0) := (blk_cell BK281.out 0).trans rfl; have hcz60_1 : w56.cell? ⟨gb281, 1, none⟩ = some (.int .i64 a0_1) := (blk_cell BK281.out 1).trans rfl; have hcz60_2 : w56.cell? ⟨gb281, 2, none⟩ = some (.int .i64 a0_2) := (blk_cell BK281.out 2).trans rfl; have hcz60_3 : w56.cell? ⟨gb281, 3, none⟩ = some (.int .u64 a0_3) := (blk_cell BK281.out 3).trans rfl; have hcz60_4 : w56.cell? ⟨gb281, 4, none⟩ = some (.int .i64 a0_4) := (blk_cell BK281.out 4).trans rfl; have hcz60_5 : w56.cell? ⟨gb281, 5, none⟩ = some (.int .i64 a0_5) := (blk_cell BK281.out 5).trans rfl; have hcz60_6 : w56.cell? ⟨gb281, 6, none⟩ = some (.int .i64 a0_6) := (blk_cell BK281.out 6).trans rfl; have hcz60_7 : w56.cell? ⟨gb281, 7, none⟩ = some (.int .i64 a0_7) := (blk_cell BK281.out 7).trans rfl; have hcz60_8 : w56.cell? ⟨gb281, 8, none⟩ = some (.int .u64 a0_8) := (blk_cell BK281.out 8).trans rfl; have hcz60_9 : w56.cell? ⟨gb281, 9, none⟩ = some (.int .i64 a0_9) := (blk_cell BK281.out 9).trans rfl; have hfz60_0 := blk_frozen BK281.out 0; have hfz60_1 := blk_frozen BK281.out 1; have hfz60_2 := blk_frozen BK281.out 2; have hfz60_3 := blk_frozen BK281.out 3; have hfz60_4 := blk_frozen BK281.out 4; have hfz60_5 := blk_frozen BK281.out 5; have hfz60_6 := blk_frozen BK281.out 6; have hfz60_7 := blk_frozen BK281.out 7; have hfz60_8 := blk_frozen BK281.out 8; have hfz60_9 := blk_frozen BK281.out 9))
                            refine wp_gen (fun W => W.heap[gb281]? = some (.cells #[.int .i64 a0_0, .int .i64 a0_1, .int .i64 a0_2, .int .u64 a0_3, .int .i64 a0_4, .int .i64 a0_5, .int .i64 a0_6, .int .i64 a0_7, .int .u64 a0_8, .int .i64 a0_9] 40 (0, 0)) ∧ W.heap[gb288]? = some (.cells #[.int .u64 t282, .int .i64 t283, .int .i64 t284, .int .i64 t285] 38 (0, 0)) ∧ W.heap[gb290]? = some (.cells #[.int .u64 a0_3, .int .i64 a0_4, .int .i64 (wrap64 (a0_5 + (wrap64 (a1)))), .int .i64 (wrap64 (a0_6 + (wrap64 (a1))))] 38 (0, 0)) ∧ Below w.heap.size w W) ⟨(by (with_reducible repeat (first | refine blk_drewN ?_ _ | refine blk_drew ?_ | refine blk_alloc ?_ _)); refine blk_far ?_ NB281_290.out _; (with_reducible repeat (first | refine blk_drewN ?_ _ | refine blk_drew ?_ | refine blk_alloc ?_ _)); refine blk_far ?_ NB281_290.out _; (with_reducible repeat (first | refine blk_drewN ?_ _ | refine blk_drew ?_ | refine blk_alloc ?_ _)); refine blk_far ?_ NB281_290.out _; (with_reducible repeat (first | refine blk_drewN ?_ _ | refine blk_drew ?_ | refine blk_alloc ?_ _)); refine blk_far ?_ NB281_290.out _; (with_reducible repeat (first | refine blk_drewN ?_ _ | refine blk_drew ?_ | refine blk_alloc ?_ _)); refine blk_far ?_ NB281_290.out _; (with_reducible repeat (first | refine blk_drewN ?_ _ | refine blk_drew ?_ | refine blk_alloc ?_ _)); refine blk_far ?_ NB281_290.out _; (with_reducible repeat (first | refine blk_drewN ?_ _ | refine blk_drew ?_ | refine blk_alloc ?_ _)); exact BK281.out), (by (with_reducible repeat (first | refine blk_drewN ?_ _ | refine blk_drew ?_ | refine blk_alloc ?_ _)); refine blk_far ?_ NB288_290.out _; (with_reducible repeat (first | refine blk_drewN ?_ _ | refine blk_drew ?_ | refine blk_alloc ?_ _)); refine blk_far ?_ NB288_290.out _; (with_reducible repeat (first | refine blk_drewN ?_ _ | refine blk_drew ?_ | refine blk_alloc ?_ _)); refine blk_far ?_ NB288_290.out _; (with_reducible repeat (first | refine blk_drewN ?_ _ | refine blk_drew ?_ | refine blk_alloc ?_ _)); refine blk_far ?_ NB288_290.out _; (with_reducible repeat (first | refine blk_drewN ?_ _ | refine blk_drew ?_ | refine blk_alloc ?_ _)); refine blk_far ?_ NB288_290.out _; (with_reducible repeat (first | refine blk_drewN ?_ _ | refine blk_drew ?_ | refine blk_alloc ?_ _)); refine blk_far ?_ NB288_290.out _; (with_reducible repeat (first | refine blk_drewN ?_ _ | refine blk_drew ?_ | refine blk_alloc ?_ _)); exact BK288.out), (by (with_reducible repeat (first | refine blk_drewN ?_ _ | refine blk_drew ?_ | refine blk_alloc ?_ _)); refine blk_put (cs := #[.int .u64 a0_3, .int .i64 a0_4, .int .i64 (wrap64 (a0_5 + (wrap64 (a1)))), .int .i64 a0_6]) ?_ 3 _ rfl; (with_reducible repeat (first | refine blk_drewN ?_ _ | refine blk_drew ?_ | refine blk_alloc ?_ _)); refine blk_put (cs := #[.int .u64 a0_3, .int .i64 a0_4, .int .i64 a0_5, .int .i64 a0_6]) ?_ 2 _ rfl; (with_reducible repeat (first | refine blk_drewN ?_ _ | refine blk_drew ?_ | refine blk_alloc ?_ _)); refine blk_put (cs := #[.int .u64 a0_3, .int .i64 a0_4, .int .i64 a0_5, .int .i64 0]) ?_ 3 _ rfl; (with_reducible repeat (first | refine blk_drewN ?_ _ | refine blk_drew ?_ | refine blk_alloc ?_ _)); refine blk_put (cs := #[.int .u64 a0_3, .int .i64 a0_4, .int .i64 0, .int .i64 0]) ?_ 2 _ rfl; (with_reducible repeat (first | refine blk_drewN ?_ _ | refine blk_drew ?_ | refine blk_alloc ?_ _)); refine blk_put (cs := #[.int .u64 a0_3, .int .i64 0, .int .i64 0, .int .i64 0]) ?_ 1 _ rfl; (with_reducible repeat (first | refine blk_drewN ?_ _ | refine blk_drew ?_ | refine blk_alloc ?_ _)); refine blk_put (cs := #[.int .u64 0, .int .i64 0, .int .i64 0, .int .i64 0]) ?_ 0 _ rfl; (with_reducible repeat (first | refine blk_drewN ?_ _ | refine blk_drew ?_ | refine blk_alloc ?_ _)); exact BK290.out), (by repeat (first | (with_reducible first | exact HB.out | apply below_alloc | apply pw_below_drewN | apply below_drew1 | refine below_set ?_ GE281.out | refine below_set ?_ GE288.out | refine below_set ?_ GE290.out) | exact HB.out))⟩ ?_
                            rintro wv ⟨hqgb281, hqgb288, hqgb290, hqb⟩
                            clear BK281 BK288 BK290 HB
                            have BK281 := Aside0.mk hqgb281
                            have BK288 := Aside0.mk hqgb288
                            have BK290 := Aside0.mk hqgb290
                            have HB := Aside0.mk hqb
                            clear hqgb281 hqgb288 hqgb290 hqb
                            have hcg1_gb281_0 : wv.cell? ⟨gb281, 0, none⟩ = some (.int .i64 a0_0) := (blk_cell BK281.out 0).trans rfl
                            have hcg1_gb281_1 : wv.cell? ⟨gb281, 1, none⟩ = some (.int .i64 a0_1) := (blk_cell BK281.out 1).trans rfl
                            have hcg1_gb281_2 : wv.cell? ⟨gb281, 2, none⟩ = some (.int .i64 a0_2) := (blk_cell BK281.out 2).trans rfl
                            have hcg1_gb281_3 : wv.cell? ⟨gb281, 3, none⟩ = some (.int .u64 a0_3) := (blk_cell BK281.out 3).trans rfl
                            have hcg1_gb281_4 : wv.cell? ⟨gb281, 4, none⟩ = some (.int .i64 a0_4) := (blk_cell BK281.out 4).trans rfl
                            have hcg1_gb281_5 : wv.cell? ⟨gb281, 5, none⟩ = some (.int .i64 a0_5) := (blk_cell BK281.out 5).trans rfl
                            have hcg1_gb281_6 : wv.cell? ⟨gb281, 6, none⟩ = some (.int .i64 a0_6) := (blk_cell BK281.out 6).trans rfl
                            have hcg1_gb281_7 : wv.cell? ⟨gb281, 7, none⟩ = some (.int .i64 a0_7) := (blk_cell BK281.out 7).trans rfl
                            have hcg1_gb281_8 : wv.cell? ⟨gb281, 8, none⟩ = some (.int .u64 a0_8) := (blk_cell BK281.out 8).trans rfl
                            have hcg1_gb281_9 : wv.cell? ⟨gb281, 9, none⟩ = some (.int .i64 a0_9) := (blk_cell BK281.out 9).trans rfl
                            have hfg1_gb281_0 := blk_frozen BK281.out 0
                            have hfg1_gb281_1 := blk_frozen BK281.out 1
                            have hfg1_gb281_2 := blk_frozen BK281.out 2
                            have hfg1_gb281_3 := blk_frozen BK281.out 3
                            have hfg1_gb281_4 := blk_frozen BK281.out 4
                            have hfg1_gb281_5 := blk_frozen BK281.out 5
                            have hfg1_gb281_6 := blk_frozen BK281.out 6
                            have hfg1_gb281_7 := blk_frozen BK281.out 7
                            have hfg1_gb281_8 := blk_frozen BK281.out 8
                            have hfg1_gb281_9 := blk_frozen BK281.out 9
                            have hcg1_gb288_0 : wv.cell? ⟨gb288, 0, none⟩ = some (.int .u64 t282) := (blk_cell BK288.out 0).trans rfl
                            have hcg1_gb288_1 : wv.cell? ⟨gb288, 1, none⟩ = some (.int .i64 t283) := (blk_cell BK288.out 1).trans rfl
                            have hcg1_gb288_2 : wv.cell? ⟨gb288, 2, none⟩ = some (.int .i64 t284) := (blk_cell BK288.out 2).trans rfl
                            have hcg1_gb288_3 : wv.cell? ⟨gb288, 3, none⟩ = some (.int .i64 t285) := (blk_cell BK288.out 3).trans rfl
                            have hfg1_gb288_0 := blk_frozen BK288.out 0
                            have hfg1_gb288_1 := blk_frozen BK288.out 1
                            have hfg1_gb288_2 := blk_frozen BK288.out 2
                            have hfg1_gb288_3 := blk_frozen BK288.out 3
                            have hcg1_gb290_0 : wv.cell? ⟨gb290, 0, none⟩ = some (.int .u64 a0_3) := (blk_cell BK290.out 0).trans rfl
                            have hcg1_gb290_1 : wv.cell? ⟨gb290, 1, none⟩ = some (.int .i64 a0_4) := (blk_cell BK290.out 1).trans rfl
                            have hcg1_gb290_2 : wv.cell? ⟨gb290, 2, none⟩ = some (.int .i64 (wrap64 (a0_5 + (wrap64 (a1))))) := (blk_cell BK290.out 2).trans rfl
                            have hcg1_gb290_3 : wv.cell? ⟨gb290, 3, none⟩ = some (.int .i64 (wrap64 (a0_6 + (wrap64 (a1))))) := (blk_cell BK290.out 3).trans rfl
                            have hfg1_gb290_0 := blk_frozen BK290.out 0
                            have hfg1_gb290_1 := blk_frozen BK290.out 1
                            have hfg1_gb290_2 := blk_frozen BK290.out 2
                            have hfg1_gb290_3 := blk_frozen BK290.out 3
                            clear hcz59_0 hcz59_1 hcz59_2 hcz59_3 hfz59_0 hfz59_1 hfz59_2 hfz59_3 hcz60_0 hcz60_1 hcz60_2 hcz60_3 hcz60_4 hcz60_5 hcz60_6 hcz60_7 hcz60_8 hcz60_9 hfz60_0 hfz60_1 hfz60_2 hfz60_3 hfz60_4 hfz60_5 hfz60_6 hfz60_7 hfz60_8 hfz60_9
                            go_upto_region 8 with (first | ((with_reducible refine gate_callee (f := 18) rfl ?_); refine goesL_ (some 74) rfl rfl Try.func18 (by kernel_rfl) rfl #[.agg #[.int .i64 a0_0, .int .i64 a0_1, .int .i64 a0_2], .agg #[.int .u64 a0_3, .int .i64 a0_4, .int .i64 (wrap64 (a0_5 + (wrap64 (a1)))), .int .i64 (wrap64 (a0_6 + (wrap64 (a1))))], .int .i64 a0_7, .int .u64 a0_8, .int .i64 (wrap64 (a0_9 + (wrap64 (a1))))] rfl (by (try simp only [List.map_toArray, List.map_cons, List.map_nil]); first | done | rfl | (simp only [List.length_drop, List.length_take]; rfl)) ?_; (with_reducible refine (vote_Ask.calls a0_0 a0_1 a0_2 a0_3 a0_4 (wrap64 (a0_5 + (wrap64 (a1)))) (wrap64 (a0_6 + (wrap64 (a1)))) a0_7 a0_8 (wrap64 (a0_9 + (wrap64 (a1)))) t291 t292 t293 t294 t295 t296 _ A23.out).mono ?_); rintro e w61 ⟨rfl, hb⟩; refine ⟨_, rfl, ?_⟩; have n0_ := Aside0.mk (blk_below (g := gb281) (o := .cells #[.int .i64 a0_0, .int .i64 a0_1, .int .i64 a0_2, .int .u64 a0_3, .int .i64 a0_4, .int .i64 a0_5, .int .i64 a0_6, .int .i64 a0_7, .int .u64 a0_8, .int .i64 a0_9] 40 (0, 0)) (by (with_reducible repeat (first | refine blk_drewN ?_ _ | refine blk_drew ?_ | refine blk_alloc ?_ _)); exact BK281.out) hb); have n1_ := Aside0.mk (blk_below (g := gb288) (o := .cells #[.int .u64 t282, .int .i64 t283, .int .i64 t284, .int .i64 t285] 38 (0, 0)) (by (with_reducible repeat (first | refine blk_drewN ?_ _ | refine blk_drew ?_ | refine blk_alloc ?_ _)); exact BK288.out) hb); have n2_ := Aside0.mk (blk_below (g := gb290) (o := .cells #[.int .u64 a0_3, .int .i64 a0_4, .int .i64 (wrap64 (a0_5 + (wrap64 (a1)))), .int .i64 (wrap64 (a0_6 + (wrap64 (a1))))] 38 (0, 0)) (by (with_reducible repeat (first | refine blk_drewN ?_ _ | refine blk_drew ?_ | refine blk_alloc ?_ _)); exact BK290.out) hb); have n3_ := Aside0.mk (below_step (by repeat (first | (with_reducible first | exact HB.out | apply below_alloc | apply pw_below_drewN | apply below_drew1 | refine below_set ?_ GE281.out | refine below_set ?_ GE288.out | refine below_set ?_ GE290.out) | exact HB.out)) hb); clear BK281; clear BK288; clear BK290; clear HB; have BK281 := n0_; have BK288 := n1_; have BK290 := n2_; have HB := n3_; clear n0_ n1_ n2_ n3_; (try clear hb); (try clear hb2); (try clear hk); (try clear hi)) | ((with_reducible refine gate_dst (N := 10) rfl ?_); refine box_event ?hg (N := 10) ?hd (cs := #[.int .u64 0, .int .i64 0, .int .i64 0, .int .i64 0]) (t := 38) ?hr ?_; (case hd => rfl); (case hg => rfl); (case hr => first | (go_simp; done) | (go_simp; rfl)); intro gb297 hg w62 hbox hb; have n0_ := Aside0.mk (blk_below (g := gb281) (o := .cells #[.int .i64 a0_0, .int .i64 a0_1, .int .i64 a0_2, .int .u64 a0_3, .int .i64 a0_4, .int .i64 a0_5, .int .i64 a0_6, .int .i64 a0_7, .int .u64 a0_8, .int .i64 a0_9] 40 (0, 0)) (by (with_reducible repeat (first | refine blk_drewN ?_ _ | refine blk_drew ?_ | refine blk_alloc ?_ _)); exact BK281.out) hb); have n1_ := Aside0.mk (blk_below (g := gb288) (o := .cells #[.int .u64 t282, .int .i64 t283, .int .i64 t284, .int .i64 t285] 38 (0, 0)) (by (with_reducible repeat (first | refine blk_drewN ?_ _ | refine blk_drew ?_ | refine blk_alloc ?_ _)); exact BK288.out) hb); have n2_ := Aside0.mk (blk_below (g := gb290) (o := .cells #[.int .u64 a0_3, .int .i64 a0_4, .int .i64 (wrap64 (a0_5 + (wrap64 (a1)))), .int .i64 (wrap64 (a0_6 + (wrap64 (a1))))] 38 (0, 0)) (by (with_reducible repeat (first | refine blk_drewN ?_ _ | refine blk_drew ?_ | refine blk_alloc ?_ _)); exact BK290.out) hb); have n3_ := Aside0.mk (below_step (by repeat (first | (with_reducible first | exact HB.out | apply below_alloc | apply pw_below_drewN | apply below_drew1 | refine below_set ?_ GE281.out | refine below_set ?_ GE288.out | refine below_set ?_ GE290.out) | exact HB.out)) hb); have n4_ := Aside0.mk (hbox); have n5_ := Aside0.mk ((by rw [hg]; exact (below_size (by repeat (first | (with_reducible first | exact HB.out | apply below_alloc | apply pw_below_drewN | apply below_drew1 | refine below_set ?_ GE281.out | refine below_set ?_ GE288.out | refine below_set ?_ GE290.out) | exact HB.out))) : w.heap.size ≤ gb297)); have n6_ := Aside0.mk ((by rw [hg]; exact (below_size (by repeat (first | (with_reducible first | exact HB.out | apply below_alloc | apply pw_below_drewN | apply below_drew1 | refine below_set ?_ GE281.out | refine below_set ?_ GE288.out | refine below_set ?_ GE290.out) | exact HB.out))) : w.heap.size ≤ gb297)); have n7_ := Aside0.mk ((by rw [hg]; exact Nat.ne_of_lt (blk_lt (g := gb281) (o := .cells #[.int .i64 a0_0, .int .i64 a0_1, .int .i64 a0_2, .int .u64 a0_3, .int .i64 a0_4, .int .i64 a0_5, .int .i64 a0_6, .int .i64 a0_7, .int .u64 a0_8, .int .i64 a0_9] 40 (0, 0)) (by (with_reducible repeat (first | refine blk_drewN ?_ _ | refine blk_drew ?_ | refine blk_alloc ?_ _)); exact BK281.out)) : gb281 ≠ gb297)); have n8_ := Aside0.mk ((by rw [hg]; exact Nat.ne_of_gt (blk_lt (g := gb281) (o := .cells #[.int .i64 a0_0, .int .i64 a0_1, .int .i64 a0_2, .int .u64 a0_3, .int .i64 a0_4, .int .i64 a0_5, .int .i64 a0_6, .int .i64 a0_7, .int .u64 a0_8, .int .i64 a0_9] 40 (0, 0)) (by (with_reducible repeat (first | refine blk_drewN ?_ _ | refine blk_drew ?_ | refine blk_alloc ?_ _)); exact BK281.out)) : gb297 ≠ gb281)); have n9_ := Aside0.mk ((by rw [hg]; exact Nat.ne_of_lt (blk_lt (g := gb288) (o := .cells #[.int .u64 t282, .int .i64 t283, .int .i64 t284, .int .i64 t285] 38 (0, 0)) (by (with_reducible repeat (first | refine blk_drewN ?_ _ | refine blk_drew ?_ | refine blk_alloc ?_ _)); exact BK288.out)) : gb288 ≠ gb297)); have n10_ := Aside0.mk ((by rw [hg]; exact Nat.ne_of_gt (blk_lt (g := gb288) (o := .cells #[.int .u64 t282, .int .i64 t283, .int .i64 t284, .int .i64 t285] 38 (0, 0)) (by (with_reducible repeat (first | refine blk_drewN ?_ _ | refine blk_drew ?_ | refine blk_alloc ?_ _)); exact BK288.out)) : gb297 ≠ gb288)); have n11_ := Aside0.mk ((by rw [hg]; exact Nat.ne_of_lt (blk_lt (g := gb290) (o := .cells #[.int .u64 a0_3, .int .i64 a0_4, .int .i64 (wrap64 (a0_5 + (wrap64 (a1)))), .int .i64 (wrap64 (a0_6 + (wrap64 (a1))))] 38 (0, 0)) (by (with_reducible repeat (first | refine blk_drewN ?_ _ | refine blk_drew ?_ | refine blk_alloc ?_ _)); exact BK290.out)) : gb290 ≠ gb297)); have n12_ := Aside0.mk ((by rw [hg]; exact Nat.ne_of_gt (blk_lt (g := gb290) (o := .cells #[.int .u64 a0_3, .int .i64 a0_4, .int .i64 (wrap64 (a0_5 + (wrap64 (a1)))), .int .i64 (wrap64 (a0_6 + (wrap64 (a1))))] 38 (0, 0)) (by (with_reducible repeat (first | refine blk_drewN ?_ _ | refine blk_drew ?_ | refine blk_alloc ?_ _)); exact BK290.out)) : gb297 ≠ gb290)); clear BK281; clear BK288; clear BK290; clear HB; have BK281 := n0_; have BK288 := n1_; have BK290 := n2_; have HB := n3_; have BK297 := n4_; have GW297 := n5_; have GE297 := n6_; have NB281_297 := n7_; have NB297_281 := n8_; have NB288_297 := n9_; have NB297_288 := n10_; have NB290_297 := n11_; have NB297_290 := n12_; clear n0_ n1_ n2_ n3_ n4_ n5_ n6_ n7_ n8_ n9_ n10_ n11_ n12_; clear hb hbox hg; have hnb63 := NB297_281.out; have hnc63 := NB281_297.out; have hnb64 := NB297_288.out; have hnc64 := NB288_297.out; have hnb65 := NB297_290.out; have hnc65 := NB290_297.out; have hcz66_0 : w62.cell? ⟨gb297, 0, none⟩ = some (.int .u64 0) := (blk_cell BK297.out 0).trans rfl; have hcz66_1 : w62.cell? ⟨gb297, 1, none⟩ = some (.int .i64 0) := (blk_cell BK297.out 1).trans rfl; have hcz66_2 : w62.cell? ⟨gb297, 2, none⟩ = some (.int .i64 0) := (blk_cell BK297.out 2).trans rfl; have hcz66_3 : w62.cell? ⟨gb297, 3, none⟩ = some (.int .i64 0) := (blk_cell BK297.out 3).trans rfl; have hfz66_0 := blk_frozen BK297.out 0; have hfz66_1 := blk_frozen BK297.out 1; have hfz66_2 := blk_frozen BK297.out 2; have hfz66_3 := blk_frozen BK297.out 3; have hcz67_0 : w62.cell? ⟨gb288, 0, none⟩ = some (.int .u64 t282) := (blk_cell BK288.out 0).trans rfl; have hcz67_1 : w62.cell? ⟨gb288, 1, none⟩ = some (.int .i64 t283) := (blk_cell BK288.out 1).trans rfl; have hcz67_2 : w62.cell? ⟨gb288, 2, none⟩ = some (.int .i64 t284) := (blk_cell BK288.out 2).trans rfl; have hcz67_3 : w62.cell? ⟨gb288, 3, none⟩ = some (.int .i64 t285) := (blk_cell BK288.out 3).trans rfl; have hfz67_0 := blk_frozen BK288.out 0; have hfz67_1 := blk_frozen BK288.out 1; have hfz67_2 := blk_frozen BK288.out 2; have hfz67_3 := blk_frozen BK288.out 3; have hcz68_0 : w62.cell? ⟨gb281, 0, none⟩ = some (.int .i64 a0_0) := (blk_cell BK281.out 0).trans rfl; have hcz68_1 : w62.cell? ⟨gb281, 1, none⟩ = some (.int .i64 a0_1) := (blk_cell BK281.out 1).trans rfl; have hcz68_2 : w62.cell? ⟨gb281, 2, none⟩ = some (.int .i64 a0_2) := (blk_cell BK281.out 2).trans rfl; have hcz68_3 : w62.cell? ⟨gb281, 3, none⟩ = some (.int .u64 a0_3) := (blk_cell BK281.out 3).trans rfl; have hcz68_4 : w62.cell? ⟨gb281, 4, none⟩ = some (.int .i64 a0_4) := (blk_cell BK281.out 4).trans rfl; have hcz68_5 : w62.cell? ⟨gb281, 5, none⟩ = some (.int .i64 a0_5) := (blk_cell BK281.out 5).trans rfl; have hcz68_6 : w62.cell? ⟨gb281, 6, none⟩ = some (.int .i64 a0_6) := (blk_cell BK281.out 6).trans rfl; have hcz68_7 : w62.cell? ⟨gb281, 7, none⟩ = some (.int .i64 a0_7) := (blk_cell BK281.out 7).trans rfl; have hcz68_8 : w62.cell? ⟨gb281, 8, none⟩ = some (.int .u64 a0_8) := (blk_cell BK281.out 8).trans rfl; have hcz68_9 : w62.cell? ⟨gb281, 9, none⟩ = some (.int .i64 a0_9) := (blk_cell BK281.out 9).trans rfl; have hfz68_0 := blk_frozen BK281.out 0; have hfz68_1 := blk_frozen BK281.out 1; have hfz68_2 := blk_frozen BK281.out 2; have hfz68_3 := blk_frozen BK281.out 3; have hfz68_4 := blk_frozen BK281.out 4; have hfz68_5 := blk_frozen BK281.out 5; have hfz68_6 := blk_frozen BK281.out 6; have hfz68_7 := blk_frozen BK281.out 7; have hfz68_8 := blk_frozen BK281.out 8; have hfz68_9 := blk_frozen BK281.out 9; have hcz69_0 : w62.cell? ⟨gb290, 0, none⟩ = some (.int .u64 a0_3) := (blk_cell BK290.out 0).trans rfl; have hcz69_1 : w62.cell? ⟨gb290, 1, none⟩ = some (.int .i64 a0_4) := (blk_cell BK290.out 1).trans rfl; have hcz69_2 : w62.cell? ⟨gb290, 2, none⟩ = some (.int .i64 (wrap64 (a0_5 + (wrap64 (a1))))) := (blk_cell BK290.out 2).trans rfl; have hcz69_3 : w62.cell? ⟨gb290, 3, none⟩ = some (.int .i64 (wrap64 (a0_6 + (wrap64 (a1))))) := (blk_cell BK290.out 3).trans rfl; have hfz69_0 := blk_frozen BK290.out 0; have hfz69_1 := blk_frozen BK290.out 1; have hfz69_2 := blk_frozen BK290.out 2; have hfz69_3 := blk_frozen BK290.out 3))
                            refine wp_gen (fun W => W.heap[gb281]? = some (.cells #[.int .i64 a0_0, .int .i64 a0_1, .int .i64 a0_2, .int .u64 a0_3, .int .i64 a0_4, .int .i64 a0_5, .int .i64 a0_6, .int .i64 a0_7, .int .u64 a0_8, .int .i64 a0_9] 40 (0, 0)) ∧ W.heap[gb288]? = some (.cells #[.int .u64 t282, .int .i64 t283, .int .i64 t284, .int .i64 t285] 38 (0, 0)) ∧ W.heap[gb290]? = some (.cells #[.int .u64 a0_3, .int .i64 a0_4, .int .i64 (wrap64 (a0_5 + (wrap64 (a1)))), .int .i64 (wrap64 (a0_6 + (wrap64 (a1))))] 38 (0, 0)) ∧ W.heap[gb297]? = some (.cells #[.int .u64 t291, .int .i64 t292, .int .i64 t293, .int .i64 t294] 38 (0, 0)) ∧ Below w.heap.size w W) ⟨(by (with_reducible repeat (first | refine blk_drewN ?_ _ | refine blk_drew ?_ | refine blk_alloc ?_ _)); refine blk_far ?_ NB281_297.out _; (with_reducible repeat (first | refine blk_drewN ?_ _ | refine blk_drew ?_ | refine blk_alloc ?_ _)); refine blk_far ?_ NB281_297.out _; (with_reducible repeat (first | refine blk_drewN ?_ _ | refine blk_drew ?_ | refine blk_alloc ?_ _)); refine blk_far ?_ NB281_297.out _; (with_reducible repeat (first | refine blk_drewN ?_ _ | refine blk_drew ?_ | refine blk_alloc ?_ _)); refine blk_far ?_ NB281_297.out _; (with_reducible repeat (first | refine blk_drewN ?_ _ | refine blk_drew ?_ | refine blk_alloc ?_ _)); exact BK281.out), (by (with_reducible repeat (first | refine blk_drewN ?_ _ | refine blk_drew ?_ | refine blk_alloc ?_ _)); refine blk_far ?_ NB288_297.out _; (with_reducible repeat (first | refine blk_drewN ?_ _ | refine blk_drew ?_ | refine blk_alloc ?_ _)); refine blk_far ?_ NB288_297.out _; (with_reducible repeat (first | refine blk_drewN ?_ _ | refine blk_drew ?_ | refine blk_alloc ?_ _)); refine blk_far ?_ NB288_297.out _; (with_reducible repeat (first | refine blk_drewN ?_ _ | refine blk_drew ?_ | refine blk_alloc ?_ _)); refine blk_far ?_ NB288_297.out _; (with_reducible repeat (first | refine blk_drewN ?_ _ | refine blk_drew ?_ | refine blk_alloc ?_ _)); exact BK288.out), (by (with_reducible repeat (first | refine blk_drewN ?_ _ | refine blk_drew ?_ | refine blk_alloc ?_ _)); refine blk_far ?_ NB290_297.out _; (with_reducible repeat (first | refine blk_drewN ?_ _ | refine blk_drew ?_ | refine blk_alloc ?_ _)); refine blk_far ?_ NB290_297.out _; (with_reducible repeat (first | refine blk_drewN ?_ _ | refine blk_drew ?_ | refine blk_alloc ?_ _)); refine blk_far ?_ NB290_297.out _; (with_reducible repeat (first | refine blk_drewN ?_ _ | refine blk_drew ?_ | refine blk_alloc ?_ _)); refine blk_far ?_ NB290_297.out _; (with_reducible repeat (first | refine blk_drewN ?_ _ | refine blk_drew ?_ | refine blk_alloc ?_ _)); exact BK290.out), (by (with_reducible repeat (first | refine blk_drewN ?_ _ | refine blk_drew ?_ | refine blk_alloc ?_ _)); refine blk_put (cs := #[.int .u64 t291, .int .i64 t292, .int .i64 t293, .int .i64 0]) ?_ 3 _ rfl; (with_reducible repeat (first | refine blk_drewN ?_ _ | refine blk_drew ?_ | refine blk_alloc ?_ _)); refine blk_put (cs := #[.int .u64 t291, .int .i64 t292, .int .i64 0, .int .i64 0]) ?_ 2 _ rfl; (with_reducible repeat (first | refine blk_drewN ?_ _ | refine blk_drew ?_ | refine blk_alloc ?_ _)); refine blk_put (cs := #[.int .u64 t291, .int .i64 0, .int .i64 0, .int .i64 0]) ?_ 1 _ rfl; (with_reducible repeat (first | refine blk_drewN ?_ _ | refine blk_drew ?_ | refine blk_alloc ?_ _)); refine blk_put (cs := #[.int .u64 0, .int .i64 0, .int .i64 0, .int .i64 0]) ?_ 0 _ rfl; (with_reducible repeat (first | refine blk_drewN ?_ _ | refine blk_drew ?_ | refine blk_alloc ?_ _)); exact BK297.out), (by repeat (first | (with_reducible first | exact HB.out | apply below_alloc | apply pw_below_drewN | apply below_drew1 | refine below_set ?_ GE281.out | refine below_set ?_ GE288.out | refine below_set ?_ GE290.out | refine below_set ?_ GE297.out) | exact HB.out))⟩ ?_
                            rintro wx ⟨hqgb281, hqgb288, hqgb290, hqgb297, hqb⟩
                            clear BK281 BK288 BK290 BK297 HB
                            have BK281 := Aside0.mk hqgb281
                            have BK288 := Aside0.mk hqgb288
                            have BK290 := Aside0.mk hqgb290
                            have BK297 := Aside0.mk hqgb297
                            have HB := Aside0.mk hqb
                            clear hqgb281 hqgb288 hqgb290 hqgb297 hqb
                            have hcg2_gb281_0 : wx.cell? ⟨gb281, 0, none⟩ = some (.int .i64 a0_0) := (blk_cell BK281.out 0).trans rfl
                            have hcg2_gb281_1 : wx.cell? ⟨gb281, 1, none⟩ = some (.int .i64 a0_1) := (blk_cell BK281.out 1).trans rfl
                            have hcg2_gb281_2 : wx.cell? ⟨gb281, 2, none⟩ = some (.int .i64 a0_2) := (blk_cell BK281.out 2).trans rfl
                            have hcg2_gb281_3 : wx.cell? ⟨gb281, 3, none⟩ = some (.int .u64 a0_3) := (blk_cell BK281.out 3).trans rfl
                            have hcg2_gb281_4 : wx.cell? ⟨gb281, 4, none⟩ = some (.int .i64 a0_4) := (blk_cell BK281.out 4).trans rfl
                            have hcg2_gb281_5 : wx.cell? ⟨gb281, 5, none⟩ = some (.int .i64 a0_5) := (blk_cell BK281.out 5).trans rfl
                            have hcg2_gb281_6 : wx.cell? ⟨gb281, 6, none⟩ = some (.int .i64 a0_6) := (blk_cell BK281.out 6).trans rfl
                            have hcg2_gb281_7 : wx.cell? ⟨gb281, 7, none⟩ = some (.int .i64 a0_7) := (blk_cell BK281.out 7).trans rfl
                            have hcg2_gb281_8 : wx.cell? ⟨gb281, 8, none⟩ = some (.int .u64 a0_8) := (blk_cell BK281.out 8).trans rfl
                            have hcg2_gb281_9 : wx.cell? ⟨gb281, 9, none⟩ = some (.int .i64 a0_9) := (blk_cell BK281.out 9).trans rfl
                            have hfg2_gb281_0 := blk_frozen BK281.out 0
                            have hfg2_gb281_1 := blk_frozen BK281.out 1
                            have hfg2_gb281_2 := blk_frozen BK281.out 2
                            have hfg2_gb281_3 := blk_frozen BK281.out 3
                            have hfg2_gb281_4 := blk_frozen BK281.out 4
                            have hfg2_gb281_5 := blk_frozen BK281.out 5
                            have hfg2_gb281_6 := blk_frozen BK281.out 6
                            have hfg2_gb281_7 := blk_frozen BK281.out 7
                            have hfg2_gb281_8 := blk_frozen BK281.out 8
                            have hfg2_gb281_9 := blk_frozen BK281.out 9
                            have hcg2_gb288_0 : wx.cell? ⟨gb288, 0, none⟩ = some (.int .u64 t282) := (blk_cell BK288.out 0).trans rfl
                            have hcg2_gb288_1 : wx.cell? ⟨gb288, 1, none⟩ = some (.int .i64 t283) := (blk_cell BK288.out 1).trans rfl
                            have hcg2_gb288_2 : wx.cell? ⟨gb288, 2, none⟩ = some (.int .i64 t284) := (blk_cell BK288.out 2).trans rfl
                            have hcg2_gb288_3 : wx.cell? ⟨gb288, 3, none⟩ = some (.int .i64 t285) := (blk_cell BK288.out 3).trans rfl
                            have hfg2_gb288_0 := blk_frozen BK288.out 0
                            have hfg2_gb288_1 := blk_frozen BK288.out 1
                            have hfg2_gb288_2 := blk_frozen BK288.out 2
                            have hfg2_gb288_3 := blk_frozen BK288.out 3
                            have hcg2_gb290_0 : wx.cell? ⟨gb290, 0, none⟩ = some (.int .u64 a0_3) := (blk_cell BK290.out 0).trans rfl
                            have hcg2_gb290_1 : wx.cell? ⟨gb290, 1, none⟩ = some (.int .i64 a0_4) := (blk_cell BK290.out 1).trans rfl
                            have hcg2_gb290_2 : wx.cell? ⟨gb290, 2, none⟩ = some (.int .i64 (wrap64 (a0_5 + (wrap64 (a1))))) := (blk_cell BK290.out 2).trans rfl
                            have hcg2_gb290_3 : wx.cell? ⟨gb290, 3, none⟩ = some (.int .i64 (wrap64 (a0_6 + (wrap64 (a1))))) := (blk_cell BK290.out 3).trans rfl
                            have hfg2_gb290_0 := blk_frozen BK290.out 0
                            have hfg2_gb290_1 := blk_frozen BK290.out 1
                            have hfg2_gb290_2 := blk_frozen BK290.out 2
                            have hfg2_gb290_3 := blk_frozen BK290.out 3
                            have hcg2_gb297_0 : wx.cell? ⟨gb297, 0, none⟩ = some (.int .u64 t291) := (blk_cell BK297.out 0).trans rfl
                            have hcg2_gb297_1 : wx.cell? ⟨gb297, 1, none⟩ = some (.int .i64 t292) := (blk_cell BK297.out 1).trans rfl
                            have hcg2_gb297_2 : wx.cell? ⟨gb297, 2, none⟩ = some (.int .i64 t293) := (blk_cell BK297.out 2).trans rfl
                            have hcg2_gb297_3 : wx.cell? ⟨gb297, 3, none⟩ = some (.int .i64 t294) := (blk_cell BK297.out 3).trans rfl
                            have hfg2_gb297_0 := blk_frozen BK297.out 0
                            have hfg2_gb297_1 := blk_frozen BK297.out 1
                            have hfg2_gb297_2 := blk_frozen BK297.out 2
                            have hfg2_gb297_3 := blk_frozen BK297.out 3
                            clear hcz66_0 hcz66_1 hcz66_2 hcz66_3 hfz66_0 hfz66_1 hfz66_2 hfz66_3 hcz67_0 hcz67_1 hcz67_2 hcz67_3 hfz67_0 hfz67_1 hfz67_2 hfz67_3 hcz68_0 hcz68_1 hcz68_2 hcz68_3 hcz68_4 hcz68_5 hcz68_6 hcz68_7 hcz68_8 hcz68_9 hfz68_0 hfz68_1 hfz68_2 hfz68_3 hfz68_4 hfz68_5 hfz68_6 hfz68_7 hfz68_8 hfz68_9 hcz69_0 hcz69_1 hcz69_2 hcz69_3 hfz69_0 hfz69_1 hfz69_2 hfz69_3 hcg1_gb281_0 hcg1_gb281_1 hcg1_gb281_2 hcg1_gb281_3 hcg1_gb281_4 hcg1_gb281_5 hcg1_gb281_6 hcg1_gb281_7 hcg1_gb281_8 hcg1_gb281_9 hfg1_gb281_0 hfg1_gb281_1 hfg1_gb281_2 hfg1_gb281_3 hfg1_gb281_4 hfg1_gb281_5 hfg1_gb281_6 hfg1_gb281_7 hfg1_gb281_8 hfg1_gb281_9 hcg1_gb288_0 hcg1_gb288_1 hcg1_gb288_2 hcg1_gb288_3 hfg1_gb288_0 hfg1_gb288_1 hfg1_gb288_2 hfg1_gb288_3 hcg1_gb290_0 hcg1_gb290_1 hcg1_gb290_2 hcg1_gb290_3 hfg1_gb290_0 hfg1_gb290_1 hfg1_gb290_2 hfg1_gb290_3
                            go_wp2_with (first | (go_at_call 16; (with_reducible refine (tattlelaw17_awakeT.calls  t299 _ A53.out).mono ?_); rintro e w70 ⟨rfl, hb⟩; have n0_ := Aside0.mk (blk_below (g := gb281) (o := .cells #[.int .i64 a0_0, .int .i64 a0_1, .int .i64 a0_2, .int .u64 a0_3, .int .i64 a0_4, .int .i64 a0_5, .int .i64 a0_6, .int .i64 a0_7, .int .u64 a0_8, .int .i64 a0_9] 40 (0, 0)) (by (with_reducible repeat (first | refine blk_drewN ?_ _ | refine blk_drew ?_ | refine blk_alloc ?_ _)); exact BK281.out) hb); have n1_ := Aside0.mk (blk_below (g := gb288) (o := .cells #[.int .u64 t282, .int .i64 t283, .int .i64 t284, .int .i64 t285] 38 (0, 0)) (by (with_reducible repeat (first | refine blk_drewN ?_ _ | refine blk_drew ?_ | refine blk_alloc ?_ _)); exact BK288.out) hb); have n2_ := Aside0.mk (blk_below (g := gb290) (o := .cells #[.int .u64 a0_3, .int .i64 a0_4, .int .i64 (wrap64 (a0_5 + (wrap64 (a1)))), .int .i64 (wrap64 (a0_6 + (wrap64 (a1))))] 38 (0, 0)) (by (with_reducible repeat (first | refine blk_drewN ?_ _ | refine blk_drew ?_ | refine blk_alloc ?_ _)); exact BK290.out) hb); have n3_ := Aside0.mk (blk_below (g := gb297) (o := .cells #[.int .u64 t291, .int .i64 t292, .int .i64 t293, .int .i64 t294] 38 (0, 0)) (by (with_reducible repeat (first | refine blk_drewN ?_ _ | refine blk_drew ?_ | refine blk_alloc ?_ _)); exact BK297.out) hb); have n4_ := Aside0.mk (below_step (by repeat (first | (with_reducible first | exact HB.out | apply below_alloc | apply pw_below_drewN | apply below_drew1 | refine below_set ?_ GE281.out | refine below_set ?_ GE288.out | refine below_set ?_ GE290.out | refine below_set ?_ GE297.out) | exact HB.out)) hb); clear BK281; clear BK288; clear BK290; clear BK297; clear HB; have BK281 := n0_; have BK288 := n1_; have BK290 := n2_; have BK297 := n3_; have HB := n4_; clear n0_ n1_ n2_ n3_ n4_; (try clear hb); (try clear hb2); (try clear hk); (try clear hi)))
                            go_ret
                            exact ⟨by first | rfl | (simp [errW_none, errW_some] <;> rfl) | (simp [*, errW_none, errW_some] <;> rfl), by repeat (first | (with_reducible first | exact HB.out | apply below_alloc | apply pw_below_drewN | apply below_drew1 | refine below_set ?_ GE281.out | refine below_set ?_ GE288.out | refine below_set ?_ GE290.out | refine below_set ?_ GE297.out) | exact HB.out)⟩
                        · rw [if_neg c52] at H
                          have c52b0 : (t294 == (wrap64 (t285 + (wrap64 (a1))))) = false := beq_eq_false_iff_ne.mpr c52
                          have c52b1 : (t294 != (wrap64 (t285 + (wrap64 (a1))))) = true := bne_iff_ne.mpr c52
                          as_aux_lemma =>
                            exact absurd ((Option.some.inj H).trans hrt.out) (by decide)
                      · rw [if_neg c51] at H
                        have c51b0 : (t293 == (wrap64 (t284 + (wrap64 (a1))))) = false := beq_eq_false_iff_ne.mpr c51
                        have c51b1 : (t293 != (wrap64 (t284 + (wrap64 (a1))))) = true := bne_iff_ne.mpr c51
                        as_aux_lemma =>
                          exact absurd ((Option.some.inj H).trans hrt.out) (by decide)
                    · rw [if_neg c50] at H
                      have c50b0 : (t283 == t292) = false := beq_eq_false_iff_ne.mpr c50
                      have c50b1 : (t283 != t292) = true := bne_iff_ne.mpr c50
                      as_aux_lemma =>
                        exact absurd ((Option.some.inj H).trans hrt.out) (by decide)
                  · rw [if_neg c49] at H
                    have c49b0 : (t282 == t291) = false := beq_eq_false_iff_ne.mpr c49
                    have c49b1 : (t282 != t291) = true := bne_iff_ne.mpr c49
                    as_aux_lemma =>
                      exact absurd ((Option.some.inj H).trans hrt.out) (by decide)
        · rw [if_neg c24] at H
          have c24b0 : (t296 == 0) = false := beq_eq_false_iff_ne.mpr c24
          have c24b1 : (t296 != 0) = true := bne_iff_ne.mpr c24
          as_aux_lemma =>
            exact absurd ((Option.some.inj H).trans hrt.out) (by decide)

end Go.Proofs.Ytgfblogneggpmaa.Fn
