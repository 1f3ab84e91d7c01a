-- Written by program (a turned copy of the kit's print) for this seat: functions, contracts. Lean checks it.
import Derived.Test.YtgfblogneggpmaaFnx0
import Derived.Test.YtgfblogneggpmaaFnx3
import Derived.Test.YtgfblogneggpmaaFnx15
import Derived.Test.YtgfblogneggpmaaFnx16
import Derived.Test.YtgfblogneggpmaaFnx17
import Derived.Test.YtgfblogneggpmaaAw24
import Derived.Test.YtgfblogneggpmaaExNew
import Derived.Test.YtgfblogneggpmaaExUntil
namespace Go.Proofs.Ytgfblogneggpmaa.Fn
open Go.RowKit Go.Proofs.YtgfblogneggpmaaW.PrintWords Go.Proofs.YtgfblogneggpmaaW.PrintLast Go.Proofs.YtgfblogneggpmaaW.PrintMore
attribute [local go_sem] max2_int min2_int max_two min_two max_three min_three max_four min_four   -- for this text's walks alone
set_option linter.unusedVariables false
set_option linter.unusedSimpArgs false

/-! ### tattlelaw18_LeadMore: function 9 -/
mutual
def tattlelaw18_LeadMore.j0 : Nat → Int → Int → Bool → Bool → Int → Int → Int → Int → List Int → Int → Int → Int → Int → Int → List Int → Int → List Int → Option (Bool)
  | 0, _, _, _, _, _, _, _, _, _, _, _, _, _, _, _, _, _ => none
  | k + 1, x1, x8, x9, x52, x515000, x515001, x515002, x515003, x515004, x515005, x515006, x515007, x515008, x520000, x520001, x526000, x526001 => if x52 = true then ((tattlelaw18_awakeT.f).bind fun t529 => (some t529)) else ((lead_Until.f x515000 x515001 x515002 x526000 x526001).bind fun bt530 => (if bt530.2.2 = 0 then (if x9 = true then (if bt530.2.1 = true then (tattlelaw18_LeadMore.j1 k x1 (decide (bt530.1 < x8)) x515000 x515001 x515002 x515003 x515004 x515005 x515006 x515007 x515008 x520000 x520001) else (tattlelaw18_LeadMore.j1 k x1 true x515000 x515001 x515002 x515003 x515004 x515005 x515006 x515007 x515008 x520000 x520001)) else (tattlelaw18_LeadMore.j1 k x1 (decide (bt530.1 < x8)) x515000 x515001 x515002 x515003 x515004 x515005 x515006 x515007 x515008 x520000 x520001)) else (tattlelaw18_LeadMore.j1 k x1 true x515000 x515001 x515002 x515003 x515004 x515005 x515006 x515007 x515008 x520000 x520001)))
def tattlelaw18_LeadMore.j1 : Nat → Int → Bool → Int → Int → Int → Int → List Int → Int → Int → Int → Int → Int → List Int → Option (Bool)
  | 0, _, _, _, _, _, _, _, _, _, _, _, _, _ => none
  | k + 1, x1, x75, x515000, x515001, x515002, x515003, x515004, x515005, x515006, x515007, x515008, x520000, x520001 => if x75 = true then (some false) else ((lead_New.f (x520001.length : Int)).bind fun bt533 => (if bt533.2.2 = 0 then (if (wrap64 ((x520001.length : Int) + 1)) = 0 then (none) else (tattlelaw18_LeadMore.l0 k (x520001.length : Int) (Int.tmod (wrap64 (x1)) (wrap64 ((x520001.length : Int) + 1))) 0 x515000 x515001 x515002 x515003 x515004 x515005 x515006 x515007 x515008 bt533.1 bt533.2.1)) else (some false)))
def tattlelaw18_LeadMore.l0 : Nat → Int → Int → Int → Int → Int → Int → Int → List Int → Int → Int → Int → Int → Int → List Int → Option (Bool)
  | 0, _, _, _, _, _, _, _, _, _, _, _, _, _, _ => none
  | k + 1, x14, x17, x18, x515000, x515001, x515002, x515003, x515004, x515005, x515006, x515007, x515008, x539000, x539001 => if x18 < x17 then ((lead_Granted.f k x539000 x539001 x18 0 x515007).bind fun bt539 => (if bt539.2.2 = 0 then (tattlelaw18_LeadMore.l0 k x14 x17 (wrap64 (x18 + 1)) x515000 x515001 x515002 x515003 x515004 x515005 x515006 x515007 x515008 bt539.1 bt539.2.1) else (some false))) else ((lead_Until.f x515000 x515001 x515002 x539000 x539001).bind fun bt545 => ((lead_Majority.f x14).bind fun t548 => (if bt545.2.2 = 0 then (if (bt545.2.1 == (decide (x17 ≥ t548))) = true then (if bt545.2.1 = true then ((tattleref17_Hold.f k x515000 x515001 x515002).bind fun t549 => (if bt545.1 = (wrap64 (x515007 + t549)) then (if (wrap64 (2 * t548)) > x14 then (if (wrap64 (2 * (wrap64 (t548 - 1)))) ≤ x14 then ((tattlelaw18_awakeT.f).bind fun t550 => (some t550)) else (some false)) else (some false)) else (some false))) else (if (wrap64 (2 * t548)) > x14 then (if (wrap64 (2 * (wrap64 (t548 - 1)))) ≤ x14 then ((tattlelaw18_awakeT.f).bind fun t551 => (some t551)) else (some false)) else (some false))) else (some false)) else (some false))))
end
def tattlelaw18_LeadMore.f (k : Nat) (a0_0 : Int) (a0_1 : Int) (a0_2 : Int) (a0_3 : Int) (l0_4 : List Int) (a0_5 : Int) (a0_6 : Int) (a0_7 : Int) (a0_8 : Int) (a1 : Int) : Option (Bool) := (tattlelaw18_Few.f a0_3 l0_4).bind fun bt515 => ((lead_Granted.f k bt515.1 bt515.2 a0_5 bt515.1 a0_7).bind fun bt520 => ((lead_Until.f a0_0 a0_1 a0_2 bt515.1 bt515.2).bind fun bt526 => (if bt520.2.2 = 0 then (tattlelaw18_LeadMore.j0 k a1 bt526.1 bt526.2.1 (bt526.2.2 != 0) a0_0 a0_1 a0_2 a0_3 l0_4 a0_5 a0_6 a0_7 a0_8 bt515.1 bt515.2 bt520.1 bt520.2.1) else (tattlelaw18_LeadMore.j0 k a1 bt526.1 bt526.2.1 true a0_0 a0_1 a0_2 a0_3 l0_4 a0_5 a0_6 a0_7 a0_8 bt515.1 bt515.2 bt520.1 bt520.2.1))))
theorem tattlelaw18_LeadMore.mono_l : ∀ k, (∀ y0 y1 y2 y3 y4 y5 y6 y7 y8 y9 y10 y11 y12 y13 y14 y15 y16, LeO (tattlelaw18_LeadMore.j0 k y0 y1 y2 y3 y4 y5 y6 y7 y8 y9 y10 y11 y12 y13 y14 y15 y16) (tattlelaw18_LeadMore.j0 (k + 1) y0 y1 y2 y3 y4 y5 y6 y7 y8 y9 y10 y11 y12 y13 y14 y15 y16)) ∧ (∀ y0 y1 y2 y3 y4 y5 y6 y7 y8 y9 y10 y11 y12, LeO (tattlelaw18_LeadMore.j1 k y0 y1 y2 y3 y4 y5 y6 y7 y8 y9 y10 y11 y12) (tattlelaw18_LeadMore.j1 (k + 1) y0 y1 y2 y3 y4 y5 y6 y7 y8 y9 y10 y11 y12)) ∧ (∀ y0 y1 y2 y3 y4 y5 y6 y7 y8 y9 y10 y11 y12 y13, LeO (tattlelaw18_LeadMore.l0 k y0 y1 y2 y3 y4 y5 y6 y7 y8 y9 y10 y11 y12 y13) (tattlelaw18_LeadMore.l0 (k + 1) y0 y1 y2 y3 y4 y5 y6 y7 y8 y9 y10 y11 y12 y13))
  | 0 => ⟨fun _ _ _ _ _ _ _ _ _ _ _ _ _ _ _ _ _ r h => by simp [tattlelaw18_LeadMore.j0] at h, fun _ _ _ _ _ _ _ _ _ _ _ _ _ r h => by simp [tattlelaw18_LeadMore.j1] at h, fun _ _ _ _ _ _ _ _ _ _ _ _ _ _ r h => by simp [tattlelaw18_LeadMore.l0] at h⟩
  | k + 1 => by
    obtain ⟨ih0, ih1, ih2⟩ := tattlelaw18_LeadMore.mono_l k
    refine ⟨?_, ?_, ?_⟩
    · intro y0 y1 y2 y3 y4 y5 y6 y7 y8 y9 y10 y11 y12 y13 y14 y15 y16
      unfold tattlelaw18_LeadMore.j0
      repeat' first
      | (with_reducible exact ih0 _ _ _ _ _ _ _ _ _ _ _ _ _ _ _ _ _)
      | (with_reducible exact ih1 _ _ _ _ _ _ _ _ _ _ _ _ _)
      | (with_reducible exact ih2 _ _ _ _ _ _ _ _ _ _ _ _ _ _)
      | (with_reducible exact lead_Granted.mono _ _ _ _ _ _)
      | (with_reducible exact tattleref17_Hold.mono _ _ _ _)
      | (with_reducible exact LeO.refl _)
      | (with_reducible exact LeO.none _)
      | (with_reducible refine LeO.ite ?_ ?_)
      | (with_reducible refine LeO.bind ?_ (fun _ => ?_))
      | exact ih0 _ _ _ _ _ _ _ _ _ _ _ _ _ _ _ _ _
      | exact ih1 _ _ _ _ _ _ _ _ _ _ _ _ _
      | exact ih2 _ _ _ _ _ _ _ _ _ _ _ _ _ _
      | exact lead_Granted.mono _ _ _ _ _ _
      | exact tattleref17_Hold.mono _ _ _ _
      | exact LeO.none _
      | refine LeO.ite ?_ ?_
      | refine LeO.bind ?_ (fun _ => ?_)
    · intro y0 y1 y2 y3 y4 y5 y6 y7 y8 y9 y10 y11 y12
      unfold tattlelaw18_LeadMore.j1
      repeat' first
      | (with_reducible exact ih0 _ _ _ _ _ _ _ _ _ _ _ _ _ _ _ _ _)
      | (with_reducible exact ih1 _ _ _ _ _ _ _ _ _ _ _ _ _)
      | (with_reducible exact ih2 _ _ _ _ _ _ _ _ _ _ _ _ _ _)
      | (with_reducible exact lead_Granted.mono _ _ _ _ _ _)
      | (with_reducible exact tattleref17_Hold.mono _ _ _ _)
      | (with_reducible exact LeO.refl _)
      | (with_reducible exact LeO.none _)
      | (with_reducible refine LeO.ite ?_ ?_)
      | (with_reducible refine LeO.bind ?_ (fun _ => ?_))
      | exact ih0 _ _ _ _ _ _ _ _ _ _ _ _ _ _ _ _ _
      | exact ih1 _ _ _ _ _ _ _ _ _ _ _ _ _
      | exact ih2 _ _ _ _ _ _ _ _ _ _ _ _ _ _
      | exact lead_Granted.mono _ _ _ _ _ _
      | exact tattleref17_Hold.mono _ _ _ _
      | exact LeO.none _
      | refine LeO.ite ?_ ?_
      | refine LeO.bind ?_ (fun _ => ?_)
    · intro y0 y1 y2 y3 y4 y5 y6 y7 y8 y9 y10 y11 y12 y13
      unfold tattlelaw18_LeadMore.l0
      repeat' first
      | (with_reducible exact ih0 _ _ _ _ _ _ _ _ _ _ _ _ _ _ _ _ _)
      | (with_reducible exact ih1 _ _ _ _ _ _ _ _ _ _ _ _ _)
      | (with_reducible exact ih2 _ _ _ _ _ _ _ _ _ _ _ _ _ _)
      | (with_reducible exact lead_Granted.mono _ _ _ _ _ _)
      | (with_reducible exact tattleref17_Hold.mono _ _ _ _)
      | (with_reducible exact LeO.refl _)
      | (with_reducible exact LeO.none _)
      | (with_reducible refine LeO.ite ?_ ?_)
      | (with_reducible refine LeO.bind ?_ (fun _ => ?_))
      | exact ih0 _ _ _ _ _ _ _ _ _ _ _ _ _ _ _ _ _
      | exact ih1 _ _ _ _ _ _ _ _ _ _ _ _ _
      | exact ih2 _ _ _ _ _ _ _ _ _ _ _ _ _ _
      | exact lead_Granted.mono _ _ _ _ _ _
      | exact tattleref17_Hold.mono _ _ _ _
      | exact LeO.none _
      | refine LeO.ite ?_ ?_
      | refine LeO.bind ?_ (fun _ => ?_)
theorem tattlelaw18_LeadMore.mono : ∀ a0 a1 a2 a3 a4 a5 a6 a7 a8 a9 k, LeO (tattlelaw18_LeadMore.f k a0 a1 a2 a3 a4 a5 a6 a7 a8 a9) (tattlelaw18_LeadMore.f (k + 1) a0 a1 a2 a3 a4 a5 a6 a7 a8 a9) := by
  intro a0 a1 a2 a3 a4 a5 a6 a7 a8 a9 k
  obtain ⟨ih0, ih1, ih2⟩ := tattlelaw18_LeadMore.mono_l k
  unfold tattlelaw18_LeadMore.f
  repeat' first
      | (with_reducible exact ih0 _ _ _ _ _ _ _ _ _ _ _ _ _ _ _ _ _)
      | (with_reducible exact ih1 _ _ _ _ _ _ _ _ _ _ _ _ _)
      | (with_reducible exact ih2 _ _ _ _ _ _ _ _ _ _ _ _ _ _)
      | (with_reducible exact lead_Granted.mono _ _ _ _ _ _)
      | (with_reducible exact tattleref17_Hold.mono _ _ _ _)
      | (with_reducible exact LeO.refl _)
      | (with_reducible exact LeO.none _)
      | (with_reducible refine LeO.ite ?_ ?_)
      | (with_reducible refine LeO.bind ?_ (fun _ => ?_))
      | exact ih0 _ _ _ _ _ _ _ _ _ _ _ _ _ _ _ _ _
      | exact ih1 _ _ _ _ _ _ _ _ _ _ _ _ _
      | exact ih2 _ _ _ _ _ _ _ _ _ _ _ _ _ _
      | exact lead_Granted.mono _ _ _ _ _ _
      | exact tattleref17_Hold.mono _ _ _ _
      | exact LeO.none _
      | refine LeO.ite ?_ ?_
      | refine LeO.bind ?_ (fun _ => ?_)
def tattlelaw18_LeadMore.T23 : Bool × List (List Nat × List Nat) := (true, [([], []), ([0], [0]), ([1], [1]), ([2], [2]), ([2], [2]), ([2], [2]), ([4, 5, 2], [2, 4, 5]), ([3, 6, 2], [2, 3, 6]), ([2, 7], [2, 7]), ([8, 2], [8]), ([9], [9]), ([10, 9], [9, 10]), ([11, 9, 9], [9, 11]), ([12], [12]), ([12], [12]), ([14, 12], [12, 14]), ([12], [12]), ([16, 12], [12, 16]), ([17, 12, 12], [12, 17]), ([15, 18, 12], [12, 15, 18]), ([13, 19, 12], [12, 13, 19]), ([12, 20, 9], [9, 12, 20]), ([9, 21], [9, 21]), ([22, 18], [22]), ([23], [23]), ([24, 23], [23, 24]), ([23], [23]), ([25, 26, 23], [23, 25, 26]), ([23, 27], [23, 27]), ([28, 23], [28]), ([29], [29]), ([30, 29], [29, 30]), ([31, 29], [29, 31]), ([29], [29]), ([32, 33, 29], [29, 32, 33]), ([29, 34], [29, 34]), ([35, 29], [35]), ([36, 36], [36]), ([36, 37], [36, 37]), ([38, 37, 0, 1, 2, 3, 4, 5, 6, 7, 8, 9, 10, 11, 12, 13, 14, 15, 16, 17, 18, 19, 20, 21, 22, 23, 24, 25, 26, 27, 28, 29, 30, 31, 32, 33, 34, 35, 36, 37, 38], [38])])
def tattlelaw18_LeadMore.B23 : List Nat := [0, 1, 3, 7, 7, 7, 55, 127, 255, 511, 1023, 2047, 4095, 8191, 8191, 24575, 8191, 73727, 204799, 516095, 1048575, 2097151, 4194303, 8388607, 16777215, 33554431, 16777215, 134217727, 268435455, 536870911, 1073741823, 2147483647, 4294967295, 1073741823, 17179869183, 34359738367, 68719476735, 137438953471, 274877906943, 549755813887]
theorem tattlelaw18_LeadMore.tab23 : rtab .any (opsOf Try.f9 23) = tattlelaw18_LeadMore.T23 := by kernel_rfl
theorem tattlelaw18_LeadMore.bits23 : waitsOk tattlelaw18_LeadMore.T23.2 tattlelaw18_LeadMore.B23 = true := by kernel_rfl
set_option maxHeartbeats 8000000 in
set_option maxRecDepth 100000 in
theorem tattlelaw18_LeadMore.calls (k : Nat) (a0_0 : Int) (a0_1 : Int) (a0_2 : Int) (a0_3 : Int) (A0_4 : Option Addr) (c0_4 : Nat) (l0_4 : List Int) (a0_5 : Int) (a0_6 : Int) (a0_7 : Int) (a0_8 : Int) (a1 : Int) (r : Bool) (w : World) (hr0_4 : Kd.C (Kd.int .i64) w A0_4 l0_4.length l0_4) (hc0_4 : l0_4.length ≤ c0_4) (hrt : Aside0 (r = true)) (h : tattlelaw18_LeadMore.f k a0_0 a0_1 a0_2 a0_3 l0_4 a0_5 a0_6 a0_7 a0_8 a1 = some r) :
    Calls Try.prog 9 #[.agg #[.int .i64 a0_0, .int .i64 a0_1, .int .i64 a0_2, .int .u64 a0_3, .slice A0_4 l0_4.length c0_4, .int .i64 a0_5, .int .u64 a0_6, .int .i64 a0_7, .int .i64 a0_8], .int .u8 a1] w fun e w' => e = .returned (.bool r) ∧ Below w.heap.size w w' := by
  have hu54 := Try.underlying54
  have hu52 := Try.underlying52
  have hu23 := Try.underlying23
  have HR0_4 := Aside0.mk hr0_4
  have HC0_4 := Aside0.mk hc0_4
  clear hr0_4 hc0_4
  have HB := Aside0.mk (Below.refl w.heap.size w)
  have H : ((tattlelaw18_Few.f a0_3 l0_4).bind fun bt515 => ((lead_Granted.f k bt515.1 bt515.2 a0_5 bt515.1 a0_7).bind fun bt520 => ((lead_Until.f a0_0 a0_1 a0_2 bt515.1 bt515.2).bind fun bt526 => (if bt520.2.2 = 0 then (tattlelaw18_LeadMore.j0 k a1 bt526.1 bt526.2.1 (bt526.2.2 != 0) a0_0 a0_1 a0_2 a0_3 l0_4 a0_5 a0_6 a0_7 a0_8 bt515.1 bt515.2 bt520.1 bt520.2.1) else (tattlelaw18_LeadMore.j0 k a1 bt526.1 bt526.2.1 true a0_0 a0_1 a0_2 a0_3 l0_4 a0_5 a0_6 a0_7 a0_8 bt515.1 bt515.2 bt520.1 bt520.2.1))))) = some r := h
  clear h
  replace H := Option.bind_eq_some_iff.mp H
  obtain ⟨⟨t515, t516⟩, A30, H⟩ := H
  replace H : ((lead_Granted.f k t515 t516 a0_5 t515 a0_7).bind fun bt520 => ((lead_Until.f a0_0 a0_1 a0_2 t515 t516).bind fun bt526 => (if bt520.2.2 = 0 then (tattlelaw18_LeadMore.j0 k a1 bt526.1 bt526.2.1 (bt526.2.2 != 0) a0_0 a0_1 a0_2 a0_3 l0_4 a0_5 a0_6 a0_7 a0_8 t515 t516 bt520.1 bt520.2.1) else (tattlelaw18_LeadMore.j0 k a1 bt526.1 bt526.2.1 true a0_0 a0_1 a0_2 a0_3 l0_4 a0_5 a0_6 a0_7 a0_8 t515 t516 bt520.1 bt520.2.1)))) = some r := H
  have A3 := Aside0.mk A30
  clear A30
  replace H := Option.bind_eq_some_iff.mp H
  obtain ⟨⟨t520, t521, t524⟩, A40, H⟩ := H
  replace H : ((lead_Until.f a0_0 a0_1 a0_2 t515 t516).bind fun bt526 => (if t524 = 0 then (tattlelaw18_LeadMore.j0 k a1 bt526.1 bt526.2.1 (bt526.2.2 != 0) a0_0 a0_1 a0_2 a0_3 l0_4 a0_5 a0_6 a0_7 a0_8 t515 t516 t520 t521) else (tattlelaw18_LeadMore.j0 k a1 bt526.1 bt526.2.1 true a0_0 a0_1 a0_2 a0_3 l0_4 a0_5 a0_6 a0_7 a0_8 t515 t516 t520 t521))) = some r := H
  have A4 := Aside0.mk A40
  clear A40
  replace H := Option.bind_eq_some_iff.mp H
  obtain ⟨⟨t526, t527, t528⟩, A50, H⟩ := H
  replace H : (if t524 = 0 then (tattlelaw18_LeadMore.j0 k a1 t526 t527 (t528 != 0) a0_0 a0_1 a0_2 a0_3 l0_4 a0_5 a0_6 a0_7 a0_8 t515 t516 t520 t521) else (tattlelaw18_LeadMore.j0 k a1 t526 t527 true a0_0 a0_1 a0_2 a0_3 l0_4 a0_5 a0_6 a0_7 a0_8 t515 t516 t520 t521)) = some r := H
  have A5 := Aside0.mk A50
  clear A50
  have HC6 := Aside0.mk H
  clear H
  go_enter Try.func9, Try.ntmps9
  go_upto_region 4 with (first | ((with_reducible refine gate_dst (N := 2) rfl ?_); refine box_event ?hg (N := 2) ?hd (cs := #[.int .i64 a0_0, .int .i64 a0_1, .int .i64 a0_2, .int .u64 a0_3, .slice A0_4 l0_4.length c0_4, .int .i64 a0_5, .int .u64 a0_6, .int .i64 a0_7, .int .i64 a0_8]) (t := 54) ?hr ?_; (case hd => rfl); (case hg => rfl); (case hr => first | (go_simp; done) | (go_simp; rfl)); intro gb514 hg w7 hbox hb; have n0_ := Aside0.mk (below_step (by repeat (first | (with_reducible first | exact HB.out | apply below_alloc | apply pw_below_drewN | apply below_drew1) | exact HB.out)) hb); have n1_ := Aside0.mk (hbox); have n2_ := Aside0.mk ((by rw [hg]; exact (below_size (by repeat (first | (with_reducible first | exact HB.out | apply below_alloc | apply pw_below_drewN | apply below_drew1) | exact HB.out))) : w.heap.size ≤ gb514)); have n3_ := Aside0.mk ((by rw [hg]; exact (below_size (by repeat (first | (with_reducible first | exact HB.out | apply below_alloc | apply pw_below_drewN | apply below_drew1) | exact HB.out))) : w.heap.size ≤ gb514)); clear HB; have HB := n0_; have BK514 := n1_; have GW514 := n2_; have GE514 := n3_; clear n0_ n1_ n2_ n3_; clear hb hbox hg; have hcz8_0 : w7.cell? ⟨gb514, 0, none⟩ = some (.int .i64 a0_0) := (blk_cell BK514.out 0).trans rfl; have hcz8_1 : w7.cell? ⟨gb514, 1, none⟩ = some (.int .i64 a0_1) := (blk_cell BK514.out 1).trans rfl; have hcz8_2 : w7.cell? ⟨gb514, 2, none⟩ = some (.int .i64 a0_2) := (blk_cell BK514.out 2).trans rfl; have hcz8_3 : w7.cell? ⟨gb514, 3, none⟩ = some (.int .u64 a0_3) := (blk_cell BK514.out 3).trans rfl; have hcz8_4 : w7.cell? ⟨gb514, 4, none⟩ = some (.slice A0_4 l0_4.length c0_4) := (blk_cell BK514.out 4).trans rfl; have hcz8_5 : w7.cell? ⟨gb514, 5, none⟩ = some (.int .i64 a0_5) := (blk_cell BK514.out 5).trans rfl; have hcz8_6 : w7.cell? ⟨gb514, 6, none⟩ = some (.int .u64 a0_6) := (blk_cell BK514.out 6).trans rfl; have hcz8_7 : w7.cell? ⟨gb514, 7, none⟩ = some (.int .i64 a0_7) := (blk_cell BK514.out 7).trans rfl; have hcz8_8 : w7.cell? ⟨gb514, 8, none⟩ = some (.int .i64 a0_8) := (blk_cell BK514.out 8).trans rfl; have hfz8_0 := blk_frozen BK514.out 0; have hfz8_1 := blk_frozen BK514.out 1; have hfz8_2 := blk_frozen BK514.out 2; have hfz8_3 := blk_frozen BK514.out 3; have hfz8_4 := blk_frozen BK514.out 4; have hfz8_5 := blk_frozen BK514.out 5; have hfz8_6 := blk_frozen BK514.out 6; have hfz8_7 := blk_frozen BK514.out 7; have hfz8_8 := blk_frozen BK514.out 8) | ((with_reducible refine gate_callee (f := 21) rfl ?_); refine goesL_ (some 27) rfl rfl Try.func21 (by kernel_rfl) rfl #[.agg #[.int .u64 a0_3, .slice A0_4 l0_4.length c0_4]] rfl (by (try simp only [List.map_toArray, List.map_cons, List.map_nil]); first | done | rfl | (simp only [List.length_drop, List.length_take]; rfl)) ?_; (with_reducible refine (tattlelaw18_Few.calls a0_3 (fun k_ => k_ < w.heap.size) _ _ l0_4 t515 t516 _ ?side1 A3.out).mono ?_); (case side1 => exact Kd.V_mk HC0_4.out (Kd.F_below (Kd.C_F (Kd.heap_int .i64) HR0_4.out) (by repeat (first | (with_reducible first | exact HB.out | apply below_alloc | apply pw_below_drewN | apply below_drew1 | refine below_set ?_ GE514.out) | exact HB.out)))); rintro e w9 ⟨v517, rfl, ho0, hb⟩; refine ⟨_, rfl, ?_⟩; have n0_ := Aside0.mk (Kd.V_lower (Kd.V_mono (ok' := fun k_ => k_ ≠ gb514) ho0 (fun k_ hk_ => Or.elim hk_ (fun hs_ => fun e_ => Nat.not_le.2 hs_ (by rw [e_]; exact GW514.out)) (fun hn_ => (Kd.freshB (g := gb514) (o := .cells #[.int .i64 a0_0, .int .i64 a0_1, .int .i64 a0_2, .int .u64 a0_3, .slice A0_4 l0_4.length c0_4, .int .i64 a0_5, .int .u64 a0_6, .int .i64 a0_7, .int .i64 a0_8] 54 (0, 0)) (by (with_reducible repeat (first | refine blk_drewN ?_ _ | refine blk_drew ?_ | refine blk_alloc ?_ _)); exact BK514.out) k_ hn_)))) (below_size (by repeat (first | (with_reducible first | exact HB.out | apply below_alloc | apply pw_below_drewN | apply below_drew1 | refine below_set ?_ GE514.out) | exact HB.out)))); have n1_ := Aside0.mk (blk_below (g := gb514) (o := .cells #[.int .i64 a0_0, .int .i64 a0_1, .int .i64 a0_2, .int .u64 a0_3, .slice A0_4 l0_4.length c0_4, .int .i64 a0_5, .int .u64 a0_6, .int .i64 a0_7, .int .i64 a0_8] 54 (0, 0)) (by (with_reducible repeat (first | refine blk_drewN ?_ _ | refine blk_drew ?_ | refine blk_alloc ?_ _)); exact BK514.out) hb); have n2_ := Aside0.mk (below_step (by repeat (first | (with_reducible first | exact HB.out | apply below_alloc | apply pw_below_drewN | apply below_drew1 | refine below_set ?_ GE514.out) | exact HB.out)) hb); clear BK514; clear HB; have HO518 := n0_; have BK514 := n1_; have HB := n2_; clear n0_ n1_ n2_; (try clear hb); (try clear hb2); (try clear hk); (try clear hi); (try clear ho0)) | ((with_reducible refine gate_dst (N := 5) rfl ?_); refine box_event ?hg (N := 5) ?hd (cs := #[.int .u64 0, .slice none 0 0]) (t := 52) ?hr ?_; (case hd => rfl); (case hg => rfl); (case hr => first | (go_simp; done) | (go_simp; rfl)); intro gb519 hg w10 hbox hb; have n0_ := Aside0.mk (Kd.V_below (Kd.V_elderB (by (with_reducible repeat (first | apply Kd.V_alloc | apply Kd.V_drewN | apply Kd.V_drew)); exact HO518.out) gb519 (Nat.le_of_eq hg.symm)) hb); have n1_ := Aside0.mk (blk_below (g := gb514) (o := .cells #[.int .i64 a0_0, .int .i64 a0_1, .int .i64 a0_2, .int .u64 a0_3, .slice A0_4 l0_4.length c0_4, .int .i64 a0_5, .int .u64 a0_6, .int .i64 a0_7, .int .i64 a0_8] 54 (0, 0)) (by (with_reducible repeat (first | refine blk_drewN ?_ _ | refine blk_drew ?_ | refine blk_alloc ?_ _)); exact BK514.out) hb); have n2_ := Aside0.mk (below_step (by repeat (first | (with_reducible first | exact HB.out | apply below_alloc | apply pw_below_drewN | apply below_drew1 | refine below_set ?_ GE514.out) | exact HB.out)) hb); have n3_ := Aside0.mk (hbox); have n4_ := Aside0.mk ((by rw [hg]; exact (below_size (by repeat (first | (with_reducible first | exact HB.out | apply below_alloc | apply pw_below_drewN | apply below_drew1 | refine below_set ?_ GE514.out) | exact HB.out))) : w.heap.size ≤ gb519)); have n5_ := Aside0.mk ((by rw [hg]; exact (below_size (by repeat (first | (with_reducible first | exact HB.out | apply below_alloc | apply pw_below_drewN | apply below_drew1 | refine below_set ?_ GE514.out) | exact HB.out))) : w.heap.size ≤ gb519)); have n6_ := Aside0.mk ((by rw [hg]; exact Nat.ne_of_lt (blk_lt (g := gb514) (o := .cells #[.int .i64 a0_0, .int .i64 a0_1, .int .i64 a0_2, .int .u64 a0_3, .slice A0_4 l0_4.length c0_4, .int .i64 a0_5, .int .u64 a0_6, .int .i64 a0_7, .int .i64 a0_8] 54 (0, 0)) (by (with_reducible repeat (first | refine blk_drewN ?_ _ | refine blk_drew ?_ | refine blk_alloc ?_ _)); exact BK514.out)) : gb514 ≠ gb519)); have n7_ := Aside0.mk ((by rw [hg]; exact Nat.ne_of_gt (blk_lt (g := gb514) (o := .cells #[.int .i64 a0_0, .int .i64 a0_1, .int .i64 a0_2, .int .u64 a0_3, .slice A0_4 l0_4.length c0_4, .int .i64 a0_5, .int .u64 a0_6, .int .i64 a0_7, .int .i64 a0_8] 54 (0, 0)) (by (with_reducible repeat (first | refine blk_drewN ?_ _ | refine blk_drew ?_ | refine blk_alloc ?_ _)); exact BK514.out)) : gb519 ≠ gb514)); clear HO518; clear BK514; clear HB; have HO518 := n0_; have BK514 := n1_; have HB := n2_; have BK519 := n3_; have GW519 := n4_; have GE519 := n5_; have NB514_519 := n6_; have NB519_514 := n7_; clear n0_ n1_ n2_ n3_ n4_ n5_ n6_ n7_; clear hb hbox hg; have hnb11 := NB519_514.out; have hnc11 := NB514_519.out; have hcz12_0 : w10.cell? ⟨gb519, 0, none⟩ = some (.int .u64 0) := (blk_cell BK519.out 0).trans rfl; have hcz12_1 : w10.cell? ⟨gb519, 1, none⟩ = some (.slice none 0 0) := (blk_cell BK519.out 1).trans rfl; have hfz12_0 := blk_frozen BK519.out 0; have hfz12_1 := blk_frozen BK519.out 1; obtain ⟨Ao13, co13, eo13⟩ := Kd.V_slice HO518.out; subst eo13) | ((with_reducible refine gate_store (t := 52) (p := 5) rfl ?_); refine store_event (t := 52) (p := 5) (v := ?vo_w14) (w1 := ((w10.setCell ⟨gb519, 0, none⟩ (.int .u64 t515)).setCell ⟨gb519, 1, none⟩ (.slice Ao13 t516.length co13))) ?hg ?ho ?hn ?hr ?_; (case ho => rfl); (case hg => rfl); (case hn => rfl); (case hr => first | (go_simp; done) | (go_simp; rfl)); intro w14 hw; have n0_ : Aside0 (Kd.V (Kd.int .i64) 2 w14 w.heap.size (fun k_ => k_ ≠ gb514 ∧ k_ ≠ gb519) (.slice Ao13 t516.length co13) t516) := ⟨(by rw [hw]; exact (by (with_reducible repeat (first | apply Kd.V_alloc | apply Kd.V_drewN | apply Kd.V_drew)); exact Kd.V_mono (Kd.V_far (p := ⟨gb519, 1, none⟩) (Kd.V_far (p := ⟨gb519, 0, none⟩) (Kd.V_mono HO518.out (fun k_ hk => (⟨hk, hk.2⟩ : _ ∧ k_ ≠ gb519))) (fun _ hk => hk.2) (.int .u64 t515)) (fun _ hk => hk.2) (.slice Ao13 t516.length co13)) (fun _ hk => ⟨hk.1.1, hk.1.2⟩)))⟩; have n1_ : Aside0 (w14.heap[gb514]? = some (.cells #[.int .i64 a0_0, .int .i64 a0_1, .int .i64 a0_2, .int .u64 a0_3, .slice A0_4 l0_4.length c0_4, .int .i64 a0_5, .int .u64 a0_6, .int .i64 a0_7, .int .i64 a0_8] 54 (0, 0))) := ⟨(by rw [hw]; exact (by (with_reducible repeat (first | refine blk_drewN ?_ _ | refine blk_drew ?_ | refine blk_alloc ?_ _)); refine blk_far ?_ NB514_519.out _; (with_reducible repeat (first | refine blk_drewN ?_ _ | refine blk_drew ?_ | refine blk_alloc ?_ _)); refine blk_far ?_ NB514_519.out _; (with_reducible repeat (first | refine blk_drewN ?_ _ | refine blk_drew ?_ | refine blk_alloc ?_ _)); exact BK514.out))⟩; have n2_ : Aside0 (w14.heap[gb519]? = some (.cells #[.int .u64 t515, .slice Ao13 t516.length co13] 52 (0, 0))) := ⟨(by rw [hw]; exact (by (with_reducible repeat (first | refine blk_drewN ?_ _ | refine blk_drew ?_ | refine blk_alloc ?_ _)); refine blk_put (cs := #[.int .u64 t515, .slice none 0 0]) ?_ 1 _ rfl; (with_reducible repeat (first | refine blk_drewN ?_ _ | refine blk_drew ?_ | refine blk_alloc ?_ _)); refine blk_put (cs := #[.int .u64 0, .slice none 0 0]) ?_ 0 _ rfl; (with_reducible repeat (first | refine blk_drewN ?_ _ | refine blk_drew ?_ | refine blk_alloc ?_ _)); exact BK519.out))⟩; have n3_ : Aside0 (Below w.heap.size w w14) := ⟨(by rw [hw]; exact (by repeat (first | (with_reducible first | exact HB.out | apply below_alloc | apply pw_below_drewN | apply below_drew1 | refine below_set ?_ GE514.out | refine below_set ?_ GE519.out) | exact HB.out)))⟩; clear hw; clear HO518; clear BK514; clear BK519; clear HB; have HO518 := n0_; have BK514 := n1_; have BK519 := n2_; have HB := n3_; clear n0_ n1_ n2_ n3_; have hcz15_0 : w14.cell? ⟨gb519, 0, none⟩ = some (.int .u64 t515) := (blk_cell BK519.out 0).trans rfl; have hcz15_1 : w14.cell? ⟨gb519, 1, none⟩ = some (.slice Ao13 t516.length co13) := (blk_cell BK519.out 1).trans rfl; have hfz15_0 := blk_frozen BK519.out 0; have hfz15_1 := blk_frozen BK519.out 1; have hcz16_0 : w14.cell? ⟨gb514, 0, none⟩ = some (.int .i64 a0_0) := (blk_cell BK514.out 0).trans rfl; have hcz16_1 : w14.cell? ⟨gb514, 1, none⟩ = some (.int .i64 a0_1) := (blk_cell BK514.out 1).trans rfl; have hcz16_2 : w14.cell? ⟨gb514, 2, none⟩ = some (.int .i64 a0_2) := (blk_cell BK514.out 2).trans rfl; have hcz16_3 : w14.cell? ⟨gb514, 3, none⟩ = some (.int .u64 a0_3) := (blk_cell BK514.out 3).trans rfl; have hcz16_4 : w14.cell? ⟨gb514, 4, none⟩ = some (.slice A0_4 l0_4.length c0_4) := (blk_cell BK514.out 4).trans rfl; have hcz16_5 : w14.cell? ⟨gb514, 5, none⟩ = some (.int .i64 a0_5) := (blk_cell BK514.out 5).trans rfl; have hcz16_6 : w14.cell? ⟨gb514, 6, none⟩ = some (.int .u64 a0_6) := (blk_cell BK514.out 6).trans rfl; have hcz16_7 : w14.cell? ⟨gb514, 7, none⟩ = some (.int .i64 a0_7) := (blk_cell BK514.out 7).trans rfl; have hcz16_8 : w14.cell? ⟨gb514, 8, none⟩ = some (.int .i64 a0_8) := (blk_cell BK514.out 8).trans rfl; have hfz16_0 := blk_frozen BK514.out 0; have hfz16_1 := blk_frozen BK514.out 1; have hfz16_2 := blk_frozen BK514.out 2; have hfz16_3 := blk_frozen BK514.out 3; have hfz16_4 := blk_frozen BK514.out 4; have hfz16_5 := blk_frozen BK514.out 5; have hfz16_6 := blk_frozen BK514.out 6; have hfz16_7 := blk_frozen BK514.out 7; have hfz16_8 := blk_frozen BK514.out 8) | ((with_reducible refine gate_callee (f := 22) rfl ?_); refine goesL_ (some 36) rfl rfl Try.func22 (by kernel_rfl) rfl #[.agg #[.int .u64 t515, .slice Ao13 t516.length co13], .int .i64 a0_5, .int .u64 t515, .int .i64 a0_7] rfl (by (try simp only [List.map_toArray, List.map_cons, List.map_nil]); first | done | rfl | (simp only [List.length_drop, List.length_take]; rfl)) ?_; (with_reducible refine (lead_Granted.calls k t515 (fun k_ => (k_ ≠ gb514 ∧ k_ ≠ gb519)) _ _ t516 a0_5 t515 a0_7 t520 t521 t524 _ ?side1 A4.out).mono ?_); (case side1 => exact HO518.out); rintro e w17 ⟨v522, rfl, ho0, hb⟩; refine ⟨_, rfl, ?_⟩; have n0_ := Aside0.mk (Kd.V_below (by (with_reducible repeat (first | apply Kd.V_alloc | apply Kd.V_drewN | apply Kd.V_drew)); exact HO518.out) hb); have n1_ := Aside0.mk (Kd.V_lower (Kd.V_mono (ok' := fun k_ => k_ ≠ gb514 ∧ k_ ≠ gb519) ho0 (fun k_ hk_ => ⟨Or.elim hk_ (fun hs_ => hs_.1) (fun hn_ => (Kd.freshB (g := gb514) (o := .cells #[.int .i64 a0_0, .int .i64 a0_1, .int .i64 a0_2, .int .u64 a0_3, .slice A0_4 l0_4.length c0_4, .int .i64 a0_5, .int .u64 a0_6, .int .i64 a0_7, .int .i64 a0_8] 54 (0, 0)) (by (with_reducible repeat (first | refine blk_drewN ?_ _ | refine blk_drew ?_ | refine blk_alloc ?_ _)); exact BK514.out) k_ hn_)), Or.elim hk_ (fun hs_ => hs_.2) (fun hn_ => (Kd.freshB (g := gb519) (o := .cells #[.int .u64 t515, .slice Ao13 t516.length co13] 52 (0, 0)) (by (with_reducible repeat (first | refine blk_drewN ?_ _ | refine blk_drew ?_ | refine blk_alloc ?_ _)); exact BK519.out) k_ hn_))⟩)) (below_size (by repeat (first | (with_reducible first | exact HB.out | apply below_alloc | apply pw_below_drewN | apply below_drew1 | refine below_set ?_ GE514.out | refine below_set ?_ GE519.out) | exact HB.out)))); have n2_ := Aside0.mk (blk_below (g := gb514) (o := .cells #[.int .i64 a0_0, .int .i64 a0_1, .int .i64 a0_2, .int .u64 a0_3, .slice A0_4 l0_4.length c0_4, .int .i64 a0_5, .int .u64 a0_6, .int .i64 a0_7, .int .i64 a0_8] 54 (0, 0)) (by (with_reducible repeat (first | refine blk_drewN ?_ _ | refine blk_drew ?_ | refine blk_alloc ?_ _)); exact BK514.out) hb); have n3_ := Aside0.mk (blk_below (g := gb519) (o := .cells #[.int .u64 t515, .slice Ao13 t516.length co13] 52 (0, 0)) (by (with_reducible repeat (first | refine blk_drewN ?_ _ | refine blk_drew ?_ | refine blk_alloc ?_ _)); exact BK519.out) hb); have n4_ := Aside0.mk (below_step (by repeat (first | (with_reducible first | exact HB.out | apply below_alloc | apply pw_below_drewN | apply below_drew1 | refine below_set ?_ GE514.out | refine below_set ?_ GE519.out) | exact HB.out)) hb); clear HO518; clear BK514; clear BK519; clear HB; have HO518 := n0_; have HO523 := n1_; have BK514 := n2_; have BK519 := n3_; have HB := n4_; clear n0_ n1_ n2_ n3_ n4_; (try clear hb); (try clear hb2); (try clear hk); (try clear hi); (try clear ho0)) | ((with_reducible refine gate_dst (N := 6) rfl ?_); refine box_event ?hg (N := 6) ?hd (cs := #[.int .u64 0, .slice none 0 0]) (t := 52) ?hr ?_; (case hd => rfl); (case hg => rfl); (case hr => first | (go_simp; done) | (go_simp; rfl)); intro gb525 hg w18 hbox hb; have n0_ := Aside0.mk (Kd.V_below (Kd.V_elderB (by (with_reducible repeat (first | apply Kd.V_alloc | apply Kd.V_drewN | apply Kd.V_drew)); exact HO518.out) gb525 (Nat.le_of_eq hg.symm)) hb); have n1_ := Aside0.mk (Kd.V_below (Kd.V_elderB (by (with_reducible repeat (first | apply Kd.V_alloc | apply Kd.V_drewN | apply Kd.V_drew)); exact HO523.out) gb525 (Nat.le_of_eq hg.symm)) hb); have n2_ := Aside0.mk (blk_below (g := gb514) (o := .cells #[.int .i64 a0_0, .int .i64 a0_1, .int .i64 a0_2, .int .u64 a0_3, .slice A0_4 l0_4.length c0_4, .int .i64 a0_5, .int .u64 a0_6, .int .i64 a0_7, .int .i64 a0_8] 54 (0, 0)) (by (with_reducible repeat (first | refine blk_drewN ?_ _ | refine blk_drew ?_ | refine blk_alloc ?_ _)); exact BK514.out) hb); have n3_ := Aside0.mk (blk_below (g := gb519) (o := .cells #[.int .u64 t515, .slice Ao13 t516.length co13] 52 (0, 0)) (by (with_reducible repeat (first | refine blk_drewN ?_ _ | refine blk_drew ?_ | refine blk_alloc ?_ _)); exact BK519.out) hb); have n4_ := Aside0.mk (below_step (by repeat (first | (with_reducible first | exact HB.out | apply below_alloc | apply pw_below_drewN | apply below_drew1 | refine below_set ?_ GE514.out | refine below_set ?_ GE519.out) | exact HB.out)) hb); have n5_ := Aside0.mk (hbox); have n6_ := Aside0.mk ((by rw [hg]; exact (below_size (by repeat (first | (with_reducible first | exact HB.out | apply below_alloc | apply pw_below_drewN | apply below_drew1 | refine below_set ?_ GE514.out | refine below_set ?_ GE519.out) | exact HB.out))) : w.heap.size ≤ gb525)); have n7_ := Aside0.mk ((by rw [hg]; exact (below_size (by repeat (first | (with_reducible first | exact HB.out | apply below_alloc | apply pw_below_drewN | apply below_drew1 | refine below_set ?_ GE514.out | refine below_set ?_ GE519.out) | exact HB.out))) : w.heap.size ≤ gb525)); have n8_ := Aside0.mk ((by rw [hg]; exact Nat.ne_of_lt (blk_lt (g := gb514) (o := .cells #[.int .i64 a0_0, .int .i64 a0_1, .int .i64 a0_2, .int .u64 a0_3, .slice A0_4 l0_4.length c0_4, .int .i64 a0_5, .int .u64 a0_6, .int .i64 a0_7, .int .i64 a0_8] 54 (0, 0)) (by (with_reducible repeat (first | refine blk_drewN ?_ _ | refine blk_drew ?_ | refine blk_alloc ?_ _)); exact BK514.out)) : gb514 ≠ gb525)); have n9_ := Aside0.mk ((by rw [hg]; exact Nat.ne_of_gt (blk_lt (g := gb514) (o := .cells #[.int .i64 a0_0, .int .i64 a0_1, .int .i64 a0_2, .int .u64 a0_3, .slice A0_4 l0_4.length c0_4, .int .i64 a0_5, .int .u64 a0_6, .int .i64 a0_7, .int .i64 a0_8] 54 (0, 0)) (by (with_reducible repeat (first | refine blk_drewN ?_ _ | refine blk_drew ?_ | refine blk_alloc ?_ _)); exact BK514.out)) : gb525 ≠ gb514)); have n10_ := Aside0.mk ((by rw [hg]; exact Nat.ne_of_lt (blk_lt (g := gb519) (o := .cells #[.int .u64 t515, .slice Ao13 t516.length co13] 52 (0, 0)) (by (with_reducible repeat (first | refine blk_drewN ?_ _ | refine blk_drew ?_ | refine blk_alloc ?_ _)); exact BK519.out)) : gb519 ≠ gb525)); have n11_ := Aside0.mk ((by rw [hg]; exact Nat.ne_of_gt (blk_lt (g := gb519) (o := .cells #[.int .u64 t515, .slice Ao13 t516.length co13] 52 (0, 0)) (by (with_reducible repeat (first | refine blk_drewN ?_ _ | refine blk_drew ?_ | refine blk_alloc ?_ _)); exact BK519.out)) : gb525 ≠ gb519)); clear HO518; clear HO523; clear BK514; clear BK519; clear HB; have HO518 := n0_; have HO523 := n1_; have BK514 := n2_; have BK519 := n3_; have HB := n4_; have BK525 := n5_; have GW525 := n6_; have GE525 := n7_; have NB514_525 := n8_; have NB525_514 := n9_; have NB519_525 := n10_; have NB525_519 := n11_; clear n0_ n1_ n2_ n3_ n4_ n5_ n6_ n7_ n8_ n9_ n10_ n11_; clear hb hbox hg; have hnb19 := NB525_514.out; have hnc19 := NB514_525.out; have hnb20 := NB525_519.out; have hnc20 := NB519_525.out; have hcz21_0 : w18.cell? ⟨gb525, 0, none⟩ = some (.int .u64 0) := (blk_cell BK525.out 0).trans rfl; have hcz21_1 : w18.cell? ⟨gb525, 1, none⟩ = some (.slice none 0 0) := (blk_cell BK525.out 1).trans rfl; have hfz21_0 := blk_frozen BK525.out 0; have hfz21_1 := blk_frozen BK525.out 1; obtain ⟨Ao22, co22, eo22⟩ := Kd.V_slice HO523.out; subst eo22; have hcz23_0 : w18.cell? ⟨gb514, 0, none⟩ = some (.int .i64 a0_0) := (blk_cell BK514.out 0).trans rfl; have hcz23_1 : w18.cell? ⟨gb514, 1, none⟩ = some (.int .i64 a0_1) := (blk_cell BK514.out 1).trans rfl; have hcz23_2 : w18.cell? ⟨gb514, 2, none⟩ = some (.int .i64 a0_2) := (blk_cell BK514.out 2).trans rfl; have hcz23_3 : w18.cell? ⟨gb514, 3, none⟩ = some (.int .u64 a0_3) := (blk_cell BK514.out 3).trans rfl; have hcz23_4 : w18.cell? ⟨gb514, 4, none⟩ = some (.slice A0_4 l0_4.length c0_4) := (blk_cell BK514.out 4).trans rfl; have hcz23_5 : w18.cell? ⟨gb514, 5, none⟩ = some (.int .i64 a0_5) := (blk_cell BK514.out 5).trans rfl; have hcz23_6 : w18.cell? ⟨gb514, 6, none⟩ = some (.int .u64 a0_6) := (blk_cell BK514.out 6).trans rfl; have hcz23_7 : w18.cell? ⟨gb514, 7, none⟩ = some (.int .i64 a0_7) := (blk_cell BK514.out 7).trans rfl; have hcz23_8 : w18.cell? ⟨gb514, 8, none⟩ = some (.int .i64 a0_8) := (blk_cell BK514.out 8).trans rfl; have hfz23_0 := blk_frozen BK514.out 0; have hfz23_1 := blk_frozen BK514.out 1; have hfz23_2 := blk_frozen BK514.out 2; have hfz23_3 := blk_frozen BK514.out 3; have hfz23_4 := blk_frozen BK514.out 4; have hfz23_5 := blk_frozen BK514.out 5; have hfz23_6 := blk_frozen BK514.out 6; have hfz23_7 := blk_frozen BK514.out 7; have hfz23_8 := blk_frozen BK514.out 8; have hcz24_0 : w18.cell? ⟨gb519, 0, none⟩ = some (.int .u64 t515) := (blk_cell BK519.out 0).trans rfl; have hcz24_1 : w18.cell? ⟨gb519, 1, none⟩ = some (.slice Ao13 t516.length co13) := (blk_cell BK519.out 1).trans rfl; have hfz24_0 := blk_frozen BK519.out 0; have hfz24_1 := blk_frozen BK519.out 1) | ((with_reducible refine gate_callee (f := 23) rfl ?_); refine goesL_ (some 43) rfl rfl Try.func23 (by kernel_rfl) rfl #[.agg #[.int .i64 a0_0, .int .i64 a0_1, .int .i64 a0_2], .agg #[.int .u64 t515, .slice Ao13 t516.length co13]] rfl (by (try simp only [List.map_toArray, List.map_cons, List.map_nil]); first | done | rfl | (simp only [List.length_drop, List.length_take]; rfl)) ?_; (with_reducible refine (lead_Until.calls a0_0 a0_1 a0_2 t515 _ _ t516 t526 t527 t528 _ ?side1 ?side2 A5.out).mono ?_); (case side1 => refine (Kd.V_reads' (e := 2) (base := w.heap.size) (ok := fun k_ => ((k_ ≠ gb514 ∧ k_ ≠ gb519) ∧ k_ ≠ gb525)) (n := t516.length) (c := co13) ?_).2.2; exact (by (with_reducible repeat (first | apply Kd.V_alloc | apply Kd.V_drewN | apply Kd.V_drew)); exact (Kd.V_mono (Kd.V_far (p := ⟨gb525, 1, none⟩) (Kd.V_far (p := ⟨gb525, 0, none⟩) (Kd.V_mono HO518.out (fun k_ hk => (⟨hk, hk.2⟩ : _ ∧ k_ ≠ gb525))) (fun _ hk => hk.2) (.int .u64 t520)) (fun _ hk => hk.2) (.slice Ao22 t521.length co22)) (fun _ h_ => h_.1)))); (case side2 => exact (Kd.V_reads' HO518.out).2.1); rintro e w25 ⟨rfl, hb⟩; refine ⟨_, rfl, ?_⟩; have n0_ := Aside0.mk (Kd.V_below (by (with_reducible repeat (first | apply Kd.V_alloc | apply Kd.V_drewN | apply Kd.V_drew)); exact (Kd.V_mono (Kd.V_far (p := ⟨gb525, 1, none⟩) (Kd.V_far (p := ⟨gb525, 0, none⟩) (Kd.V_mono HO518.out (fun k_ hk => (⟨hk, hk.2⟩ : _ ∧ k_ ≠ gb525))) (fun _ hk => hk.2) (.int .u64 t520)) (fun _ hk => hk.2) (.slice Ao22 t521.length co22)) (fun _ h_ => h_.1))) hb); have n1_ := Aside0.mk (Kd.V_below (by (with_reducible repeat (first | apply Kd.V_alloc | apply Kd.V_drewN | apply Kd.V_drew)); exact (Kd.V_mono (Kd.V_far (p := ⟨gb525, 1, none⟩) (Kd.V_far (p := ⟨gb525, 0, none⟩) (Kd.V_mono HO523.out (fun k_ hk => (⟨hk, hk.2⟩ : _ ∧ k_ ≠ gb525))) (fun _ hk => hk.2) (.int .u64 t520)) (fun _ hk => hk.2) (.slice Ao22 t521.length co22)) (fun _ h_ => h_.1))) hb); have n2_ := Aside0.mk (blk_below (g := gb514) (o := .cells #[.int .i64 a0_0, .int .i64 a0_1, .int .i64 a0_2, .int .u64 a0_3, .slice A0_4 l0_4.length c0_4, .int .i64 a0_5, .int .u64 a0_6, .int .i64 a0_7, .int .i64 a0_8] 54 (0, 0)) (by (with_reducible repeat (first | refine blk_drewN ?_ _ | refine blk_drew ?_ | refine blk_alloc ?_ _)); refine blk_far ?_ NB514_525.out _; (with_reducible repeat (first | refine blk_drewN ?_ _ | refine blk_drew ?_ | refine blk_alloc ?_ _)); refine blk_far ?_ NB514_525.out _; (with_reducible repeat (first | refine blk_drewN ?_ _ | refine blk_drew ?_ | refine blk_alloc ?_ _)); exact BK514.out) hb); have n3_ := Aside0.mk (blk_below (g := gb519) (o := .cells #[.int .u64 t515, .slice Ao13 t516.length co13] 52 (0, 0)) (by (with_reducible repeat (first | refine blk_drewN ?_ _ | refine blk_drew ?_ | refine blk_alloc ?_ _)); refine blk_far ?_ NB519_525.out _; (with_reducible repeat (first | refine blk_drewN ?_ _ | refine blk_drew ?_ | refine blk_alloc ?_ _)); refine blk_far ?_ NB519_525.out _; (with_reducible repeat (first | refine blk_drewN ?_ _ | refine blk_drew ?_ | refine blk_alloc ?_ _)); exact BK519.out) hb); have n4_ := Aside0.mk (blk_below (g := gb525) (o := .cells #[.int .u64 t520, .slice Ao22 t521.length co22] 52 (0, 0)) (by (with_reducible repeat (first | refine blk_drewN ?_ _ | refine blk_drew ?_ | refine blk_alloc ?_ _)); refine blk_put (cs := #[.int .u64 t520, .slice none 0 0]) ?_ 1 _ rfl; (with_reducible repeat (first | refine blk_drewN ?_ _ | refine blk_drew ?_ | refine blk_alloc ?_ _)); refine blk_put (cs := #[.int .u64 0, .slice none 0 0]) ?_ 0 _ rfl; (with_reducible repeat (first | refine blk_drewN ?_ _ | refine blk_drew ?_ | refine blk_alloc ?_ _)); exact BK525.out) hb); have n5_ := Aside0.mk (below_step (by repeat (first | (with_reducible first | exact HB.out | apply below_alloc | apply pw_below_drewN | apply below_drew1 | refine below_set ?_ GE514.out | refine below_set ?_ GE519.out | refine below_set ?_ GE525.out) | exact HB.out)) hb); clear HO518; clear HO523; clear BK514; clear BK519; clear BK525; clear HB; have HO518 := n0_; have HO523 := n1_; have BK514 := n2_; have BK519 := n3_; have BK525 := n4_; have HB := n5_; clear n0_ n1_ n2_ n3_ n4_ n5_; (try clear hb); (try clear hb2); (try clear hk); (try clear hi)))
  (try simp only [Act.put, List.setIfInBounds_toArray, List.set_cons_zero, List.set_cons_succ])
  go_cut [52] (fun v52 wc => ∃ (kq : Nat) (x52_5 : Bool), v52 = .bool x52_5 ∧ Aside0 (tattlelaw18_LeadMore.j0 kq a1 t526 t527 x52_5 a0_0 a0_1 a0_2 a0_3 l0_4 a0_5 a0_6 a0_7 a0_8 t515 t516 t520 t521 = some r) ∧ Aside0 (kq ≤ k) ∧ Aside0 (Kd.V (Kd.int .i64) 2 wc w.heap.size (fun k_ => k_ ≠ gb514 ∧ k_ ≠ gb519 ∧ k_ ≠ gb525) (.slice Ao13 t516.length co13) t516) ∧ Aside0 (Kd.V (Kd.int .i64) 2 wc w.heap.size (fun k_ => k_ ≠ gb514 ∧ k_ ≠ gb519 ∧ k_ ≠ gb525) (.slice Ao22 t521.length co22) t521) ∧ Aside0 (wc.heap[gb514]? = some (.cells #[.int .i64 a0_0, .int .i64 a0_1, .int .i64 a0_2, .int .u64 a0_3, (.slice A0_4 l0_4.length c0_4), .int .i64 a0_5, .int .u64 a0_6, .int .i64 a0_7, .int .i64 a0_8] 54 (0, 0))) ∧ Aside0 (wc.heap[gb519]? = some (.cells #[.int .u64 t515, (.slice Ao13 t516.length co13)] 52 (0, 0))) ∧ Aside0 (wc.heap[gb525]? = some (.cells #[.int .u64 t520, (.slice Ao22 t521.length co22)] 52 (0, 0))) ∧ Aside0 (Below w.heap.size w wc))
  case first =>
    have H := HC6.out
    clear HC6
    by_cases c26 : t524 = 0
    · rw [if_pos c26] at H
      have c26b0 : (t524 == 0) = true := beq_iff_eq.mpr c26
      have c26b1 : (t524 != 0) = false := bne_eq_false_iff_eq.mpr c26
      clear c26
      (first | rw [c26b0] | (simp only [i64_w, i32_w]; rw [c26b0]) | skip)
      have H' := Aside0.mk H
      clear H
      go_wp2
      go_meet
      case rel => exact ⟨_, ((t528 != 0)), (by first | rfl | (simp; done) | (simp [*]; done)), H', ⟨by first | omega | exact Nat.le_refl _⟩, ⟨by (with_reducible repeat (first | apply Kd.V_alloc | apply Kd.V_drewN | apply Kd.V_drew)); exact Kd.V_mono HO518.out (fun _ hk => ⟨hk.1.1, ⟨hk.1.2, hk.2⟩⟩)⟩, ⟨by (with_reducible repeat (first | apply Kd.V_alloc | apply Kd.V_drewN | apply Kd.V_drew)); exact Kd.V_mono HO523.out (fun _ hk => ⟨hk.1.1, ⟨hk.1.2, hk.2⟩⟩)⟩, ⟨by (with_reducible repeat (first | refine blk_drewN ?_ _ | refine blk_drew ?_ | refine blk_alloc ?_ _)); exact BK514.out⟩, ⟨by (with_reducible repeat (first | refine blk_drewN ?_ _ | refine blk_drew ?_ | refine blk_alloc ?_ _)); exact BK519.out⟩, ⟨by (with_reducible repeat (first | refine blk_drewN ?_ _ | refine blk_drew ?_ | refine blk_alloc ?_ _)); exact BK525.out⟩, ⟨by repeat (first | (with_reducible first | exact HB.out | apply below_alloc | apply pw_below_drewN | apply below_drew1 | refine below_set ?_ GE514.out | refine below_set ?_ GE519.out | refine below_set ?_ GE525.out) | exact HB.out)⟩⟩
    · rw [if_neg c26] at H
      have c26b0 : (t524 == 0) = false := beq_eq_false_iff_ne.mpr c26
      have c26b1 : (t524 != 0) = true := bne_iff_ne.mpr c26
      (first | rw [c26b0] | (simp only [i64_w, i32_w]; rw [c26b0]) | skip)
      have H' := Aside0.mk H
      clear H
      go_wp2
      go_meet
      case rel => exact ⟨_, (true), (by first | rfl | (simp; done) | (simp [*]; done)), H', ⟨by first | omega | exact Nat.le_refl _⟩, ⟨by (with_reducible repeat (first | apply Kd.V_alloc | apply Kd.V_drewN | apply Kd.V_drew)); exact Kd.V_mono HO518.out (fun _ hk => ⟨hk.1.1, ⟨hk.1.2, hk.2⟩⟩)⟩, ⟨by (with_reducible repeat (first | apply Kd.V_alloc | apply Kd.V_drewN | apply Kd.V_drew)); exact Kd.V_mono HO523.out (fun _ hk => ⟨hk.1.1, ⟨hk.1.2, hk.2⟩⟩)⟩, ⟨by (with_reducible repeat (first | refine blk_drewN ?_ _ | refine blk_drew ?_ | refine blk_alloc ?_ _)); exact BK514.out⟩, ⟨by (with_reducible repeat (first | refine blk_drewN ?_ _ | refine blk_drew ?_ | refine blk_alloc ?_ _)); exact BK519.out⟩, ⟨by (with_reducible repeat (first | refine blk_drewN ?_ _ | refine blk_drew ?_ | refine blk_alloc ?_ _)); exact BK525.out⟩, ⟨by repeat (first | (with_reducible first | exact HB.out | apply below_alloc | apply pw_below_drewN | apply below_drew1 | refine below_set ?_ GE514.out | refine below_set ?_ GE519.out | refine below_set ?_ GE525.out) | exact HB.out)⟩⟩
  case rest =>
    clear HC6
    try clear c1
    try clear c2
    try clear p2
    try clear c9
    try clear c11
    try clear c19
    try clear c20
    try clear c21
    try clear c22
    try clear c23
    try clear c26
    try clear c26b0
    try clear c26b1
    try clear hcz12_0
    try clear hcz12_1
    try clear hcz15_0
    try clear hcz15_1
    try clear hcz16_0
    try clear hcz16_1
    try clear hcz16_2
    try clear hcz16_3
    try clear hcz16_4
    try clear hcz16_5
    try clear hcz16_6
    try clear hcz16_7
    try clear hcz16_8
    try clear hcz21_0
    try clear hcz21_1
    try clear hcz23_0
    try clear hcz23_1
    try clear hcz23_2
    try clear hcz23_3
    try clear hcz23_4
    try clear hcz23_5
    try clear hcz23_6
    try clear hcz23_7
    try clear hcz23_8
    try clear hcz24_0
    try clear hcz24_1
    try clear hcz8_0
    try clear hcz8_1
    try clear hcz8_2
    try clear hcz8_3
    try clear hcz8_4
    try clear hcz8_5
    try clear hcz8_6
    try clear hcz8_7
    try clear hcz8_8
    try clear hfz12_0
    try clear hfz12_1
    try clear hfz15_0
    try clear hfz15_1
    try clear hfz16_0
    try clear hfz16_1
    try clear hfz16_2
    try clear hfz16_3
    try clear hfz16_4
    try clear hfz16_5
    try clear hfz16_6
    try clear hfz16_7
    try clear hfz16_8
    try clear hfz21_0
    try clear hfz21_1
    try clear hfz23_0
    try clear hfz23_1
    try clear hfz23_2
    try clear hfz23_3
    try clear hfz23_4
    try clear hfz23_5
    try clear hfz23_6
    try clear hfz23_7
    try clear hfz23_8
    try clear hfz24_0
    try clear hfz24_1
    try clear hfz8_0
    try clear hfz8_1
    try clear hfz8_2
    try clear hfz8_3
    try clear hfz8_4
    try clear hfz8_5
    try clear hfz8_6
    try clear hfz8_7
    try clear hfz8_8
    obtain ⟨kq, x52_5, rfl, HA, HJ5, HO_520001, HO_526001, BK514, BK519, BK525, HB⟩ := hcut
    cases kq with
    | zero => exact absurd HA.out (by simp [tattlelaw18_LeadMore.j0])
    | succ kj5 =>
      have H := HA.out
      clear HA
      simp only [tattlelaw18_LeadMore.j0] at H
      by_cases c27 : x52_5 = true
      · subst c27
        have H1 : ((tattlelaw18_awakeT.f).bind fun t529 => (some t529)) = some r := by rw [if_pos rfl] at H; exact H
        clear H
        have H := H1
        clear H1
        replace H := Option.bind_eq_some_iff.mp H
        obtain ⟨t529, A280, H⟩ := H
        replace H : (some t529) = some r := H
        have A28 := Aside0.mk A280
        clear A280
        obtain rfl := Option.some.inj H
        go_wp2_with (first | ((with_reducible refine gate_callee (f := 24) rfl ?_); refine goesL_ (some 53) rfl rfl Try.func24 (by kernel_rfl) rfl #[] rfl (by (try simp only [List.map_toArray, List.map_cons, List.map_nil]); first | done | rfl | (simp only [List.length_drop, List.length_take]; rfl)) ?_; (with_reducible refine (tattlelaw18_awakeT.calls  t529 _ A28.out).mono ?_); rintro e w29 ⟨rfl, hb⟩; refine ⟨_, rfl, ?_⟩; have n0_ := Aside0.mk (Kd.V_below (by (with_reducible repeat (first | apply Kd.V_alloc | apply Kd.V_drewN | apply Kd.V_drew)); exact HO_520001.out) hb); have n1_ := Aside0.mk (Kd.V_below (by (with_reducible repeat (first | apply Kd.V_alloc | apply Kd.V_drewN | apply Kd.V_drew)); exact HO_526001.out) hb); have n2_ := Aside0.mk (blk_below (g := gb514) (o := .cells #[.int .i64 a0_0, .int .i64 a0_1, .int .i64 a0_2, .int .u64 a0_3, .slice A0_4 l0_4.length c0_4, .int .i64 a0_5, .int .u64 a0_6, .int .i64 a0_7, .int .i64 a0_8] 54 (0, 0)) (by (with_reducible repeat (first | refine blk_drewN ?_ _ | refine blk_drew ?_ | refine blk_alloc ?_ _)); exact BK514.out) hb); have n3_ := Aside0.mk (blk_below (g := gb519) (o := .cells #[.int .u64 t515, .slice Ao13 t516.length co13] 52 (0, 0)) (by (with_reducible repeat (first | refine blk_drewN ?_ _ | refine blk_drew ?_ | refine blk_alloc ?_ _)); exact BK519.out) hb); have n4_ := Aside0.mk (blk_below (g := gb525) (o := .cells #[.int .u64 t520, .slice Ao22 t521.length co22] 52 (0, 0)) (by (with_reducible repeat (first | refine blk_drewN ?_ _ | refine blk_drew ?_ | refine blk_alloc ?_ _)); exact BK525.out) hb); have n5_ := Aside0.mk (below_step (by repeat (first | (with_reducible first | exact HB.out | apply below_alloc | apply pw_below_drewN | apply below_drew1 | refine below_set ?_ GE514.out | refine below_set ?_ GE519.out | refine below_set ?_ GE525.out) | exact HB.out)) hb); clear HO_520001; clear HO_526001; clear BK514; clear BK519; clear BK525; clear HB; have HO_520001 := n0_; have HO_526001 := n1_; have BK514 := n2_; have BK519 := n3_; have BK525 := n4_; have HB := n5_; clear n0_ n1_ n2_ n3_ n4_ n5_; (try clear hb); (try clear hb2); (try clear hk); (try clear hi)))
        go_ret
        exact ⟨by first | rfl | (simp [errW_none, errW_some] <;> rfl) | (simp [*, errW_none, errW_some] <;> rfl), by repeat (first | (with_reducible first | exact HB.out | apply below_alloc | apply pw_below_drewN | apply below_drew1 | refine below_set ?_ GE514.out | refine below_set ?_ GE519.out | refine below_set ?_ GE525.out) | exact HB.out)⟩
      · replace c27 := Bool.eq_false_iff.mpr c27
        subst c27
        have H1 : ((lead_Until.f a0_0 a0_1 a0_2 t520 t521).bind fun bt530 => (if bt530.2.2 = 0 then (if t527 = true then (if bt530.2.1 = true then (tattlelaw18_LeadMore.j1 kj5 a1 (decide (bt530.1 < t526)) a0_0 a0_1 a0_2 a0_3 l0_4 a0_5 a0_6 a0_7 a0_8 t515 t516) else (tattlelaw18_LeadMore.j1 kj5 a1 true a0_0 a0_1 a0_2 a0_3 l0_4 a0_5 a0_6 a0_7 a0_8 t515 t516)) else (tattlelaw18_LeadMore.j1 kj5 a1 (decide (bt530.1 < t526)) a0_0 a0_1 a0_2 a0_3 l0_4 a0_5 a0_6 a0_7 a0_8 t515 t516)) else (tattlelaw18_LeadMore.j1 kj5 a1 true a0_0 a0_1 a0_2 a0_3 l0_4 a0_5 a0_6 a0_7 a0_8 t515 t516))) = some r := by rw [if_neg (show ¬ (false = true) by decide)] at H; exact H
        clear H
        have H := H1
        clear H1
        replace H := Option.bind_eq_some_iff.mp H
        obtain ⟨⟨t530, t531, t532⟩, A300, H⟩ := H
        replace H : (if t532 = 0 then (if t527 = true then (if t531 = true then (tattlelaw18_LeadMore.j1 kj5 a1 (decide (t530 < t526)) a0_0 a0_1 a0_2 a0_3 l0_4 a0_5 a0_6 a0_7 a0_8 t515 t516) else (tattlelaw18_LeadMore.j1 kj5 a1 true a0_0 a0_1 a0_2 a0_3 l0_4 a0_5 a0_6 a0_7 a0_8 t515 t516)) else (tattlelaw18_LeadMore.j1 kj5 a1 (decide (t530 < t526)) a0_0 a0_1 a0_2 a0_3 l0_4 a0_5 a0_6 a0_7 a0_8 t515 t516)) else (tattlelaw18_LeadMore.j1 kj5 a1 true a0_0 a0_1 a0_2 a0_3 l0_4 a0_5 a0_6 a0_7 a0_8 t515 t516)) = some r := H
        have A30 := Aside0.mk A300
        clear A300
        have HC31 := Aside0.mk H
        clear H
        have hnb32 := NB514_519.out
        have hnc32 := NB519_514.out
        have hnb33 := NB514_525.out
        have hnc33 := NB525_514.out
        have hcz34_0 : wc.cell? ⟨gb514, 0, none⟩ = some (.int .i64 a0_0) := (blk_cell BK514.out 0).trans rfl
        have hcz34_1 : wc.cell? ⟨gb514, 1, none⟩ = some (.int .i64 a0_1) := (blk_cell BK514.out 1).trans rfl
        have hcz34_2 : wc.cell? ⟨gb514, 2, none⟩ = some (.int .i64 a0_2) := (blk_cell BK514.out 2).trans rfl
        have hcz34_3 : wc.cell? ⟨gb514, 3, none⟩ = some (.int .u64 a0_3) := (blk_cell BK514.out 3).trans rfl
        have hcz34_4 : wc.cell? ⟨gb514, 4, none⟩ = some (.slice A0_4 l0_4.length c0_4) := (blk_cell BK514.out 4).trans rfl
        have hcz34_5 : wc.cell? ⟨gb514, 5, none⟩ = some (.int .i64 a0_5) := (blk_cell BK514.out 5).trans rfl
        have hcz34_6 : wc.cell? ⟨gb514, 6, none⟩ = some (.int .u64 a0_6) := (blk_cell BK514.out 6).trans rfl
        have hcz34_7 : wc.cell? ⟨gb514, 7, none⟩ = some (.int .i64 a0_7) := (blk_cell BK514.out 7).trans rfl
        have hcz34_8 : wc.cell? ⟨gb514, 8, none⟩ = some (.int .i64 a0_8) := (blk_cell BK514.out 8).trans rfl
        have hfz34_0 := blk_frozen BK514.out 0
        have hfz34_1 := blk_frozen BK514.out 1
        have hfz34_2 := blk_frozen BK514.out 2
        have hfz34_3 := blk_frozen BK514.out 3
        have hfz34_4 := blk_frozen BK514.out 4
        have hfz34_5 := blk_frozen BK514.out 5
        have hfz34_6 := blk_frozen BK514.out 6
        have hfz34_7 := blk_frozen BK514.out 7
        have hfz34_8 := blk_frozen BK514.out 8
        have hnb35 := NB525_519.out
        have hnc35 := NB519_525.out
        have hcz36_0 : wc.cell? ⟨gb525, 0, none⟩ = some (.int .u64 t520) := (blk_cell BK525.out 0).trans rfl
        have hcz36_1 : wc.cell? ⟨gb525, 1, none⟩ = some (.slice Ao22 t521.length co22) := (blk_cell BK525.out 1).trans rfl
        have hfz36_0 := blk_frozen BK525.out 0
        have hfz36_1 := blk_frozen BK525.out 1
        go_upto_region 7 with (first | ((with_reducible refine gate_callee (f := 23) rfl ?_); refine goesL_ (some 58) rfl rfl Try.func23 (by kernel_rfl) rfl #[.agg #[.int .i64 a0_0, .int .i64 a0_1, .int .i64 a0_2], .agg #[.int .u64 t520, .slice Ao22 t521.length co22]] rfl (by (try simp only [List.map_toArray, List.map_cons, List.map_nil]); first | done | rfl | (simp only [List.length_drop, List.length_take]; rfl)) ?_; (with_reducible refine (lead_Until.calls a0_0 a0_1 a0_2 t520 _ _ t521 t530 t531 t532 _ ?side1 ?side2 A30.out).mono ?_); (case side1 => repeat (first | exact (Kd.V_reads' HO_526001.out).2.2 | (with_reducible refine Kd.C_alloc ?_ _) | (with_reducible refine Kd.C_drewN ?_ _) | (with_reducible refine Kd.C_drew ?_))); (case side2 => exact (Kd.V_reads' HO_526001.out).2.1); rintro e w37 ⟨rfl, hb⟩; refine ⟨_, rfl, ?_⟩; have n0_ := Aside0.mk (Kd.V_below (by (with_reducible repeat (first | apply Kd.V_alloc | apply Kd.V_drewN | apply Kd.V_drew)); exact HO_520001.out) hb); have n1_ := Aside0.mk (Kd.V_below (by (with_reducible repeat (first | apply Kd.V_alloc | apply Kd.V_drewN | apply Kd.V_drew)); exact HO_526001.out) hb); have n2_ := Aside0.mk (blk_below (g := gb514) (o := .cells #[.int .i64 a0_0, .int .i64 a0_1, .int .i64 a0_2, .int .u64 a0_3, .slice A0_4 l0_4.length c0_4, .int .i64 a0_5, .int .u64 a0_6, .int .i64 a0_7, .int .i64 a0_8] 54 (0, 0)) (by (with_reducible repeat (first | refine blk_drewN ?_ _ | refine blk_drew ?_ | refine blk_alloc ?_ _)); exact BK514.out) hb); have n3_ := Aside0.mk (blk_below (g := gb519) (o := .cells #[.int .u64 t515, .slice Ao13 t516.length co13] 52 (0, 0)) (by (with_reducible repeat (first | refine blk_drewN ?_ _ | refine blk_drew ?_ | refine blk_alloc ?_ _)); exact BK519.out) hb); have n4_ := Aside0.mk (blk_below (g := gb525) (o := .cells #[.int .u64 t520, .slice Ao22 t521.length co22] 52 (0, 0)) (by (with_reducible repeat (first | refine blk_drewN ?_ _ | refine blk_drew ?_ | refine blk_alloc ?_ _)); exact BK525.out) hb); have n5_ := Aside0.mk (below_step (by repeat (first | (with_reducible first | exact HB.out | apply below_alloc | apply pw_below_drewN | apply below_drew1 | refine below_set ?_ GE514.out | refine below_set ?_ GE519.out | refine below_set ?_ GE525.out) | exact HB.out)) hb); clear HO_520001; clear HO_526001; clear BK514; clear BK519; clear BK525; clear HB; have HO_520001 := n0_; have HO_526001 := n1_; have BK514 := n2_; have BK519 := n3_; have BK525 := n4_; have HB := n5_; clear n0_ n1_ n2_ n3_ n4_ n5_; (try clear hb); (try clear hb2); (try clear hk); (try clear hi)))
        (try simp only [Act.put, List.setIfInBounds_toArray, List.set_cons_zero, List.set_cons_succ])
        go_cut [75] (fun v75 wc => ∃ (kq : Nat) (x75_30 : Bool), v75 = .bool x75_30 ∧ Aside0 (tattlelaw18_LeadMore.j1 kq a1 x75_30 a0_0 a0_1 a0_2 a0_3 l0_4 a0_5 a0_6 a0_7 a0_8 t515 t516 = some r) ∧ Aside0 (kq ≤ kj5) ∧ Aside0 (Kd.V (Kd.int .i64) 2 wc w.heap.size (fun k_ => k_ ≠ gb514 ∧ k_ ≠ gb519 ∧ k_ ≠ gb525) (.slice Ao13 t516.length co13) t516) ∧ Aside0 (Kd.V (Kd.int .i64) 2 wc w.heap.size (fun k_ => k_ ≠ gb514 ∧ k_ ≠ gb519 ∧ k_ ≠ gb525) (.slice Ao22 t521.length co22) t521) ∧ Aside0 (wc.heap[gb514]? = some (.cells #[.int .i64 a0_0, .int .i64 a0_1, .int .i64 a0_2, .int .u64 a0_3, (.slice A0_4 l0_4.length c0_4), .int .i64 a0_5, .int .u64 a0_6, .int .i64 a0_7, .int .i64 a0_8] 54 (0, 0))) ∧ Aside0 (wc.heap[gb519]? = some (.cells #[.int .u64 t515, (.slice Ao13 t516.length co13)] 52 (0, 0))) ∧ Aside0 (wc.heap[gb525]? = some (.cells #[.int .u64 t520, (.slice Ao22 t521.length co22)] 52 (0, 0))) ∧ Aside0 (Below w.heap.size w wc))
        case first =>
          have H := HC31.out
          clear HC31
          by_cases c38 : t532 = 0
          · rw [if_pos c38] at H
            have c38b0 : (t532 == 0) = true := beq_iff_eq.mpr c38
            have c38b1 : (t532 != 0) = false := bne_eq_false_iff_eq.mpr c38
            clear c38
            (first | rw [c38b0] | (simp only [i64_w, i32_w]; rw [c38b0]) | skip)
            by_cases c39 : t527 = true
            · subst c39
              have H1 : (if t531 = true then (tattlelaw18_LeadMore.j1 kj5 a1 (decide (t530 < t526)) a0_0 a0_1 a0_2 a0_3 l0_4 a0_5 a0_6 a0_7 a0_8 t515 t516) else (tattlelaw18_LeadMore.j1 kj5 a1 true a0_0 a0_1 a0_2 a0_3 l0_4 a0_5 a0_6 a0_7 a0_8 t515 t516)) = some r := by rw [if_pos rfl] at H; exact H
              clear H
              have H := H1
              clear H1
              by_cases c40 : t531 = true
              · subst c40
                have H1 : (tattlelaw18_LeadMore.j1 kj5 a1 (decide (t530 < t526)) a0_0 a0_1 a0_2 a0_3 l0_4 a0_5 a0_6 a0_7 a0_8 t515 t516) = some r := by rw [if_pos rfl] at H; exact H
                clear H
                have H := H1
                clear H1
                have H' := Aside0.mk H
                clear H
                go_wp2
                go_meet
                case rel => exact ⟨_, (decide (t530 < t526)), (by first | rfl | (simp; done) | (simp [*]; done)), H', ⟨by have := HJ5.out; first | omega | exact Nat.le_refl _⟩, ⟨by (with_reducible repeat (first | apply Kd.V_alloc | apply Kd.V_drewN | apply Kd.V_drew)); exact HO_520001.out⟩, ⟨by (with_reducible repeat (first | apply Kd.V_alloc | apply Kd.V_drewN | apply Kd.V_drew)); exact HO_526001.out⟩, ⟨by (with_reducible repeat (first | refine blk_drewN ?_ _ | refine blk_drew ?_ | refine blk_alloc ?_ _)); exact BK514.out⟩, ⟨by (with_reducible repeat (first | refine blk_drewN ?_ _ | refine blk_drew ?_ | refine blk_alloc ?_ _)); exact BK519.out⟩, ⟨by (with_reducible repeat (first | refine blk_drewN ?_ _ | refine blk_drew ?_ | refine blk_alloc ?_ _)); exact BK525.out⟩, ⟨by repeat (first | (with_reducible first | exact HB.out | apply below_alloc | apply pw_below_drewN | apply below_drew1 | refine below_set ?_ GE514.out | refine below_set ?_ GE519.out | refine below_set ?_ GE525.out) | exact HB.out)⟩⟩
              · replace c40 := Bool.eq_false_iff.mpr c40
                subst c40
                have H1 : (tattlelaw18_LeadMore.j1 kj5 a1 true a0_0 a0_1 a0_2 a0_3 l0_4 a0_5 a0_6 a0_7 a0_8 t515 t516) = some r := by rw [if_neg (show ¬ (false = true) by decide)] at H; exact H
                clear H
                have H := H1
                clear H1
                have H' := Aside0.mk H
                clear H
                go_wp2
                go_meet
                case rel => exact ⟨_, (true), (by first | rfl | (simp; done) | (simp [*]; done)), H', ⟨by have := HJ5.out; first | omega | exact Nat.le_refl _⟩, ⟨by (with_reducible repeat (first | apply Kd.V_alloc | apply Kd.V_drewN | apply Kd.V_drew)); exact HO_520001.out⟩, ⟨by (with_reducible repeat (first | apply Kd.V_alloc | apply Kd.V_drewN | apply Kd.V_drew)); exact HO_526001.out⟩, ⟨by (with_reducible repeat (first | refine blk_drewN ?_ _ | refine blk_drew ?_ | refine blk_alloc ?_ _)); exact BK514.out⟩, ⟨by (with_reducible repeat (first | refine blk_drewN ?_ _ | refine blk_drew ?_ | refine blk_alloc ?_ _)); exact BK519.out⟩, ⟨by (with_reducible repeat (first | refine blk_drewN ?_ _ | refine blk_drew ?_ | refine blk_alloc ?_ _)); exact BK525.out⟩, ⟨by repeat (first | (with_reducible first | exact HB.out | apply below_alloc | apply pw_below_drewN | apply below_drew1 | refine below_set ?_ GE514.out | refine below_set ?_ GE519.out | refine below_set ?_ GE525.out) | exact HB.out)⟩⟩
            · replace c39 := Bool.eq_false_iff.mpr c39
              subst c39
              have H1 : (tattlelaw18_LeadMore.j1 kj5 a1 (decide (t530 < t526)) a0_0 a0_1 a0_2 a0_3 l0_4 a0_5 a0_6 a0_7 a0_8 t515 t516) = some r := by rw [if_neg (show ¬ (false = true) by decide)] at H; exact H
              clear H
              have H := H1
              clear H1
              have H' := Aside0.mk H
              clear H
              go_wp2
              go_meet
              case rel => exact ⟨_, (decide (t530 < t526)), (by first | rfl | (simp; done) | (simp [*]; done)), H', ⟨by have := HJ5.out; first | omega | exact Nat.le_refl _⟩, ⟨by (with_reducible repeat (first | apply Kd.V_alloc | apply Kd.V_drewN | apply Kd.V_drew)); exact HO_520001.out⟩, ⟨by (with_reducible repeat (first | apply Kd.V_alloc | apply Kd.V_drewN | apply Kd.V_drew)); exact HO_526001.out⟩, ⟨by (with_reducible repeat (first | refine blk_drewN ?_ _ | refine blk_drew ?_ | refine blk_alloc ?_ _)); exact BK514.out⟩, ⟨by (with_reducible repeat (first | refine blk_drewN ?_ _ | refine blk_drew ?_ | refine blk_alloc ?_ _)); exact BK519.out⟩, ⟨by (with_reducible repeat (first | refine blk_drewN ?_ _ | refine blk_drew ?_ | refine blk_alloc ?_ _)); exact BK525.out⟩, ⟨by repeat (first | (with_reducible first | exact HB.out | apply below_alloc | apply pw_below_drewN | apply below_drew1 | refine below_set ?_ GE514.out | refine below_set ?_ GE519.out | refine below_set ?_ GE525.out) | exact HB.out)⟩⟩
          · rw [if_neg c38] at H
            have c38b0 : (t532 == 0) = false := beq_eq_false_iff_ne.mpr c38
            have c38b1 : (t532 != 0) = true := bne_iff_ne.mpr c38
            (first | rw [c38b0] | (simp only [i64_w, i32_w]; rw [c38b0]) | skip)
            have H' := Aside0.mk H
            clear H
            go_wp2
            go_meet
            case rel => exact ⟨_, (true), (by first | rfl | (simp; done) | (simp [*]; done)), H', ⟨by have := HJ5.out; first | omega | exact Nat.le_refl _⟩, ⟨by (with_reducible repeat (first | apply Kd.V_alloc | apply Kd.V_drewN | apply Kd.V_drew)); exact HO_520001.out⟩, ⟨by (with_reducible repeat (first | apply Kd.V_alloc | apply Kd.V_drewN | apply Kd.V_drew)); exact HO_526001.out⟩, ⟨by (with_reducible repeat (first | refine blk_drewN ?_ _ | refine blk_drew ?_ | refine blk_alloc ?_ _)); exact BK514.out⟩, ⟨by (with_reducible repeat (first | refine blk_drewN ?_ _ | refine blk_drew ?_ | refine blk_alloc ?_ _)); exact BK519.out⟩, ⟨by (with_reducible repeat (first | refine blk_drewN ?_ _ | refine blk_drew ?_ | refine blk_alloc ?_ _)); exact BK525.out⟩, ⟨by repeat (first | (with_reducible first | exact HB.out | apply below_alloc | apply pw_below_drewN | apply below_drew1 | refine below_set ?_ GE514.out | refine below_set ?_ GE519.out | refine below_set ?_ GE525.out) | exact HB.out)⟩⟩
        case rest =>
          clear HC31
          try clear c1
          try clear c2
          try clear p2
          try clear c3
          try clear c4
          try clear c9
          try clear c11
          try clear c19
          try clear c20
          try clear c21
          try clear c22
          try clear c23
          try clear c24
          try clear c26
          try clear c26b0
          try clear c26b1
          try clear c27
          try clear c32
          try clear c33
          try clear c35
          try clear c38
          try clear c38b0
          try clear c38b1
          try clear c39
          try clear c40
          try clear hcz12_0
          try clear hcz12_1
          try clear hcz15_0
          try clear hcz15_1
          try clear hcz16_0
          try clear hcz16_1
          try clear hcz16_2
          try clear hcz16_3
          try clear hcz16_4
          try clear hcz16_5
          try clear hcz16_6
          try clear hcz16_7
          try clear hcz16_8
          try clear hcz21_0
          try clear hcz21_1
          try clear hcz23_0
          try clear hcz23_1
          try clear hcz23_2
          try clear hcz23_3
          try clear hcz23_4
          try clear hcz23_5
          try clear hcz23_6
          try clear hcz23_7
          try clear hcz23_8
          try clear hcz24_0
          try clear hcz24_1
          try clear hcz34_0
          try clear hcz34_1
          try clear hcz34_2
          try clear hcz34_3
          try clear hcz34_4
          try clear hcz34_5
          try clear hcz34_6
          try clear hcz34_7
          try clear hcz34_8
          try clear hcz36_0
          try clear hcz36_1
          try clear hcz8_0
          try clear hcz8_1
          try clear hcz8_2
          try clear hcz8_3
          try clear hcz8_4
          try clear hcz8_5
          try clear hcz8_6
          try clear hcz8_7
          try clear hcz8_8
          try clear hfz12_0
          try clear hfz12_1
          try clear hfz15_0
          try clear hfz15_1
          try clear hfz16_0
          try clear hfz16_1
          try clear hfz16_2
          try clear hfz16_3
          try clear hfz16_4
          try clear hfz16_5
          try clear hfz16_6
          try clear hfz16_7
          try clear hfz16_8
          try clear hfz21_0
          try clear hfz21_1
          try clear hfz23_0
          try clear hfz23_1
          try clear hfz23_2
          try clear hfz23_3
          try clear hfz23_4
          try clear hfz23_5
          try clear hfz23_6
          try clear hfz23_7
          try clear hfz23_8
          try clear hfz24_0
          try clear hfz24_1
          try clear hfz34_0
          try clear hfz34_1
          try clear hfz34_2
          try clear hfz34_3
          try clear hfz34_4
          try clear hfz34_5
          try clear hfz34_6
          try clear hfz34_7
          try clear hfz34_8
          try clear hfz36_0
          try clear hfz36_1
          try clear hfz8_0
          try clear hfz8_1
          try clear hfz8_2
          try clear hfz8_3
          try clear hfz8_4
          try clear hfz8_5
          try clear hfz8_6
          try clear hfz8_7
          try clear hfz8_8
          try clear p2
          obtain ⟨kq, x75_30, rfl, HA, HJ30, HO_520001, HO_526001, BK514, BK519, BK525, HB⟩ := hcut
          cases kq with
          | zero => exact absurd HA.out (by simp [tattlelaw18_LeadMore.j1])
          | succ kj30 =>
            have H := HA.out
            clear HA
            simp only [tattlelaw18_LeadMore.j1] at H
            by_cases c41 : x75_30 = true
            · subst c41
              have H1 : (some false) = some r := by rw [if_pos rfl] at H; exact H
              clear H
              have H := H1
              clear H1
              exact absurd ((Option.some.inj H).trans hrt.out) (by decide)
            · replace c41 := Bool.eq_false_iff.mpr c41
              subst c41
              have H1 : ((lead_New.f (t516.length : Int)).bind fun bt533 => (if bt533.2.2 = 0 then (if (wrap64 ((t516.length : Int) + 1)) = 0 then (none) else (tattlelaw18_LeadMore.l0 kj30 (t516.length : Int) (Int.tmod (wrap64 (a1)) (wrap64 ((t516.length : Int) + 1))) 0 a0_0 a0_1 a0_2 a0_3 l0_4 a0_5 a0_6 a0_7 a0_8 bt533.1 bt533.2.1)) else (some false))) = some r := by rw [if_neg (show ¬ (false = true) by decide)] at H; exact H
              clear H
              have H := H1
              clear H1
              replace H := Option.bind_eq_some_iff.mp H
              obtain ⟨⟨t533, t534, t537⟩, A420, H⟩ := H
              replace H : (if t537 = 0 then (if (wrap64 ((t516.length : Int) + 1)) = 0 then (none) else (tattlelaw18_LeadMore.l0 kj30 (t516.length : Int) (Int.tmod (wrap64 (a1)) (wrap64 ((t516.length : Int) + 1))) 0 a0_0 a0_1 a0_2 a0_3 l0_4 a0_5 a0_6 a0_7 a0_8 t533 t534)) else (some false)) = some r := H
              have A42 := Aside0.mk A420
              clear A420
              by_cases c43 : t537 = 0
              · rw [if_pos c43] at H
                have c43b0 : (t537 == 0) = true := beq_iff_eq.mpr c43
                have c43b1 : (t537 != 0) = false := bne_eq_false_iff_eq.mpr c43
                clear c43
                by_cases c44 : (wrap64 ((t516.length : Int) + 1)) = 0
                · rw [if_pos c44] at H
                  exact absurd H (by simp)
                · rw [if_neg c44] at H
                  have c44b0 : ((wrap64 ((t516.length : Int) + 1)) == 0) = false := beq_eq_false_iff_ne.mpr c44
                  have c44b1 : ((wrap64 ((t516.length : Int) + 1)) != 0) = true := bne_iff_ne.mpr c44
                  have H' := Aside0.mk H
                  clear H
                  have hnb45 := NB519_514.out
                  have hnc45 := NB514_519.out
                  have hnb46 := NB519_525.out
                  have hnc46 := NB525_519.out
                  have hcz47_0 : wc.cell? ⟨gb519, 0, none⟩ = some (.int .u64 t515) := (blk_cell BK519.out 0).trans rfl
                  have hcz47_1 : wc.cell? ⟨gb519, 1, none⟩ = some (.slice Ao13 t516.length co13) := (blk_cell BK519.out 1).trans rfl
                  have hfz47_0 := blk_frozen BK519.out 0
                  have hfz47_1 := blk_frozen BK519.out 1
                  go_wp2_with (first | ((with_reducible refine gate_callee (f := 25) rfl ?_); refine goesL_ (some 81) rfl rfl Try.func25 (by kernel_rfl) rfl #[.int .i64 (t516.length : Int)] rfl (by (try simp only [List.map_toArray, List.map_cons, List.map_nil]); first | done | rfl | (simp only [List.length_drop, List.length_take]; rfl)) ?_; (with_reducible refine (lead_New.calls (t516.length : Int) t533 t534 t537 _ A42.out).mono ?_); rintro e w48 ⟨v535, rfl, ho0, hb⟩; refine ⟨_, rfl, ?_⟩; have n0_ := Aside0.mk (Kd.V_elder' (by (with_reducible repeat (first | apply Kd.V_alloc | apply Kd.V_drewN | apply Kd.V_drew)); exact HO_520001.out) (Kd.R_base ho0) hb); have n1_ := Aside0.mk (Kd.V_elder' (by (with_reducible repeat (first | apply Kd.V_alloc | apply Kd.V_drewN | apply Kd.V_drew)); exact HO_526001.out) (Kd.R_base ho0) hb); have n2_ := Aside0.mk (Kd.R_lower ho0 (below_size (by repeat (first | (with_reducible first | exact HB.out | apply below_alloc | apply pw_below_drewN | apply below_drew1 | refine below_set ?_ GE514.out | refine below_set ?_ GE519.out | refine below_set ?_ GE525.out) | exact HB.out)))); have n3_ := Aside0.mk (blk_below (g := gb514) (o := .cells #[.int .i64 a0_0, .int .i64 a0_1, .int .i64 a0_2, .int .u64 a0_3, .slice A0_4 l0_4.length c0_4, .int .i64 a0_5, .int .u64 a0_6, .int .i64 a0_7, .int .i64 a0_8] 54 (0, 0)) (by (with_reducible repeat (first | refine blk_drewN ?_ _ | refine blk_drew ?_ | refine blk_alloc ?_ _)); exact BK514.out) hb); have n4_ := Aside0.mk (blk_below (g := gb519) (o := .cells #[.int .u64 t515, .slice Ao13 t516.length co13] 52 (0, 0)) (by (with_reducible repeat (first | refine blk_drewN ?_ _ | refine blk_drew ?_ | refine blk_alloc ?_ _)); exact BK519.out) hb); have n5_ := Aside0.mk (blk_below (g := gb525) (o := .cells #[.int .u64 t520, .slice Ao22 t521.length co22] 52 (0, 0)) (by (with_reducible repeat (first | refine blk_drewN ?_ _ | refine blk_drew ?_ | refine blk_alloc ?_ _)); exact BK525.out) hb); have n6_ := Aside0.mk (below_step (by repeat (first | (with_reducible first | exact HB.out | apply below_alloc | apply pw_below_drewN | apply below_drew1 | refine below_set ?_ GE514.out | refine below_set ?_ GE519.out | refine below_set ?_ GE525.out) | exact HB.out)) hb); clear HO_520001; clear HO_526001; clear BK514; clear BK519; clear BK525; clear HB; have HO_520001 := n0_; have HO_526001 := n1_; have HO536 := n2_; have BK514 := n3_; have BK519 := n4_; have BK525 := n5_; have HB := n6_; clear n0_ n1_ n2_ n3_ n4_ n5_ n6_; (try clear hb); (try clear hb2); (try clear hk); (try clear hi); (try clear ho0)) | ((with_reducible refine gate_dst (N := 15) rfl ?_); refine box_event ?hg (N := 15) ?hd (cs := #[.int .u64 0, .slice none 0 0]) (t := 52) ?hr ?_; (case hd => rfl); (case hg => rfl); (case hr => first | (go_simp; done) | (go_simp; rfl)); intro gb538 hg w49 hbox hb; have n0_ := Aside0.mk (Kd.V_below (Kd.V_elderB (by (with_reducible repeat (first | apply Kd.V_alloc | apply Kd.V_drewN | apply Kd.V_drew)); exact HO_520001.out) gb538 (Nat.le_of_eq hg.symm)) hb); have n1_ := Aside0.mk (Kd.V_below (Kd.V_elderB (by (with_reducible repeat (first | apply Kd.V_alloc | apply Kd.V_drewN | apply Kd.V_drew)); exact HO_526001.out) gb538 (Nat.le_of_eq hg.symm)) hb); have n2_ := Aside0.mk (Kd.R_below (by (with_reducible repeat (first | apply Kd.R_alloc | apply Kd.R_drewN | apply Kd.R_drew)); exact HO536.out) hb); have n3_ := Aside0.mk (blk_below (g := gb514) (o := .cells #[.int .i64 a0_0, .int .i64 a0_1, .int .i64 a0_2, .int .u64 a0_3, .slice A0_4 l0_4.length c0_4, .int .i64 a0_5, .int .u64 a0_6, .int .i64 a0_7, .int .i64 a0_8] 54 (0, 0)) (by (with_reducible repeat (first | refine blk_drewN ?_ _ | refine blk_drew ?_ | refine blk_alloc ?_ _)); exact BK514.out) hb); have n4_ := Aside0.mk (blk_below (g := gb519) (o := .cells #[.int .u64 t515, .slice Ao13 t516.length co13] 52 (0, 0)) (by (with_reducible repeat (first | refine blk_drewN ?_ _ | refine blk_drew ?_ | refine blk_alloc ?_ _)); exact BK519.out) hb); have n5_ := Aside0.mk (blk_below (g := gb525) (o := .cells #[.int .u64 t520, .slice Ao22 t521.length co22] 52 (0, 0)) (by (with_reducible repeat (first | refine blk_drewN ?_ _ | refine blk_drew ?_ | refine blk_alloc ?_ _)); exact BK525.out) hb); have n6_ := Aside0.mk (below_step (by repeat (first | (with_reducible first | exact HB.out | apply below_alloc | apply pw_below_drewN | apply below_drew1 | refine below_set ?_ GE514.out | refine below_set ?_ GE519.out | refine below_set ?_ GE525.out) | exact HB.out)) hb); have n7_ := Aside0.mk (hbox); have n8_ := Aside0.mk ((by rw [hg]; exact (below_size (by repeat (first | (with_reducible first | exact HB.out | apply below_alloc | apply pw_below_drewN | apply below_drew1 | refine below_set ?_ GE514.out | refine below_set ?_ GE519.out | refine below_set ?_ GE525.out) | exact HB.out))) : w.heap.size ≤ gb538)); have n9_ := Aside0.mk ((by rw [hg]; exact (below_size (by repeat (first | (with_reducible first | exact HB.out | apply below_alloc | apply pw_below_drewN | apply below_drew1 | refine below_set ?_ GE514.out | refine below_set ?_ GE519.out | refine below_set ?_ GE525.out) | exact HB.out))) : w.heap.size ≤ gb538)); have n10_ := Aside0.mk ((by rw [hg]; exact Nat.ne_of_lt (blk_lt (g := gb514) (o := .cells #[.int .i64 a0_0, .int .i64 a0_1, .int .i64 a0_2, .int .u64 a0_3, .slice A0_4 l0_4.length c0_4, .int .i64 a0_5, .int .u64 a0_6, .int .i64 a0_7, .int .i64 a0_8] 54 (0, 0)) (by (with_reducible repeat (first | refine blk_drewN ?_ _ | refine blk_drew ?_ | refine blk_alloc ?_ _)); exact BK514.out)) : gb514 ≠ gb538)); have n11_ := Aside0.mk ((by rw [hg]; exact Nat.ne_of_gt (blk_lt (g := gb514) (o := .cells #[.int .i64 a0_0, .int .i64 a0_1, .int .i64 a0_2, .int .u64 a0_3, .slice A0_4 l0_4.length c0_4, .int .i64 a0_5, .int .u64 a0_6, .int .i64 a0_7, .int .i64 a0_8] 54 (0, 0)) (by (with_reducible repeat (first | refine blk_drewN ?_ _ | refine blk_drew ?_ | refine blk_alloc ?_ _)); exact BK514.out)) : gb538 ≠ gb514)); have n12_ := Aside0.mk ((by rw [hg]; exact Nat.ne_of_lt (blk_lt (g := gb519) (o := .cells #[.int .u64 t515, .slice Ao13 t516.length co13] 52 (0, 0)) (by (with_reducible repeat (first | refine blk_drewN ?_ _ | refine blk_drew ?_ | refine blk_alloc ?_ _)); exact BK519.out)) : gb519 ≠ gb538)); have n13_ := Aside0.mk ((by rw [hg]; exact Nat.ne_of_gt (blk_lt (g := gb519) (o := .cells #[.int .u64 t515, .slice Ao13 t516.length co13] 52 (0, 0)) (by (with_reducible repeat (first | refine blk_drewN ?_ _ | refine blk_drew ?_ | refine blk_alloc ?_ _)); exact BK519.out)) : gb538 ≠ gb519)); have n14_ := Aside0.mk ((by rw [hg]; exact Nat.ne_of_lt (blk_lt (g := gb525) (o := .cells #[.int .u64 t520, .slice Ao22 t521.length co22] 52 (0, 0)) (by (with_reducible repeat (first | refine blk_drewN ?_ _ | refine blk_drew ?_ | refine blk_alloc ?_ _)); exact BK525.out)) : gb525 ≠ gb538)); have n15_ := Aside0.mk ((by rw [hg]; exact Nat.ne_of_gt (blk_lt (g := gb525) (o := .cells #[.int .u64 t520, .slice Ao22 t521.length co22] 52 (0, 0)) (by (with_reducible repeat (first | refine blk_drewN ?_ _ | refine blk_drew ?_ | refine blk_alloc ?_ _)); exact BK525.out)) : gb538 ≠ gb525)); clear HO_520001; clear HO_526001; clear HO536; clear BK514; clear BK519; clear BK525; clear HB; have HO_520001 := n0_; have HO_526001 := n1_; have HO536 := n2_; have BK514 := n3_; have BK519 := n4_; have BK525 := n5_; have HB := n6_; have BK538 := n7_; have GW538 := n8_; have GE538 := n9_; have NB514_538 := n10_; have NB538_514 := n11_; have NB519_538 := n12_; have NB538_519 := n13_; have NB525_538 := n14_; have NB538_525 := n15_; clear n0_ n1_ n2_ n3_ n4_ n5_ n6_ n7_ n8_ n9_ n10_ n11_ n12_ n13_ n14_ n15_; clear hb hbox hg; have hnb50 := NB538_514.out; have hnc50 := NB514_538.out; have hnb51 := NB538_519.out; have hnc51 := NB519_538.out; have hnb52 := NB538_525.out; have hnc52 := NB525_538.out; have hcz53_0 : w49.cell? ⟨gb538, 0, none⟩ = some (.int .u64 0) := (blk_cell BK538.out 0).trans rfl; have hcz53_1 : w49.cell? ⟨gb538, 1, none⟩ = some (.slice none 0 0) := (blk_cell BK538.out 1).trans rfl; have hfz53_0 := blk_frozen BK538.out 0; have hfz53_1 := blk_frozen BK538.out 1; obtain ⟨Ao54, co54, eo54⟩ := Kd.R_slice HO536.out; subst eo54))
                  go_loopg [18] kj30 (fun kq v18 w' => ∃ (x18_3 : Int) (x539000_3 : Int) (x539001_3 : List Int) (u539001 : Value), v18 = .int .i64 x18_3 ∧ Aside0 (tattlelaw18_LeadMore.l0 kq (t516.length : Int) (Int.tmod (wrap64 (a1)) (wrap64 ((t516.length : Int) + 1))) x18_3 a0_0 a0_1 a0_2 a0_3 l0_4 a0_5 a0_6 a0_7 a0_8 x539000_3 x539001_3 = some r) ∧ Aside0 (kq ≤ kj30) ∧ Aside0 (Kd.V (Kd.int .i64) 2 w' w.heap.size (fun k_ => k_ ≠ gb514 ∧ k_ ≠ gb519 ∧ k_ ≠ gb525 ∧ k_ ≠ gb538) (.slice Ao13 t516.length co13) t516) ∧ Aside0 (Kd.V (Kd.int .i64) 2 w' w.heap.size (fun k_ => k_ ≠ gb514 ∧ k_ ≠ gb519 ∧ k_ ≠ gb525 ∧ k_ ≠ gb538) (.slice Ao22 t521.length co22) t521) ∧ Aside0 (Kd.V (Kd.int .i64) 2 w' w.heap.size (fun k_ => k_ ≠ gb514 ∧ k_ ≠ gb519 ∧ k_ ≠ gb525 ∧ k_ ≠ gb538) u539001 x539001_3) ∧ Aside0 (w'.heap[gb514]? = some (.cells #[.int .i64 a0_0, .int .i64 a0_1, .int .i64 a0_2, .int .u64 a0_3, (.slice A0_4 l0_4.length c0_4), .int .i64 a0_5, .int .u64 a0_6, .int .i64 a0_7, .int .i64 a0_8] 54 (0, 0))) ∧ Aside0 (w'.heap[gb519]? = some (.cells #[.int .u64 t515, (.slice Ao13 t516.length co13)] 52 (0, 0))) ∧ Aside0 (w'.heap[gb525]? = some (.cells #[.int .u64 t520, (.slice Ao22 t521.length co22)] 52 (0, 0))) ∧ Aside0 (w'.heap[gb538]? = some (.cells #[.int .u64 x539000_3, u539001] 52 (0, 0))) ∧ Aside0 (Below w.heap.size w w'))
                  case atStart => exact ⟨(0), (t533), (t534), (.slice Ao54 t534.length co54), (by first | rfl | (simp; done) | (simp [*]; done)), H', ⟨Nat.le_refl _⟩, ⟨by (with_reducible repeat (first | apply Kd.V_alloc | apply Kd.V_drewN | apply Kd.V_drew)); exact Kd.V_mono (Kd.V_far (p := ⟨gb538, 1, none⟩) (Kd.V_far (p := ⟨gb538, 0, none⟩) (Kd.V_mono HO_520001.out (fun k_ hk => (⟨hk, hk.2⟩ : _ ∧ k_ ≠ gb538))) (fun _ hk => hk.2) (.int .u64 t533)) (fun _ hk => hk.2) (.slice Ao54 t534.length co54)) (fun _ hk => ⟨hk.1.1.1.1, ⟨hk.1.1.1.2.1, ⟨hk.1.1.1.2.2, hk.1.2⟩⟩⟩)⟩, ⟨by (with_reducible repeat (first | apply Kd.V_alloc | apply Kd.V_drewN | apply Kd.V_drew)); exact Kd.V_mono (Kd.V_far (p := ⟨gb538, 1, none⟩) (Kd.V_far (p := ⟨gb538, 0, none⟩) (Kd.V_mono HO_526001.out (fun k_ hk => (⟨hk, hk.2⟩ : _ ∧ k_ ≠ gb538))) (fun _ hk => hk.2) (.int .u64 t533)) (fun _ hk => hk.2) (.slice Ao54 t534.length co54)) (fun _ hk => ⟨hk.1.1.1.1, ⟨hk.1.1.1.2.1, ⟨hk.1.1.1.2.2, hk.1.2⟩⟩⟩)⟩, ⟨Kd.R_V (by (with_reducible repeat (first | apply Kd.R_alloc | apply Kd.R_drewN | apply Kd.R_drew)); exact Kd.R_mono (Kd.R_far (p := ⟨gb538, 1, none⟩) (Kd.R_far (p := ⟨gb538, 0, none⟩) (Kd.R_types (Kd.R_types (Kd.R_types (Kd.R_types (Kd.R_types HO536.out BK514.out (by decide)) BK519.out (by decide)) BK525.out (by decide)) BK538.out (by decide)) BK538.out (by decide)) (fun _ hk => hk.2) (.int .u64 t533)) (fun _ hk => hk.2) (.slice Ao54 t534.length co54)) (fun _ hk => ⟨hk.1.1.1.1.2, ⟨hk.1.1.1.2, ⟨hk.1.1.2, hk.1.2⟩⟩⟩))⟩, ⟨by (with_reducible repeat (first | refine blk_drewN ?_ _ | refine blk_drew ?_ | refine blk_alloc ?_ _)); refine blk_far ?_ NB514_538.out _; (with_reducible repeat (first | refine blk_drewN ?_ _ | refine blk_drew ?_ | refine blk_alloc ?_ _)); refine blk_far ?_ NB514_538.out _; (with_reducible repeat (first | refine blk_drewN ?_ _ | refine blk_drew ?_ | refine blk_alloc ?_ _)); exact BK514.out⟩, ⟨by (with_reducible repeat (first | refine blk_drewN ?_ _ | refine blk_drew ?_ | refine blk_alloc ?_ _)); refine blk_far ?_ NB519_538.out _; (with_reducible repeat (first | refine blk_drewN ?_ _ | refine blk_drew ?_ | refine blk_alloc ?_ _)); refine blk_far ?_ NB519_538.out _; (with_reducible repeat (first | refine blk_drewN ?_ _ | refine blk_drew ?_ | refine blk_alloc ?_ _)); exact BK519.out⟩, ⟨by (with_reducible repeat (first | refine blk_drewN ?_ _ | refine blk_drew ?_ | refine blk_alloc ?_ _)); refine blk_far ?_ NB525_538.out _; (with_reducible repeat (first | refine blk_drewN ?_ _ | refine blk_drew ?_ | refine blk_alloc ?_ _)); refine blk_far ?_ NB525_538.out _; (with_reducible repeat (first | refine blk_drewN ?_ _ | refine blk_drew ?_ | refine blk_alloc ?_ _)); exact BK525.out⟩, ⟨by (with_reducible repeat (first | refine blk_drewN ?_ _ | refine blk_drew ?_ | refine blk_alloc ?_ _)); refine blk_put (cs := #[.int .u64 t533, .slice none 0 0]) ?_ 1 _ rfl; (with_reducible repeat (first | refine blk_drewN ?_ _ | refine blk_drew ?_ | refine blk_alloc ?_ _)); refine blk_put (cs := #[.int .u64 0, .slice none 0 0]) ?_ 0 _ rfl; (with_reducible repeat (first | refine blk_drewN ?_ _ | refine blk_drew ?_ | refine blk_alloc ?_ _)); exact BK538.out⟩, ⟨by repeat (first | (with_reducible first | exact HB.out | apply below_alloc | apply pw_below_drewN | apply below_drew1 | refine below_set ?_ GE514.out | refine below_set ?_ GE519.out | refine below_set ?_ GE525.out | refine below_set ?_ GE538.out) | exact HB.out)⟩⟩
                  case round =>
                    clear H'
                    try clear c1
                    try clear c2
                    try clear p2
                    try clear c3
                    try clear c4
                    try clear c5
                    try clear p6
                    try clear c9
                    try clear c11
                    try clear c19
                    try clear c20
                    try clear c21
                    try clear c22
                    try clear c23
                    try clear c24
                    try clear c25
                    try clear c26
                    try clear c26b0
                    try clear c26b1
                    try clear c27
                    try clear c32
                    try clear c33
                    try clear c35
                    try clear c38
                    try clear c38b0
                    try clear c38b1
                    try clear c39
                    try clear c40
                    try clear c41
                    try clear c43
                    try clear c43b0
                    try clear c43b1
                    try clear c44
                    try clear c44b0
                    try clear c44b1
                    try clear c45
                    try clear c46
                    try clear c50
                    try clear c51
                    try clear c52
                    try clear hcz12_0
                    try clear hcz12_1
                    try clear hcz15_0
                    try clear hcz15_1
                    try clear hcz16_0
                    try clear hcz16_1
                    try clear hcz16_2
                    try clear hcz16_3
                    try clear hcz16_4
                    try clear hcz16_5
                    try clear hcz16_6
                    try clear hcz16_7
                    try clear hcz16_8
                    try clear hcz21_0
                    try clear hcz21_1
                    try clear hcz23_0
                    try clear hcz23_1
                    try clear hcz23_2
                    try clear hcz23_3
                    try clear hcz23_4
                    try clear hcz23_5
                    try clear hcz23_6
                    try clear hcz23_7
                    try clear hcz23_8
                    try clear hcz24_0
                    try clear hcz24_1
                    try clear hcz34_0
                    try clear hcz34_1
                    try clear hcz34_2
                    try clear hcz34_3
                    try clear hcz34_4
                    try clear hcz34_5
                    try clear hcz34_6
                    try clear hcz34_7
                    try clear hcz34_8
                    try clear hcz36_0
                    try clear hcz36_1
                    try clear hcz47_0
                    try clear hcz47_1
                    try clear hcz53_0
                    try clear hcz53_1
                    try clear hcz8_0
                    try clear hcz8_1
                    try clear hcz8_2
                    try clear hcz8_3
                    try clear hcz8_4
                    try clear hcz8_5
                    try clear hcz8_6
                    try clear hcz8_7
                    try clear hcz8_8
                    try clear hfz12_0
                    try clear hfz12_1
                    try clear hfz15_0
                    try clear hfz15_1
                    try clear hfz16_0
                    try clear hfz16_1
                    try clear hfz16_2
                    try clear hfz16_3
                    try clear hfz16_4
                    try clear hfz16_5
                    try clear hfz16_6
                    try clear hfz16_7
                    try clear hfz16_8
                    try clear hfz21_0
                    try clear hfz21_1
                    try clear hfz23_0
                    try clear hfz23_1
                    try clear hfz23_2
                    try clear hfz23_3
                    try clear hfz23_4
                    try clear hfz23_5
                    try clear hfz23_6
                    try clear hfz23_7
                    try clear hfz23_8
                    try clear hfz24_0
                    try clear hfz24_1
                    try clear hfz34_0
                    try clear hfz34_1
                    try clear hfz34_2
                    try clear hfz34_3
                    try clear hfz34_4
                    try clear hfz34_5
                    try clear hfz34_6
                    try clear hfz34_7
                    try clear hfz34_8
                    try clear hfz36_0
                    try clear hfz36_1
                    try clear hfz47_0
                    try clear hfz47_1
                    try clear hfz53_0
                    try clear hfz53_1
                    try clear hfz8_0
                    try clear hfz8_1
                    try clear hfz8_2
                    try clear hfz8_3
                    try clear hfz8_4
                    try clear hfz8_5
                    try clear hfz8_6
                    try clear hfz8_7
                    try clear hfz8_8
                    try clear p2
                    obtain ⟨x18_3, x539000_3, x539001_3, u539001, rfl, HA, HK3, HO_520001, HO_526001, HO_539001, BK514, BK519, BK525, BK538, HB⟩ := hrel
                    cases gk with
                    | zero => exact absurd HA.out (by simp [tattlelaw18_LeadMore.l0])
                    | succ k3 =>
                      have H := HA.out
                      clear HA
                      simp only [tattlelaw18_LeadMore.l0] at H
                      by_cases c55 : x18_3 < (Int.tmod (wrap64 (a1)) (wrap64 ((t516.length : Int) + 1)))
                      · rw [if_pos c55] at H
                        have c55b0 : decide (x18_3 < (Int.tmod (wrap64 (a1)) (wrap64 ((t516.length : Int) + 1)))) = true := decide_eq_true c55
                        clear c55
                        replace H := Option.bind_eq_some_iff.mp H
                        obtain ⟨⟨t539, t540, t543⟩, A560, H⟩ := H
                        replace H : (if t543 = 0 then (tattlelaw18_LeadMore.l0 k3 (t516.length : Int) (Int.tmod (wrap64 (a1)) (wrap64 ((t516.length : Int) + 1))) (wrap64 (x18_3 + 1)) a0_0 a0_1 a0_2 a0_3 l0_4 a0_5 a0_6 a0_7 a0_8 t539 t540) else (some false)) = some r := H
                        have A56 := Aside0.mk A560
                        clear A560
                        by_cases c57 : t543 = 0
                        · rw [if_pos c57] at H
                          have c57b0 : (t543 == 0) = true := beq_iff_eq.mpr c57
                          have c57b1 : (t543 != 0) = false := bne_eq_false_iff_eq.mpr c57
                          clear c57
                          have H' := Aside0.mk H
                          clear H
                          have hnb58 := NB538_514.out
                          have hnc58 := NB514_538.out
                          have hnb59 := NB538_519.out
                          have hnc59 := NB519_538.out
                          have hnb60 := NB538_525.out
                          have hnc60 := NB525_538.out
                          have hcz61_0 : wr.cell? ⟨gb538, 0, none⟩ = some (.int .u64 x539000_3) := (blk_cell BK538.out 0).trans rfl
                          have hcz61_1 : wr.cell? ⟨gb538, 1, none⟩ = some (u539001) := (blk_cell BK538.out 1).trans rfl
                          have hfz61_0 := blk_frozen BK538.out 0
                          have hfz61_1 := blk_frozen BK538.out 1
                          have hnb62 := NB514_519.out
                          have hnc62 := NB519_514.out
                          have hnb63 := NB514_525.out
                          have hnc63 := NB525_514.out
                          have hcz64_0 : wr.cell? ⟨gb514, 0, none⟩ = some (.int .i64 a0_0) := (blk_cell BK514.out 0).trans rfl
                          have hcz64_1 : wr.cell? ⟨gb514, 1, none⟩ = some (.int .i64 a0_1) := (blk_cell BK514.out 1).trans rfl
                          have hcz64_2 : wr.cell? ⟨gb514, 2, none⟩ = some (.int .i64 a0_2) := (blk_cell BK514.out 2).trans rfl
                          have hcz64_3 : wr.cell? ⟨gb514, 3, none⟩ = some (.int .u64 a0_3) := (blk_cell BK514.out 3).trans rfl
                          have hcz64_4 : wr.cell? ⟨gb514, 4, none⟩ = some (.slice A0_4 l0_4.length c0_4) := (blk_cell BK514.out 4).trans rfl
                          have hcz64_5 : wr.cell? ⟨gb514, 5, none⟩ = some (.int .i64 a0_5) := (blk_cell BK514.out 5).trans rfl
                          have hcz64_6 : wr.cell? ⟨gb514, 6, none⟩ = some (.int .u64 a0_6) := (blk_cell BK514.out 6).trans rfl
                          have hcz64_7 : wr.cell? ⟨gb514, 7, none⟩ = some (.int .i64 a0_7) := (blk_cell BK514.out 7).trans rfl
                          have hcz64_8 : wr.cell? ⟨gb514, 8, none⟩ = some (.int .i64 a0_8) := (blk_cell BK514.out 8).trans rfl
                          have hfz64_0 := blk_frozen BK514.out 0
                          have hfz64_1 := blk_frozen BK514.out 1
                          have hfz64_2 := blk_frozen BK514.out 2
                          have hfz64_3 := blk_frozen BK514.out 3
                          have hfz64_4 := blk_frozen BK514.out 4
                          have hfz64_5 := blk_frozen BK514.out 5
                          have hfz64_6 := blk_frozen BK514.out 6
                          have hfz64_7 := blk_frozen BK514.out 7
                          have hfz64_8 := blk_frozen BK514.out 8
                          obtain ⟨Ao65, co65, eo65⟩ := Kd.V_slice HO_539001.out
                          subst eo65
                          go_wp2_with (first | ((with_reducible refine gate_callee (f := 22) rfl ?_); refine goesL_ (some 101) rfl rfl Try.func22 (by kernel_rfl) rfl #[.agg #[.int .u64 x539000_3, .slice Ao65 x539001_3.length co65], .int .i64 x18_3, .int .u64 0, .int .i64 a0_7] rfl (by (try simp only [List.map_toArray, List.map_cons, List.map_nil]); first | done | rfl | (simp only [List.length_drop, List.length_take]; rfl)) ?_; (with_reducible refine (lead_Granted.calls k3 x539000_3 (fun k_ => (k_ ≠ gb514 ∧ (k_ ≠ gb519 ∧ (k_ ≠ gb525 ∧ k_ ≠ gb538)))) _ _ x539001_3 x18_3 0 a0_7 t539 t540 t543 _ ?side1 A56.out).mono ?_); (case side1 => exact HO_539001.out); rintro e w66 ⟨v541, rfl, ho0, hb⟩; refine ⟨_, rfl, ?_⟩; have n0_ := Aside0.mk (Kd.V_below (by (with_reducible repeat (first | apply Kd.V_alloc | apply Kd.V_drewN | apply Kd.V_drew)); exact HO_520001.out) hb); have n1_ := Aside0.mk (Kd.V_below (by (with_reducible repeat (first | apply Kd.V_alloc | apply Kd.V_drewN | apply Kd.V_drew)); exact HO_526001.out) hb); have n2_ := Aside0.mk (Kd.V_below (by (with_reducible repeat (first | apply Kd.V_alloc | apply Kd.V_drewN | apply Kd.V_drew)); exact HO_539001.out) hb); have n3_ := Aside0.mk (Kd.V_lower (Kd.V_mono (ok' := fun k_ => k_ ≠ gb514 ∧ k_ ≠ gb519 ∧ k_ ≠ gb525 ∧ k_ ≠ gb538) ho0 (fun k_ hk_ => ⟨Or.elim hk_ (fun hs_ => hs_.1) (fun hn_ => (Kd.freshB (g := gb514) (o := .cells #[.int .i64 a0_0, .int .i64 a0_1, .int .i64 a0_2, .int .u64 a0_3, .slice A0_4 l0_4.length c0_4, .int .i64 a0_5, .int .u64 a0_6, .int .i64 a0_7, .int .i64 a0_8] 54 (0, 0)) (by (with_reducible repeat (first | refine blk_drewN ?_ _ | refine blk_drew ?_ | refine blk_alloc ?_ _)); exact BK514.out) k_ hn_)), Or.elim hk_ (fun hs_ => hs_.2.1) (fun hn_ => (Kd.freshB (g := gb519) (o := .cells #[.int .u64 t515, .slice Ao13 t516.length co13] 52 (0, 0)) (by (with_reducible repeat (first | refine blk_drewN ?_ _ | refine blk_drew ?_ | refine blk_alloc ?_ _)); exact BK519.out) k_ hn_)), Or.elim hk_ (fun hs_ => hs_.2.2.1) (fun hn_ => (Kd.freshB (g := gb525) (o := .cells #[.int .u64 t520, .slice Ao22 t521.length co22] 52 (0, 0)) (by (with_reducible repeat (first | refine blk_drewN ?_ _ | refine blk_drew ?_ | refine blk_alloc ?_ _)); exact BK525.out) k_ hn_)), Or.elim hk_ (fun hs_ => hs_.2.2.2) (fun hn_ => (Kd.freshB (g := gb538) (o := .cells #[.int .u64 x539000_3, .slice Ao65 x539001_3.length co65] 52 (0, 0)) (by (with_reducible repeat (first | refine blk_drewN ?_ _ | refine blk_drew ?_ | refine blk_alloc ?_ _)); exact BK538.out) k_ hn_))⟩)) (below_size (by repeat (first | (with_reducible first | exact HB.out | apply below_alloc | apply pw_below_drewN | apply below_drew1 | refine below_set ?_ GE514.out | refine below_set ?_ GE519.out | refine below_set ?_ GE525.out | refine below_set ?_ GE538.out) | exact HB.out)))); have n4_ := Aside0.mk (blk_below (g := gb514) (o := .cells #[.int .i64 a0_0, .int .i64 a0_1, .int .i64 a0_2, .int .u64 a0_3, .slice A0_4 l0_4.length c0_4, .int .i64 a0_5, .int .u64 a0_6, .int .i64 a0_7, .int .i64 a0_8] 54 (0, 0)) (by (with_reducible repeat (first | refine blk_drewN ?_ _ | refine blk_drew ?_ | refine blk_alloc ?_ _)); exact BK514.out) hb); have n5_ := Aside0.mk (blk_below (g := gb519) (o := .cells #[.int .u64 t515, .slice Ao13 t516.length co13] 52 (0, 0)) (by (with_reducible repeat (first | refine blk_drewN ?_ _ | refine blk_drew ?_ | refine blk_alloc ?_ _)); exact BK519.out) hb); have n6_ := Aside0.mk (blk_below (g := gb525) (o := .cells #[.int .u64 t520, .slice Ao22 t521.length co22] 52 (0, 0)) (by (with_reducible repeat (first | refine blk_drewN ?_ _ | refine blk_drew ?_ | refine blk_alloc ?_ _)); exact BK525.out) hb); have n7_ := Aside0.mk (blk_below (g := gb538) (o := .cells #[.int .u64 x539000_3, .slice Ao65 x539001_3.length co65] 52 (0, 0)) (by (with_reducible repeat (first | refine blk_drewN ?_ _ | refine blk_drew ?_ | refine blk_alloc ?_ _)); exact BK538.out) hb); have n8_ := Aside0.mk (below_step (by repeat (first | (with_reducible first | exact HB.out | apply below_alloc | apply pw_below_drewN | apply below_drew1 | refine below_set ?_ GE514.out | refine below_set ?_ GE519.out | refine below_set ?_ GE525.out | refine below_set ?_ GE538.out) | exact HB.out)) hb); clear HO_520001; clear HO_526001; clear HO_539001; clear BK514; clear BK519; clear BK525; clear BK538; clear HB; have HO_520001 := n0_; have HO_526001 := n1_; have HO_539001 := n2_; have HO542 := n3_; have BK514 := n4_; have BK519 := n5_; have BK525 := n6_; have BK538 := n7_; have HB := n8_; clear n0_ n1_ n2_ n3_ n4_ n5_ n6_ n7_ n8_; (try clear hb); (try clear hb2); (try clear hk); (try clear hi); (try clear ho0)) | ((with_reducible refine gate_dst (N := 19) rfl ?_); refine box_event ?hg (N := 19) ?hd (cs := #[.int .u64 0, .slice none 0 0]) (t := 52) ?hr ?_; (case hd => rfl); (case hg => rfl); (case hr => first | (go_simp; done) | (go_simp; rfl)); intro gb544 hg w67 hbox hb; have n0_ := Aside0.mk (Kd.V_below (Kd.V_elderB (by (with_reducible repeat (first | apply Kd.V_alloc | apply Kd.V_drewN | apply Kd.V_drew)); exact HO_520001.out) gb544 (Nat.le_of_eq hg.symm)) hb); have n1_ := Aside0.mk (Kd.V_below (Kd.V_elderB (by (with_reducible repeat (first | apply Kd.V_alloc | apply Kd.V_drewN | apply Kd.V_drew)); exact HO_526001.out) gb544 (Nat.le_of_eq hg.symm)) hb); have n2_ := Aside0.mk (Kd.V_below (Kd.V_elderB (by (with_reducible repeat (first | apply Kd.V_alloc | apply Kd.V_drewN | apply Kd.V_drew)); exact HO_539001.out) gb544 (Nat.le_of_eq hg.symm)) hb); have n3_ := Aside0.mk (Kd.V_below (Kd.V_elderB (by (with_reducible repeat (first | apply Kd.V_alloc | apply Kd.V_drewN | apply Kd.V_drew)); exact HO542.out) gb544 (Nat.le_of_eq hg.symm)) hb); have n4_ := Aside0.mk (blk_below (g := gb514) (o := .cells #[.int .i64 a0_0, .int .i64 a0_1, .int .i64 a0_2, .int .u64 a0_3, .slice A0_4 l0_4.length c0_4, .int .i64 a0_5, .int .u64 a0_6, .int .i64 a0_7, .int .i64 a0_8] 54 (0, 0)) (by (with_reducible repeat (first | refine blk_drewN ?_ _ | refine blk_drew ?_ | refine blk_alloc ?_ _)); exact BK514.out) hb); have n5_ := Aside0.mk (blk_below (g := gb519) (o := .cells #[.int .u64 t515, .slice Ao13 t516.length co13] 52 (0, 0)) (by (with_reducible repeat (first | refine blk_drewN ?_ _ | refine blk_drew ?_ | refine blk_alloc ?_ _)); exact BK519.out) hb); have n6_ := Aside0.mk (blk_below (g := gb525) (o := .cells #[.int .u64 t520, .slice Ao22 t521.length co22] 52 (0, 0)) (by (with_reducible repeat (first | refine blk_drewN ?_ _ | refine blk_drew ?_ | refine blk_alloc ?_ _)); exact BK525.out) hb); have n7_ := Aside0.mk (blk_below (g := gb538) (o := .cells #[.int .u64 x539000_3, .slice Ao65 x539001_3.length co65] 52 (0, 0)) (by (with_reducible repeat (first | refine blk_drewN ?_ _ | refine blk_drew ?_ | refine blk_alloc ?_ _)); exact BK538.out) hb); have n8_ := Aside0.mk (below_step (by repeat (first | (with_reducible first | exact HB.out | apply below_alloc | apply pw_below_drewN | apply below_drew1 | refine below_set ?_ GE514.out | refine below_set ?_ GE519.out | refine below_set ?_ GE525.out | refine below_set ?_ GE538.out) | exact HB.out)) hb); have n9_ := Aside0.mk (hbox); have n10_ := Aside0.mk ((by rw [hg]; exact (below_size (by repeat (first | (with_reducible first | exact HB.out | apply below_alloc | apply pw_below_drewN | apply below_drew1 | refine below_set ?_ GE514.out | refine below_set ?_ GE519.out | refine below_set ?_ GE525.out | refine below_set ?_ GE538.out) | exact HB.out))) : w.heap.size ≤ gb544)); have n11_ := Aside0.mk ((by rw [hg]; exact (below_size (by repeat (first | (with_reducible first | exact HB.out | apply below_alloc | apply pw_below_drewN | apply below_drew1 | refine below_set ?_ GE514.out | refine below_set ?_ GE519.out | refine below_set ?_ GE525.out | refine below_set ?_ GE538.out) | exact HB.out))) : w.heap.size ≤ gb544)); have n12_ := Aside0.mk ((by rw [hg]; exact Nat.ne_of_lt (blk_lt (g := gb514) (o := .cells #[.int .i64 a0_0, .int .i64 a0_1, .int .i64 a0_2, .int .u64 a0_3, .slice A0_4 l0_4.length c0_4, .int .i64 a0_5, .int .u64 a0_6, .int .i64 a0_7, .int .i64 a0_8] 54 (0, 0)) (by (with_reducible repeat (first | refine blk_drewN ?_ _ | refine blk_drew ?_ | refine blk_alloc ?_ _)); exact BK514.out)) : gb514 ≠ gb544)); have n13_ := Aside0.mk ((by rw [hg]; exact Nat.ne_of_gt (blk_lt (g := gb514) (o := .cells #[.int .i64 a0_0, .int .i64 a0_1, .int .i64 a0_2, .int .u64 a0_3, .slice A0_4 l0_4.length c0_4, .int .i64 a0_5, .int .u64 a0_6, .int .i64 a0_7, .int .i64 a0_8] 54 (0, 0)) (by (with_reducible repeat (first | refine blk_drewN ?_ _ | refine blk_drew ?_ | refine blk_alloc ?_ _)); exact BK514.out)) : gb544 ≠ gb514)); have n14_ := Aside0.mk ((by rw [hg]; exact Nat.ne_of_lt (blk_lt (g := gb519) (o := .cells #[.int .u64 t515, .slice Ao13 t516.length co13] 52 (0, 0)) (by (with_reducible repeat (first | refine blk_drewN ?_ _ | refine blk_drew ?_ | refine blk_alloc ?_ _)); exact BK519.out)) : gb519 ≠ gb544)); have n15_ := Aside0.mk ((by rw [hg]; exact Nat.ne_of_gt (blk_lt (g := gb519) (o := .cells #[.int .u64 t515, .slice Ao13 t516.length co13] 52 (0, 0)) (by (with_reducible repeat (first | refine blk_drewN ?_ _ | refine blk_drew ?_ | refine blk_alloc ?_ _)); exact BK519.out)) : gb544 ≠ gb519)); have n16_ := Aside0.mk ((by rw [hg]; exact Nat.ne_of_lt (blk_lt (g := gb525) (o := .cells #[.int .u64 t520, .slice Ao22 t521.length co22] 52 (0, 0)) (by (with_reducible repeat (first | refine blk_drewN ?_ _ | refine blk_drew ?_ | refine blk_alloc ?_ _)); exact BK525.out)) : gb525 ≠ gb544)); have n17_ := Aside0.mk ((by rw [hg]; exact Nat.ne_of_gt (blk_lt (g := gb525) (o := .cells #[.int .u64 t520, .slice Ao22 t521.length co22] 52 (0, 0)) (by (with_reducible repeat (first | refine blk_drewN ?_ _ | refine blk_drew ?_ | refine blk_alloc ?_ _)); exact BK525.out)) : gb544 ≠ gb525)); have n18_ := Aside0.mk ((by rw [hg]; exact Nat.ne_of_lt (blk_lt (g := gb538) (o := .cells #[.int .u64 x539000_3, .slice Ao65 x539001_3.length co65] 52 (0, 0)) (by (with_reducible repeat (first | refine blk_drewN ?_ _ | refine blk_drew ?_ | refine blk_alloc ?_ _)); exact BK538.out)) : gb538 ≠ gb544)); have n19_ := Aside0.mk ((by rw [hg]; exact Nat.ne_of_gt (blk_lt (g := gb538) (o := .cells #[.int .u64 x539000_3, .slice Ao65 x539001_3.length co65] 52 (0, 0)) (by (with_reducible repeat (first | refine blk_drewN ?_ _ | refine blk_drew ?_ | refine blk_alloc ?_ _)); exact BK538.out)) : gb544 ≠ gb538)); clear HO_520001; clear HO_526001; clear HO_539001; clear HO542; clear BK514; clear BK519; clear BK525; clear BK538; clear HB; have HO_520001 := n0_; have HO_526001 := n1_; have HO_539001 := n2_; have HO542 := n3_; have BK514 := n4_; have BK519 := n5_; have BK525 := n6_; have BK538 := n7_; have HB := n8_; have BK544 := n9_; have GW544 := n10_; have GE544 := n11_; have NB514_544 := n12_; have NB544_514 := n13_; have NB519_544 := n14_; have NB544_519 := n15_; have NB525_544 := n16_; have NB544_525 := n17_; have NB538_544 := n18_; have NB544_538 := n19_; clear n0_ n1_ n2_ n3_ n4_ n5_ n6_ n7_ n8_ n9_ n10_ n11_ n12_ n13_ n14_ n15_ n16_ n17_ n18_ n19_; clear hb hbox hg; have hnb68 := NB544_514.out; have hnc68 := NB514_544.out; have hnb69 := NB544_519.out; have hnc69 := NB519_544.out; have hnb70 := NB544_525.out; have hnc70 := NB525_544.out; have hnb71 := NB544_538.out; have hnc71 := NB538_544.out; have hcz72_0 : w67.cell? ⟨gb544, 0, none⟩ = some (.int .u64 0) := (blk_cell BK544.out 0).trans rfl; have hcz72_1 : w67.cell? ⟨gb544, 1, none⟩ = some (.slice none 0 0) := (blk_cell BK544.out 1).trans rfl; have hfz72_0 := blk_frozen BK544.out 0; have hfz72_1 := blk_frozen BK544.out 1; obtain ⟨Ao73, co73, eo73⟩ := Kd.V_slice HO542.out; subst eo73; have hcz74_0 : w67.cell? ⟨gb538, 0, none⟩ = some (.int .u64 x539000_3) := (blk_cell BK538.out 0).trans rfl; have hcz74_1 : w67.cell? ⟨gb538, 1, none⟩ = some (.slice Ao65 x539001_3.length co65) := (blk_cell BK538.out 1).trans rfl; have hfz74_0 := blk_frozen BK538.out 0; have hfz74_1 := blk_frozen BK538.out 1))
                          go_roundg k3
                          case measure => have := HJ5.out; have := HJ30.out; have := HK3.out; omega
                          case rel => exact ⟨(wrap64 (x18_3 + 1)), (t539), (t540), (.slice Ao73 t540.length co73), (by first | rfl | (simp; done) | (simp [*]; done)), H', ⟨by have := HJ5.out; have := HJ30.out; have := HK3.out; omega⟩, ⟨by (with_reducible repeat (first | apply Kd.V_alloc | apply Kd.V_drewN | apply Kd.V_drew)); exact Kd.V_mono (Kd.V_far (p := ⟨gb538, 1, none⟩) (Kd.V_far (p := ⟨gb538, 0, none⟩) (Kd.V_far (p := ⟨gb544, 1, none⟩) (Kd.V_far (p := ⟨gb544, 0, none⟩) (Kd.V_mono (Kd.V_mono HO_520001.out (fun k_ hk => (⟨hk, hk.2⟩ : _ ∧ k_ ≠ gb544))) (fun k_ hk => (⟨hk, hk.1.1.2.2.2⟩ : _ ∧ k_ ≠ gb538))) (fun _ hk => hk.1.2) (.int .u64 t539)) (fun _ hk => hk.1.2) (.slice Ao73 t540.length co73)) (fun _ hk => hk.2) (.int .u64 t539)) (fun _ hk => hk.2) (.slice Ao73 t540.length co73)) (fun _ hk => ⟨hk.1.1.1.1, ⟨hk.1.1.1.2.1, ⟨hk.1.1.1.2.2.1, hk.1.1.1.2.2.2⟩⟩⟩)⟩, ⟨by (with_reducible repeat (first | apply Kd.V_alloc | apply Kd.V_drewN | apply Kd.V_drew)); exact Kd.V_mono (Kd.V_far (p := ⟨gb538, 1, none⟩) (Kd.V_far (p := ⟨gb538, 0, none⟩) (Kd.V_far (p := ⟨gb544, 1, none⟩) (Kd.V_far (p := ⟨gb544, 0, none⟩) (Kd.V_mono (Kd.V_mono HO_526001.out (fun k_ hk => (⟨hk, hk.2⟩ : _ ∧ k_ ≠ gb544))) (fun k_ hk => (⟨hk, hk.1.1.2.2.2⟩ : _ ∧ k_ ≠ gb538))) (fun _ hk => hk.1.2) (.int .u64 t539)) (fun _ hk => hk.1.2) (.slice Ao73 t540.length co73)) (fun _ hk => hk.2) (.int .u64 t539)) (fun _ hk => hk.2) (.slice Ao73 t540.length co73)) (fun _ hk => ⟨hk.1.1.1.1, ⟨hk.1.1.1.2.1, ⟨hk.1.1.1.2.2.1, hk.1.1.1.2.2.2⟩⟩⟩)⟩, ⟨by (with_reducible repeat (first | apply Kd.V_alloc | apply Kd.V_drewN | apply Kd.V_drew)); exact Kd.V_mono (Kd.V_far (p := ⟨gb538, 1, none⟩) (Kd.V_far (p := ⟨gb538, 0, none⟩) (Kd.V_far (p := ⟨gb544, 1, none⟩) (Kd.V_far (p := ⟨gb544, 0, none⟩) (Kd.V_mono (Kd.V_mono HO542.out (fun k_ hk => (⟨hk, hk.2⟩ : _ ∧ k_ ≠ gb544))) (fun k_ hk => (⟨hk, hk.1.1.2.2.2⟩ : _ ∧ k_ ≠ gb538))) (fun _ hk => hk.1.2) (.int .u64 t539)) (fun _ hk => hk.1.2) (.slice Ao73 t540.length co73)) (fun _ hk => hk.2) (.int .u64 t539)) (fun _ hk => hk.2) (.slice Ao73 t540.length co73)) (fun _ hk => ⟨hk.1.1.1.1, ⟨hk.1.1.1.2.1, ⟨hk.1.1.1.2.2.1, hk.1.1.1.2.2.2⟩⟩⟩)⟩, ⟨by (with_reducible repeat (first | refine blk_drewN ?_ _ | refine blk_drew ?_ | refine blk_alloc ?_ _)); refine blk_far ?_ NB514_538.out _; (with_reducible repeat (first | refine blk_drewN ?_ _ | refine blk_drew ?_ | refine blk_alloc ?_ _)); refine blk_far ?_ NB514_538.out _; (with_reducible repeat (first | refine blk_drewN ?_ _ | refine blk_drew ?_ | refine blk_alloc ?_ _)); refine blk_far ?_ NB514_544.out _; (with_reducible repeat (first | refine blk_drewN ?_ _ | refine blk_drew ?_ | refine blk_alloc ?_ _)); refine blk_far ?_ NB514_544.out _; (with_reducible repeat (first | refine blk_drewN ?_ _ | refine blk_drew ?_ | refine blk_alloc ?_ _)); exact BK514.out⟩, ⟨by (with_reducible repeat (first | refine blk_drewN ?_ _ | refine blk_drew ?_ | refine blk_alloc ?_ _)); refine blk_far ?_ NB519_538.out _; (with_reducible repeat (first | refine blk_drewN ?_ _ | refine blk_drew ?_ | refine blk_alloc ?_ _)); refine blk_far ?_ NB519_538.out _; (with_reducible repeat (first | refine blk_drewN ?_ _ | refine blk_drew ?_ | refine blk_alloc ?_ _)); refine blk_far ?_ NB519_544.out _; (with_reducible repeat (first | refine blk_drewN ?_ _ | refine blk_drew ?_ | refine blk_alloc ?_ _)); refine blk_far ?_ NB519_544.out _; (with_reducible repeat (first | refine blk_drewN ?_ _ | refine blk_drew ?_ | refine blk_alloc ?_ _)); exact BK519.out⟩, ⟨by (with_reducible repeat (first | refine blk_drewN ?_ _ | refine blk_drew ?_ | refine blk_alloc ?_ _)); refine blk_far ?_ NB525_538.out _; (with_reducible repeat (first | refine blk_drewN ?_ _ | refine blk_drew ?_ | refine blk_alloc ?_ _)); refine blk_far ?_ NB525_538.out _; (with_reducible repeat (first | refine blk_drewN ?_ _ | refine blk_drew ?_ | refine blk_alloc ?_ _)); refine blk_far ?_ NB525_544.out _; (with_reducible repeat (first | refine blk_drewN ?_ _ | refine blk_drew ?_ | refine blk_alloc ?_ _)); refine blk_far ?_ NB525_544.out _; (with_reducible repeat (first | refine blk_drewN ?_ _ | refine blk_drew ?_ | refine blk_alloc ?_ _)); exact BK525.out⟩, ⟨by (with_reducible repeat (first | refine blk_drewN ?_ _ | refine blk_drew ?_ | refine blk_alloc ?_ _)); refine blk_put (cs := #[.int .u64 t539, .slice Ao65 x539001_3.length co65]) ?_ 1 _ rfl; (with_reducible repeat (first | refine blk_drewN ?_ _ | refine blk_drew ?_ | refine blk_alloc ?_ _)); refine blk_put (cs := #[.int .u64 x539000_3, .slice Ao65 x539001_3.length co65]) ?_ 0 _ rfl; (with_reducible repeat (first | refine blk_drewN ?_ _ | refine blk_drew ?_ | refine blk_alloc ?_ _)); refine blk_far ?_ NB538_544.out _; (with_reducible repeat (first | refine blk_drewN ?_ _ | refine blk_drew ?_ | refine blk_alloc ?_ _)); refine blk_far ?_ NB538_544.out _; (with_reducible repeat (first | refine blk_drewN ?_ _ | refine blk_drew ?_ | refine blk_alloc ?_ _)); exact BK538.out⟩, ⟨by repeat (first | (with_reducible first | exact HB.out | apply below_alloc | apply pw_below_drewN | apply below_drew1 | refine below_set ?_ GE514.out | refine below_set ?_ GE519.out | refine below_set ?_ GE525.out | refine below_set ?_ GE538.out | refine below_set ?_ GE544.out) | exact HB.out)⟩⟩
                        · rw [if_neg c57] at H
                          have c57b0 : (t543 == 0) = false := beq_eq_false_iff_ne.mpr c57
                          have c57b1 : (t543 != 0) = true := bne_iff_ne.mpr c57
                          exact absurd ((Option.some.inj H).trans hrt.out) (by decide)
                      · rw [if_neg c55] at H
                        have c55b0 : decide (x18_3 < (Int.tmod (wrap64 (a1)) (wrap64 ((t516.length : Int) + 1)))) = false := decide_eq_false c55
                        clear c55
                        replace H := Option.bind_eq_some_iff.mp H
                        obtain ⟨⟨t545, t546, t547⟩, A750, H⟩ := H
                        replace H : ((lead_Majority.f (t516.length : Int)).bind fun t548 => (if t547 = 0 then (if (t546 == (decide ((Int.tmod (wrap64 (a1)) (wrap64 ((t516.length : Int) + 1))) ≥ t548))) = true then (if t546 = true then ((tattleref17_Hold.f k3 a0_0 a0_1 a0_2).bind fun t549 => (if t545 = (wrap64 (a0_7 + t549)) then (if (wrap64 (2 * t548)) > (t516.length : Int) then (if (wrap64 (2 * (wrap64 (t548 - 1)))) ≤ (t516.length : Int) then ((tattlelaw18_awakeT.f).bind fun t550 => (some t550)) else (some false)) else (some false)) else (some false))) else (if (wrap64 (2 * t548)) > (t516.length : Int) then (if (wrap64 (2 * (wrap64 (t548 - 1)))) ≤ (t516.length : Int) then ((tattlelaw18_awakeT.f).bind fun t551 => (some t551)) else (some false)) else (some false))) else (some false)) else (some false))) = some r := H
                        have A75 := Aside0.mk A750
                        clear A750
                        replace H := Option.bind_eq_some_iff.mp H
                        obtain ⟨t548, A760, H⟩ := H
                        replace H : (if t547 = 0 then (if (t546 == (decide ((Int.tmod (wrap64 (a1)) (wrap64 ((t516.length : Int) + 1))) ≥ t548))) = true then (if t546 = true then ((tattleref17_Hold.f k3 a0_0 a0_1 a0_2).bind fun t549 => (if t545 = (wrap64 (a0_7 + t549)) then (if (wrap64 (2 * t548)) > (t516.length : Int) then (if (wrap64 (2 * (wrap64 (t548 - 1)))) ≤ (t516.length : Int) then ((tattlelaw18_awakeT.f).bind fun t550 => (some t550)) else (some false)) else (some false)) else (some false))) else (if (wrap64 (2 * t548)) > (t516.length : Int) then (if (wrap64 (2 * (wrap64 (t548 - 1)))) ≤ (t516.length : Int) then ((tattlelaw18_awakeT.f).bind fun t551 => (some t551)) else (some false)) else (some false))) else (some false)) else (some false)) = some r := H
                        have A76 := Aside0.mk A760
                        clear A760
                        by_cases c77 : t547 = 0
                        · rw [if_pos c77] at H
                          have c77b0 : (t547 == 0) = true := beq_iff_eq.mpr c77
                          have c77b1 : (t547 != 0) = false := bne_eq_false_iff_eq.mpr c77
                          clear c77
                          by_cases c78 : (t546 == (decide ((Int.tmod (wrap64 (a1)) (wrap64 ((t516.length : Int) + 1))) ≥ t548))) = true
                          · rw [if_pos c78] at H
                            have c78b0 : (t546 == (decide ((Int.tmod (wrap64 (a1)) (wrap64 ((t516.length : Int) + 1))) ≥ t548))) = true := c78
                            (try (have c78b1 : decide (t546 = (decide ((Int.tmod (wrap64 (a1)) (wrap64 ((t516.length : Int) + 1))) ≥ t548))) = true := by simpa using c78))
                            (try (have c78b2 : (t546 == (decide ((Int.tmod (wrap64 (a1)) (wrap64 ((t516.length : Int) + 1))) ≥ t548))) = true := by simpa using c78))
                            clear c78
                            by_cases c79 : t546 = true
                            · subst c79
                              have H1 : ((tattleref17_Hold.f k3 a0_0 a0_1 a0_2).bind fun t549 => (if t545 = (wrap64 (a0_7 + t549)) then (if (wrap64 (2 * t548)) > (t516.length : Int) then (if (wrap64 (2 * (wrap64 (t548 - 1)))) ≤ (t516.length : Int) then ((tattlelaw18_awakeT.f).bind fun t550 => (some t550)) else (some false)) else (some false)) else (some false))) = some r := by rw [if_pos rfl] at H; exact H
                              clear H
                              have H := H1
                              clear H1
                              replace H := Option.bind_eq_some_iff.mp H
                              obtain ⟨t549, A800, H⟩ := H
                              replace H : (if t545 = (wrap64 (a0_7 + t549)) then (if (wrap64 (2 * t548)) > (t516.length : Int) then (if (wrap64 (2 * (wrap64 (t548 - 1)))) ≤ (t516.length : Int) then ((tattlelaw18_awakeT.f).bind fun t550 => (some t550)) else (some false)) else (some false)) else (some false)) = some r := H
                              have A80 := Aside0.mk A800
                              clear A800
                              by_cases c81 : t545 = (wrap64 (a0_7 + t549))
                              · rw [if_pos c81] at H
                                have c81b0 : (t545 == (wrap64 (a0_7 + t549))) = true := beq_iff_eq.mpr c81
                                have c81b1 : (t545 != (wrap64 (a0_7 + t549))) = false := bne_eq_false_iff_eq.mpr c81
                                clear c81
                                by_cases c82 : (wrap64 (2 * t548)) > (t516.length : Int)
                                · rw [if_pos c82] at H
                                  have c82b0 : decide ((t516.length : Int) < (wrap64 (2 * t548))) = true := decide_eq_true c82
                                  clear c82
                                  by_cases c83 : (wrap64 (2 * (wrap64 (t548 - 1)))) ≤ (t516.length : Int)
                                  · rw [if_pos c83] at H
                                    have c83b0 : decide ((wrap64 (2 * (wrap64 (t548 - 1)))) ≤ (t516.length : Int)) = true := decide_eq_true c83
                                    clear c83
                                    replace H := Option.bind_eq_some_iff.mp H
                                    obtain ⟨t550, A840, H⟩ := H
                                    replace H : (some t550) = some r := H
                                    have A84 := Aside0.mk A840
                                    clear A840
                                    obtain rfl := Option.some.inj H
                                    have hnb85 := NB514_519.out
                                    have hnc85 := NB519_514.out
                                    have hnb86 := NB514_525.out
                                    have hnc86 := NB525_514.out
                                    have hnb87 := NB514_538.out
                                    have hnc87 := NB538_514.out
                                    have hcz88_0 : wr.cell? ⟨gb514, 0, none⟩ = some (.int .i64 a0_0) := (blk_cell BK514.out 0).trans rfl
                                    have hcz88_1 : wr.cell? ⟨gb514, 1, none⟩ = some (.int .i64 a0_1) := (blk_cell BK514.out 1).trans rfl
                                    have hcz88_2 : wr.cell? ⟨gb514, 2, none⟩ = some (.int .i64 a0_2) := (blk_cell BK514.out 2).trans rfl
                                    have hcz88_3 : wr.cell? ⟨gb514, 3, none⟩ = some (.int .u64 a0_3) := (blk_cell BK514.out 3).trans rfl
                                    have hcz88_4 : wr.cell? ⟨gb514, 4, none⟩ = some (.slice A0_4 l0_4.length c0_4) := (blk_cell BK514.out 4).trans rfl
                                    have hcz88_5 : wr.cell? ⟨gb514, 5, none⟩ = some (.int .i64 a0_5) := (blk_cell BK514.out 5).trans rfl
                                    have hcz88_6 : wr.cell? ⟨gb514, 6, none⟩ = some (.int .u64 a0_6) := (blk_cell BK514.out 6).trans rfl
                                    have hcz88_7 : wr.cell? ⟨gb514, 7, none⟩ = some (.int .i64 a0_7) := (blk_cell BK514.out 7).trans rfl
                                    have hcz88_8 : wr.cell? ⟨gb514, 8, none⟩ = some (.int .i64 a0_8) := (blk_cell BK514.out 8).trans rfl
                                    have hfz88_0 := blk_frozen BK514.out 0
                                    have hfz88_1 := blk_frozen BK514.out 1
                                    have hfz88_2 := blk_frozen BK514.out 2
                                    have hfz88_3 := blk_frozen BK514.out 3
                                    have hfz88_4 := blk_frozen BK514.out 4
                                    have hfz88_5 := blk_frozen BK514.out 5
                                    have hfz88_6 := blk_frozen BK514.out 6
                                    have hfz88_7 := blk_frozen BK514.out 7
                                    have hfz88_8 := blk_frozen BK514.out 8
                                    have hnb89 := NB538_519.out
                                    have hnc89 := NB519_538.out
                                    have hnb90 := NB538_525.out
                                    have hnc90 := NB525_538.out
                                    have hcz91_0 : wr.cell? ⟨gb538, 0, none⟩ = some (.int .u64 x539000_3) := (blk_cell BK538.out 0).trans rfl
                                    have hcz91_1 : wr.cell? ⟨gb538, 1, none⟩ = some (u539001) := (blk_cell BK538.out 1).trans rfl
                                    have hfz91_0 := blk_frozen BK538.out 0
                                    have hfz91_1 := blk_frozen BK538.out 1
                                    obtain ⟨Ao92, co92, eo92⟩ := Kd.V_slice HO_539001.out
                                    subst eo92
                                    try go_wp2_with (first | ((with_reducible refine gate_callee (f := 23) rfl ?_); refine goesL_ (some 111) rfl rfl Try.func23 (by kernel_rfl) rfl #[.agg #[.int .i64 a0_0, .int .i64 a0_1, .int .i64 a0_2], .agg #[.int .u64 x539000_3, .slice Ao92 x539001_3.length co92]] rfl (by (try simp only [List.map_toArray, List.map_cons, List.map_nil]); first | done | rfl | (simp only [List.length_drop, List.length_take]; rfl)) ?_; (with_reducible refine (lead_Until.calls a0_0 a0_1 a0_2 x539000_3 _ _ x539001_3 t545 true t547 _ ?side1 ?side2 A75.out).mono ?_); (case side1 => repeat (first | exact (Kd.V_reads' HO_539001.out).2.2 | (with_reducible refine Kd.C_alloc ?_ _) | (with_reducible refine Kd.C_drewN ?_ _) | (with_reducible refine Kd.C_drew ?_))); (case side2 => exact (Kd.V_reads' HO_539001.out).2.1); rintro e w93 ⟨rfl, hb⟩; refine ⟨_, rfl, ?_⟩; have n0_ := Aside0.mk (Kd.V_below (by (with_reducible repeat (first | apply Kd.V_alloc | apply Kd.V_drewN | apply Kd.V_drew)); exact HO_520001.out) hb); have n1_ := Aside0.mk (Kd.V_below (by (with_reducible repeat (first | apply Kd.V_alloc | apply Kd.V_drewN | apply Kd.V_drew)); exact HO_526001.out) hb); have n2_ := Aside0.mk (Kd.V_below (by (with_reducible repeat (first | apply Kd.V_alloc | apply Kd.V_drewN | apply Kd.V_drew)); exact HO_539001.out) hb); have n3_ := Aside0.mk (blk_below (g := gb514) (o := .cells #[.int .i64 a0_0, .int .i64 a0_1, .int .i64 a0_2, .int .u64 a0_3, .slice A0_4 l0_4.length c0_4, .int .i64 a0_5, .int .u64 a0_6, .int .i64 a0_7, .int .i64 a0_8] 54 (0, 0)) (by (with_reducible repeat (first | refine blk_drewN ?_ _ | refine blk_drew ?_ | refine blk_alloc ?_ _)); exact BK514.out) hb); have n4_ := Aside0.mk (blk_below (g := gb519) (o := .cells #[.int .u64 t515, .slice Ao13 t516.length co13] 52 (0, 0)) (by (with_reducible repeat (first | refine blk_drewN ?_ _ | refine blk_drew ?_ | refine blk_alloc ?_ _)); exact BK519.out) hb); have n5_ := Aside0.mk (blk_below (g := gb525) (o := .cells #[.int .u64 t520, .slice Ao22 t521.length co22] 52 (0, 0)) (by (with_reducible repeat (first | refine blk_drewN ?_ _ | refine blk_drew ?_ | refine blk_alloc ?_ _)); exact BK525.out) hb); have n6_ := Aside0.mk (blk_below (g := gb538) (o := .cells #[.int .u64 x539000_3, .slice Ao92 x539001_3.length co92] 52 (0, 0)) (by (with_reducible repeat (first | refine blk_drewN ?_ _ | refine blk_drew ?_ | refine blk_alloc ?_ _)); exact BK538.out) hb); have n7_ := Aside0.mk (below_step (by repeat (first | (with_reducible first | exact HB.out | apply below_alloc | apply pw_below_drewN | apply below_drew1 | refine below_set ?_ GE514.out | refine below_set ?_ GE519.out | refine below_set ?_ GE525.out | refine below_set ?_ GE538.out) | exact HB.out)) hb); clear HO_520001; clear HO_526001; clear HO_539001; clear BK514; clear BK519; clear BK525; clear BK538; clear HB; have HO_520001 := n0_; have HO_526001 := n1_; have HO_539001 := n2_; have BK514 := n3_; have BK519 := n4_; have BK525 := n5_; have BK538 := n6_; have HB := n7_; clear n0_ n1_ n2_ n3_ n4_ n5_ n6_ n7_; (try clear hb); (try clear hb2); (try clear hk); (try clear hi)) | ((with_reducible refine gate_callee (f := 26) rfl ?_); refine goesL_ (some 116) rfl rfl Try.func26 (by kernel_rfl) rfl #[.int .i64 (t516.length : Int)] rfl (by (try simp only [List.map_toArray, List.map_cons, List.map_nil]); first | done | rfl | (simp only [List.length_drop, List.length_take]; rfl)) ?_; (with_reducible refine (lead_Majority.calls (t516.length : Int) t548 _ A76.out).mono ?_); rintro e w' ⟨rfl, ⟨nd, rfl⟩⟩; refine ⟨_, rfl, ?_⟩))
                                    (try (rw [drewN_self w93]; generalize hq_ : World.drewN w93 _ = w93; have n0_ : Aside0 (Kd.V (Kd.int .i64) 2 w93 w.heap.size (fun k_ => k_ ≠ gb514 ∧ k_ ≠ gb519 ∧ k_ ≠ gb525 ∧ k_ ≠ gb538) (.slice Ao13 t516.length co13) t516) := ⟨by rw [← hq_]; exact (by (with_reducible repeat (first | apply Kd.V_alloc | apply Kd.V_drewN | apply Kd.V_drew)); exact HO_520001.out)⟩; have n1_ : Aside0 (Kd.V (Kd.int .i64) 2 w93 w.heap.size (fun k_ => k_ ≠ gb514 ∧ k_ ≠ gb519 ∧ k_ ≠ gb525 ∧ k_ ≠ gb538) (.slice Ao22 t521.length co22) t521) := ⟨by rw [← hq_]; exact (by (with_reducible repeat (first | apply Kd.V_alloc | apply Kd.V_drewN | apply Kd.V_drew)); exact HO_526001.out)⟩; have n2_ : Aside0 (Kd.V (Kd.int .i64) 2 w93 w.heap.size (fun k_ => k_ ≠ gb514 ∧ k_ ≠ gb519 ∧ k_ ≠ gb525 ∧ k_ ≠ gb538) (.slice Ao92 x539001_3.length co92) x539001_3) := ⟨by rw [← hq_]; exact (by (with_reducible repeat (first | apply Kd.V_alloc | apply Kd.V_drewN | apply Kd.V_drew)); exact HO_539001.out)⟩; have n3_ : Aside0 (w93.heap[gb514]? = some (.cells #[.int .i64 a0_0, .int .i64 a0_1, .int .i64 a0_2, .int .u64 a0_3, .slice A0_4 l0_4.length c0_4, .int .i64 a0_5, .int .u64 a0_6, .int .i64 a0_7, .int .i64 a0_8] 54 (0, 0))) := ⟨by rw [← hq_]; exact (by (with_reducible repeat (first | refine blk_drewN ?_ _ | refine blk_drew ?_ | refine blk_alloc ?_ _)); exact BK514.out)⟩; have n4_ : Aside0 (w93.heap[gb519]? = some (.cells #[.int .u64 t515, .slice Ao13 t516.length co13] 52 (0, 0))) := ⟨by rw [← hq_]; exact (by (with_reducible repeat (first | refine blk_drewN ?_ _ | refine blk_drew ?_ | refine blk_alloc ?_ _)); exact BK519.out)⟩; have n5_ : Aside0 (w93.heap[gb525]? = some (.cells #[.int .u64 t520, .slice Ao22 t521.length co22] 52 (0, 0))) := ⟨by rw [← hq_]; exact (by (with_reducible repeat (first | refine blk_drewN ?_ _ | refine blk_drew ?_ | refine blk_alloc ?_ _)); exact BK525.out)⟩; have n6_ : Aside0 (w93.heap[gb538]? = some (.cells #[.int .u64 x539000_3, .slice Ao92 x539001_3.length co92] 52 (0, 0))) := ⟨by rw [← hq_]; exact (by (with_reducible repeat (first | refine blk_drewN ?_ _ | refine blk_drew ?_ | refine blk_alloc ?_ _)); exact BK538.out)⟩; have n7_ : Aside0 (Below w.heap.size w w93) := ⟨by rw [← hq_]; exact (by repeat (first | (with_reducible first | exact HB.out | apply below_alloc | apply pw_below_drewN | apply below_drew1 | refine below_set ?_ GE514.out | refine below_set ?_ GE519.out | refine below_set ?_ GE525.out | refine below_set ?_ GE538.out) | exact HB.out))⟩; clear HO_520001 HO_526001 HO_539001 BK514 BK519 BK525 BK538 HB hq_; have HO_520001 := n0_; have HO_526001 := n1_; have HO_539001 := n2_; have BK514 := n3_; have BK519 := n4_; have BK525 := n5_; have BK538 := n6_; have HB := n7_; clear n0_ n1_ n2_ n3_ n4_ n5_ n6_ n7_))
                                    have n0_ := Aside0.mk (Kd.V_drew HO_520001.out)
                                    have n1_ := Aside0.mk (Kd.V_drew HO_526001.out)
                                    have n2_ := Aside0.mk (Kd.V_drew HO_539001.out)
                                    have n3_ := Aside0.mk (blk_drew BK514.out)
                                    have n4_ := Aside0.mk (blk_drew BK519.out)
                                    have n5_ := Aside0.mk (blk_drew BK525.out)
                                    have n6_ := Aside0.mk (blk_drew BK538.out)
                                    have n7_ := Aside0.mk (below_drew1 HB.out)
                                    clear HO_520001
                                    clear HO_526001
                                    clear HO_539001
                                    clear BK514
                                    clear BK519
                                    clear BK525
                                    clear BK538
                                    clear HB
                                    have HO_520001 := n0_
                                    have HO_526001 := n1_
                                    have HO_539001 := n2_
                                    have BK514 := n3_
                                    have BK519 := n4_
                                    have BK525 := n5_
                                    have BK538 := n6_
                                    have HB := n7_
                                    clear n0_ n1_ n2_ n3_ n4_ n5_ n6_ n7_
                                    refine start_ (n := 40) (S := fun w' => w'.cell? ⟨gb514, 0, none⟩ = some (.int .i64 a0_0) ∧ w'.cell? ⟨gb514, 1, none⟩ = some (.int .i64 a0_1) ∧ w'.cell? ⟨gb514, 2, none⟩ = some (.int .i64 a0_2) ∧ w'.cell? ⟨gb514, 3, none⟩ = some (.int .u64 a0_3) ∧ w'.cell? ⟨gb514, 4, none⟩ = some (.slice A0_4 l0_4.length c0_4) ∧ w'.cell? ⟨gb514, 5, none⟩ = some (.int .i64 a0_5) ∧ w'.cell? ⟨gb514, 6, none⟩ = some (.int .u64 a0_6) ∧ w'.cell? ⟨gb514, 7, none⟩ = some (.int .i64 a0_7) ∧ w'.cell? ⟨gb514, 8, none⟩ = some (.int .i64 a0_8)) (ds := []) #[false, false, false, false, false, false, false, false, false, false, false, false, false, false, false, false, false, false, false, false, false, false, false, false, false, false, false, false, false, false, false, false, false, false, false, false, false, false, false, false] (by kernel_rfl) rfl rfl ⟨(blk_cell BK514.out 0).trans rfl, (blk_cell BK514.out 1).trans rfl, (blk_cell BK514.out 2).trans rfl, (blk_cell BK514.out 3).trans rfl, (blk_cell BK514.out 4).trans rfl, (blk_cell BK514.out 5).trans rfl, (blk_cell BK514.out 6).trans rfl, (blk_cell BK514.out 7).trans rfl, (blk_cell BK514.out 8).trans rfl⟩ (fun hHeld => ?_); refine with_tabW tattlelaw18_LeadMore.tab23 tattlelaw18_LeadMore.bits23 (fun HT_ HW_ => ?_)
                                    generalize w93.drew = w94 at HO_520001 HO_526001 HO_539001 BK514 BK519 BK525 BK538 HB hHeld ⊢
                                    refine pure_ (i := 0) (N := some 117) (v := ?_) (a' := ?_) #[true, false, false, false, false, false, false, false, false, false, false, false, false, false, false, false, false, false, false, false, false, false, false, false, false, false, false, false, false, false, false, false, false, false, false, false, false, false, false, false] rfl rfl (any_of HT_.out (by kernel_rfl)) (fun _ _ _ h => h) (Or.inl ⟨by rfl, ?_⟩) ?_ ?_
                                    rotate_left
                                    · intro w'
                                      go_simp
                                      with_reducible rfl
                                    rotate_left
                                    · simp only [Act.put, List.setIfInBounds_toArray, List.set_cons_zero, List.set_cons_succ, i64_w, i32_w]
                                      rfl
                                    refine pure_ (i := 1) (N := some 118) (v := ?_) (a' := ?_) #[true, true, false, false, false, false, false, false, false, false, false, false, false, false, false, false, false, false, false, false, false, false, false, false, false, false, false, false, false, false, false, false, false, false, false, false, false, false, false, false] rfl rfl (any_of HT_.out (by kernel_rfl)) (fun _ _ _ h => h) (Or.inl ⟨by rfl, ?_⟩) ?_ ?_
                                    rotate_left
                                    · intro w'
                                      go_simp
                                      with_reducible rfl
                                    rotate_left
                                    · simp only [Act.put, List.setIfInBounds_toArray, List.set_cons_zero, List.set_cons_succ, i64_w, i32_w]
                                      rfl
                                    refine pure_ (i := 2) (N := some 119) (v := ?_) (a' := ?_) #[true, true, true, false, false, false, false, false, false, false, false, false, false, false, false, false, false, false, false, false, false, false, false, false, false, false, false, false, false, false, false, false, false, false, false, false, false, false, false, false] rfl rfl (any_of HT_.out (by kernel_rfl)) (fun _ _ _ h => h) (Or.inl ⟨by rfl, ?_⟩) ?_ ?_
                                    rotate_left
                                    · intro w'
                                      go_simp
                                      with_reducible rfl
                                    rotate_left
                                    · simp only [Act.put, List.setIfInBounds_toArray, List.set_cons_zero, List.set_cons_succ, i64_w, i32_w]
                                      rfl
                                    refine pure_ (i := 3) (N := some 120) (v := ?_) (a' := ?_) #[true, true, true, true, false, false, false, false, false, false, false, false, false, false, false, false, false, false, false, false, false, false, false, false, false, false, false, false, false, false, false, false, false, false, false, false, false, false, false, false] rfl rfl (any_of HT_.out (by kernel_rfl)) (fun _ _ _ h => h) (Or.inl ⟨by rfl, ?_⟩) ?_ ?_
                                    rotate_left
                                    · intro w'
                                      go_simp
                                      with_reducible rfl
                                    rotate_left
                                    · simp only [Act.put, List.setIfInBounds_toArray, List.set_cons_zero, List.set_cons_succ, i64_w, i32_w]
                                      rfl
                                    refine pure_ (i := 4) (N := some 121) (v := ?_) (a' := ?_) #[true, true, true, true, true, false, false, false, false, false, false, false, false, false, false, false, false, false, false, false, false, false, false, false, false, false, false, false, false, false, false, false, false, false, false, false, false, false, false, false] rfl rfl (any_of HT_.out (by kernel_rfl)) (fun _ _ _ h => h) (Or.inl ⟨by rfl, ?_⟩) ?_ ?_
                                    rotate_left
                                    · intro w'
                                      go_simp
                                      with_reducible rfl
                                    rotate_left
                                    · simp only [Act.put, List.setIfInBounds_toArray, List.set_cons_zero, List.set_cons_succ, i64_w, i32_w]
                                      rfl
                                    refine pure_ (i := 5) (N := some 122) (v := ?_) (a' := ?_) #[true, true, true, true, true, true, false, false, false, false, false, false, false, false, false, false, false, false, false, false, false, false, false, false, false, false, false, false, false, false, false, false, false, false, false, false, false, false, false, false] rfl rfl (any_of HT_.out (by kernel_rfl)) (fun _ _ _ h => h) (Or.inl ⟨by rfl, ?_⟩) ?_ ?_
                                    rotate_left
                                    · intro w'
                                      go_simp
                                      with_reducible rfl
                                    rotate_left
                                    · simp only [Act.put, List.setIfInBounds_toArray, List.set_cons_zero, List.set_cons_succ, i64_w, i32_w]
                                      rfl
                                    refine pure_ (i := 6) (N := some 123) (v := ?_) (a' := ?_) #[true, true, true, true, true, true, true, false, false, false, false, false, false, false, false, false, false, false, false, false, false, false, false, false, false, false, false, false, false, false, false, false, false, false, false, false, false, false, false, false] rfl rfl (any_of HT_.out (by kernel_rfl)) (fun _ _ _ h => h) (Or.inl ⟨by rfl, ?_⟩) ?_ ?_
                                    rotate_left
                                    · intro w'
                                      go_simp
                                      with_reducible rfl
                                    rotate_left
                                    · simp only [Act.put, List.setIfInBounds_toArray, List.set_cons_zero, List.set_cons_succ, i64_w, i32_w]
                                      rfl
                                    refine pure_ (i := 7) (N := some 124) (v := ?_) (a' := ?_) #[true, true, true, true, true, true, true, true, false, false, false, false, false, false, false, false, false, false, false, false, false, false, false, false, false, false, false, false, false, false, false, false, false, false, false, false, false, false, false, false] rfl rfl (any_of HT_.out (by kernel_rfl)) (fun _ _ _ h => h) (Or.inl ⟨by rfl, ?_⟩) ?_ ?_
                                    rotate_left
                                    · intro w'
                                      go_simp
                                      with_reducible rfl
                                    rotate_left
                                    · simp only [Act.put, List.setIfInBounds_toArray, List.set_cons_zero, List.set_cons_succ, i64_w, i32_w]
                                      rfl
                                    refine pure_ (i := 8) (N := some 125) (v := ?_) (a' := ?_) #[true, true, true, true, true, true, true, true, true, false, false, false, false, false, false, false, false, false, false, false, false, false, false, false, false, false, false, false, false, false, false, false, false, false, false, false, false, false, false, false] rfl rfl (any_of HT_.out (by kernel_rfl)) (fun _ _ _ h => h) (Or.inl ⟨by rfl, ?_⟩) ?_ ?_
                                    rotate_left
                                    · intro w'
                                      go_simp
                                      with_reducible rfl
                                    rotate_left
                                    · simp only [Act.put, List.setIfInBounds_toArray, List.set_cons_zero, List.set_cons_succ, i64_w, i32_w]
                                      rfl
                                    refine pure_ (i := 9) (N := some 126) (v := ?_) (a' := ?_) #[true, true, true, true, true, true, true, true, true, true, false, false, false, false, false, false, false, false, false, false, false, false, false, false, false, false, false, false, false, false, false, false, false, false, false, false, false, false, false, false] rfl rfl (any_of HT_.out (by kernel_rfl)) (fun _ _ _ h => h) (Or.inl ⟨by rfl, ?_⟩) ?_ ?_
                                    rotate_left
                                    · intro w'
                                      go_simp
                                      with_reducible rfl
                                    rotate_left
                                    · simp only [Act.put, List.setIfInBounds_toArray, List.set_cons_zero, List.set_cons_succ, i64_w, i32_w]
                                      rfl
                                    refine pure_ (i := 10) (N := some 127) (v := ?_) (a' := ?_) #[true, true, true, true, true, true, true, true, true, true, true, false, false, false, false, false, false, false, false, false, false, false, false, false, false, false, false, false, false, false, false, false, false, false, false, false, false, false, false, false] rfl rfl (any_of HT_.out (by kernel_rfl)) (fun _ _ _ h => h) (Or.inl ⟨by rfl, ?_⟩) ?_ ?_
                                    rotate_left
                                    · intro w'
                                      go_simp
                                      with_reducible rfl
                                    rotate_left
                                    · simp only [Act.put, List.setIfInBounds_toArray, List.set_cons_zero, List.set_cons_succ, i64_w, i32_w]
                                      rfl
                                    refine pure_ (i := 11) (N := some 128) (v := ?_) (a' := ?_) #[true, true, true, true, true, true, true, true, true, true, true, true, false, false, false, false, false, false, false, false, false, false, false, false, false, false, false, false, false, false, false, false, false, false, false, false, false, false, false, false] rfl rfl (any_of HT_.out (by kernel_rfl)) (fun _ _ _ h => h) (Or.inl ⟨by rfl, ?_⟩) ?_ ?_
                                    rotate_left
                                    · intro w'
                                      go_simp
                                      with_reducible rfl
                                    rotate_left
                                    · simp only [Act.put, List.setIfInBounds_toArray, List.set_cons_zero, List.set_cons_succ, i64_w, i32_w]
                                      rfl
                                    refine pure_ (i := 12) (N := some 129) (v := ?_) (a' := ?_) #[true, true, true, true, true, true, true, true, true, true, true, true, true, false, false, false, false, false, false, false, false, false, false, false, false, false, false, false, false, false, false, false, false, false, false, false, false, false, false, false] rfl rfl (any_of HT_.out (by kernel_rfl)) (fun _ _ _ h => h) (Or.inl ⟨by rfl, ?_⟩) ?_ ?_
                                    rotate_left
                                    · intro w'
                                      go_simp
                                      with_reducible rfl
                                    rotate_left
                                    · simp only [Act.put, List.setIfInBounds_toArray, List.set_cons_zero, List.set_cons_succ, i64_w, i32_w]
                                      rfl
                                    refine pure_ (i := 13) (N := some 130) (v := ?_) (a' := ?_) #[true, true, true, true, true, true, true, true, true, true, true, true, true, true, false, false, false, false, false, false, false, false, false, false, false, false, false, false, false, false, false, false, false, false, false, false, false, false, false, false] rfl rfl (any_of HT_.out (by kernel_rfl)) (fun _ _ _ h => h) (Or.inl ⟨by rfl, ?_⟩) ?_ ?_
                                    rotate_left
                                    · intro w'
                                      go_simp
                                      with_reducible rfl
                                    rotate_left
                                    · simp only [Act.put, List.setIfInBounds_toArray, List.set_cons_zero, List.set_cons_succ, i64_w, i32_w]
                                      rfl
                                    refine pure_ (i := 14) (N := some 131) (v := ?_) (a' := ?_) #[true, true, true, true, true, true, true, true, true, true, true, true, true, true, true, false, false, false, false, false, false, false, false, false, false, false, false, false, false, false, false, false, false, false, false, false, false, false, false, false] rfl rfl (any_of HT_.out (by kernel_rfl)) (fun _ _ _ h => h) (Or.inl ⟨by rfl, ?_⟩) ?_ ?_
                                    rotate_left
                                    · intro w'
                                      go_simp
                                      with_reducible rfl
                                    rotate_left
                                    · simp only [Act.put, List.setIfInBounds_toArray, List.set_cons_zero, List.set_cons_succ, i64_w, i32_w]
                                      rfl
                                    refine pure_ (i := 16) (N := some 133) (v := ?_) (a' := ?_) #[true, true, true, true, true, true, true, true, true, true, true, true, true, true, true, false, true, false, false, false, false, false, false, false, false, false, false, false, false, false, false, false, false, false, false, false, false, false, false, false] rfl rfl (any_of HT_.out (by kernel_rfl)) (fun _ _ _ h => h) (Or.inl ⟨by rfl, ?_⟩) ?_ ?_
                                    rotate_left
                                    · intro w'
                                      go_simp
                                      with_reducible rfl
                                    rotate_left
                                    · simp only [Act.put, List.setIfInBounds_toArray, List.set_cons_zero, List.set_cons_succ, i64_w, i32_w]
                                      rfl
                                    refine take_ (i := 15) (N := some 132) (v := ?_) (a' := ?_) #[true, true, true, true, true, true, true, true, true, true, true, true, true, true, true, true, true, false, false, false, false, false, false, false, false, false, false, false, false, false, false, false, false, false, false, false, false, false, false, false] rfl rfl (take_ofW HT_.out HW_.out (by kernel_rfl)) (fun _ _ _ h => h) (Or.inl ⟨by rfl, ?_⟩) hHeld ?_ ?_
                                    rotate_left
                                    · rintro w' ⟨s0, s1, s2, s3, s4, s5, s6, s7, s8⟩
                                      go_simp
                                      with_reducible rfl
                                    rotate_left
                                    · simp only [Act.put, List.setIfInBounds_toArray, List.set_cons_zero, List.set_cons_succ, i64_w, i32_w]
                                      rfl
                                    refine take_ (i := 17) (N := some 134) (v := ?_) (a' := ?_) #[true, true, true, true, true, true, true, true, true, true, true, true, true, true, true, true, true, true, false, false, false, false, false, false, false, false, false, false, false, false, false, false, false, false, false, false, false, false, false, false] rfl rfl (take_ofW HT_.out HW_.out (by kernel_rfl)) (fun _ _ _ h => h) (Or.inl ⟨by rfl, ?_⟩) hHeld ?_ ?_
                                    rotate_left
                                    · rintro w' ⟨s0, s1, s2, s3, s4, s5, s6, s7, s8⟩
                                      go_simp
                                      with_reducible rfl
                                    rotate_left
                                    · simp only [Act.put, List.setIfInBounds_toArray, List.set_cons_zero, List.set_cons_succ, i64_w, i32_w]
                                      rfl
                                    refine one_ (i := 18) (N := some 135) #[true, true, true, true, true, true, true, true, true, true, true, true, true, true, true, true, true, true, true, false, false, false, false, false, false, false, false, false, false, false, false, false, false, false, false, false, false, false, false, false] rfl rfl (one_of HT_.out (by kernel_rfl)) (by decide) (fun K hK => ?_)
                                    refine goes_ Try.func15 (by kernel_rfl) rfl #[.agg #[.int .i64 a0_0, .int .i64 a0_1, .int .i64 a0_2]] (by rfl) rfl rfl (by (try simp only [List.map_toArray, List.map_cons, List.map_nil]); first | done | rfl | (simp only [List.length_drop, List.length_take]; rfl)) ?_
                                    with_reducible refine (tattleref17_Hold.calls k3 a0_0 a0_1 a0_2 t549 _ A80.out).mono ?_
                                    rintro e w95 ⟨rfl, hb⟩
                                    refine ⟨_, rfl, ?_⟩
                                    have n0_ := Aside0.mk (Kd.V_below (by (with_reducible repeat (first | apply Kd.V_alloc | apply Kd.V_drewN | apply Kd.V_drew)); exact HO_520001.out) hb)
                                    have n1_ := Aside0.mk (Kd.V_below (by (with_reducible repeat (first | apply Kd.V_alloc | apply Kd.V_drewN | apply Kd.V_drew)); exact HO_526001.out) hb)
                                    have n2_ := Aside0.mk (Kd.V_below (by (with_reducible repeat (first | apply Kd.V_alloc | apply Kd.V_drewN | apply Kd.V_drew)); exact HO_539001.out) hb)
                                    have n3_ := Aside0.mk (blk_below (g := gb514) (o := .cells #[.int .i64 a0_0, .int .i64 a0_1, .int .i64 a0_2, .int .u64 a0_3, .slice A0_4 l0_4.length c0_4, .int .i64 a0_5, .int .u64 a0_6, .int .i64 a0_7, .int .i64 a0_8] 54 (0, 0)) (by (with_reducible repeat (first | refine blk_drewN ?_ _ | refine blk_drew ?_ | refine blk_alloc ?_ _)); exact BK514.out) hb)
                                    have n4_ := Aside0.mk (blk_below (g := gb519) (o := .cells #[.int .u64 t515, .slice Ao13 t516.length co13] 52 (0, 0)) (by (with_reducible repeat (first | refine blk_drewN ?_ _ | refine blk_drew ?_ | refine blk_alloc ?_ _)); exact BK519.out) hb)
                                    have n5_ := Aside0.mk (blk_below (g := gb525) (o := .cells #[.int .u64 t520, .slice Ao22 t521.length co22] 52 (0, 0)) (by (with_reducible repeat (first | refine blk_drewN ?_ _ | refine blk_drew ?_ | refine blk_alloc ?_ _)); exact BK525.out) hb)
                                    have n6_ := Aside0.mk (blk_below (g := gb538) (o := .cells #[.int .u64 x539000_3, .slice Ao92 x539001_3.length co92] 52 (0, 0)) (by (with_reducible repeat (first | refine blk_drewN ?_ _ | refine blk_drew ?_ | refine blk_alloc ?_ _)); exact BK538.out) hb)
                                    have n7_ := Aside0.mk (below_step (by repeat (first | (with_reducible first | exact HB.out | apply below_alloc | apply pw_below_drewN | apply below_drew1 | refine below_set ?_ GE514.out | refine below_set ?_ GE519.out | refine below_set ?_ GE525.out | refine below_set ?_ GE538.out) | exact HB.out)) hb)
                                    clear HO_520001
                                    clear HO_526001
                                    clear HO_539001
                                    clear BK514
                                    clear BK519
                                    clear BK525
                                    clear BK538
                                    clear HB
                                    have HO_520001 := n0_
                                    have HO_526001 := n1_
                                    have HO_539001 := n2_
                                    have BK514 := n3_
                                    have BK519 := n4_
                                    have BK525 := n5_
                                    have BK538 := n6_
                                    have HB := n7_
                                    clear n0_ n1_ n2_ n3_ n4_ n5_ n6_ n7_
                                    (try clear hb)
                                    (try clear hb2)
                                    (try clear hk)
                                    (try clear hi)
                                    refine hK.out _ _ ⟨(blk_cell BK514.out 0).trans rfl, (blk_cell BK514.out 1).trans rfl, (blk_cell BK514.out 2).trans rfl, (blk_cell BK514.out 3).trans rfl, (blk_cell BK514.out 4).trans rfl, (blk_cell BK514.out 5).trans rfl, (blk_cell BK514.out 6).trans rfl, (blk_cell BK514.out 7).trans rfl, (blk_cell BK514.out 8).trans rfl⟩ (fun hHeld => ?_)
                                    clear hK K
                                    refine norm_ (a' := ?_) ?_ ?_
                                    rotate_left
                                    · show Act.put _ (some 135) _ = _
                                      simp only [Act.put, List.setIfInBounds_toArray, List.set_cons_zero, List.set_cons_succ, i64_w, i32_w]
                                      rfl
                                    refine pure_ (i := 19) (N := some 136) (v := ?_) (a' := ?_) #[true, true, true, true, true, true, true, true, true, true, true, true, true, true, true, true, true, true, true, true, false, false, false, false, false, false, false, false, false, false, false, false, false, false, false, false, false, false, false, false] rfl rfl (any_of HT_.out (by kernel_rfl)) (fun _ _ _ h => h) (Or.inl ⟨by rfl, ?_⟩) ?_ ?_
                                    rotate_left
                                    · intro w'
                                      go_simp
                                      with_reducible rfl
                                    rotate_left
                                    · simp only [Act.put, List.setIfInBounds_toArray, List.set_cons_zero, List.set_cons_succ, i64_w, i32_w]
                                      rfl
                                    refine pure_ (i := 20) (N := some 137) (v := ?_) (a' := ?_) #[true, true, true, true, true, true, true, true, true, true, true, true, true, true, true, true, true, true, true, true, true, false, false, false, false, false, false, false, false, false, false, false, false, false, false, false, false, false, false, false] rfl rfl (any_of HT_.out (by kernel_rfl)) (fun _ _ _ h => h) (Or.inl ⟨by rfl, ?_⟩) ?_ ?_
                                    rotate_left
                                    · intro w'
                                      go_simp
                                      with_reducible rfl
                                    rotate_left
                                    · simp only [Act.put, List.setIfInBounds_toArray, List.set_cons_zero, List.set_cons_succ, i64_w, i32_w]
                                      rfl
                                    refine pure_ (i := 21) (N := some 138) (v := ?_) (a' := ?_) #[true, true, true, true, true, true, true, true, true, true, true, true, true, true, true, true, true, true, true, true, true, true, false, false, false, false, false, false, false, false, false, false, false, false, false, false, false, false, false, false] rfl rfl (any_of HT_.out (by kernel_rfl)) (fun _ _ _ h => h) (Or.inl ⟨by rfl, ?_⟩) ?_ ?_
                                    rotate_left
                                    · intro w'
                                      go_simp
                                      with_reducible rfl
                                    rotate_left
                                    · simp only [Act.put, List.setIfInBounds_toArray, List.set_cons_zero, List.set_cons_succ, i64_w, i32_w]
                                      rfl
                                    refine pure_ (i := 22) (N := some 139) (v := ?_) (a' := ?_) #[true, true, true, true, true, true, true, true, true, true, true, true, true, true, true, true, true, true, true, true, true, true, true, false, false, false, false, false, false, false, false, false, false, false, false, false, false, false, false, false] rfl rfl (any_of HT_.out (by kernel_rfl)) (fun _ _ _ h => h) (Or.inl ⟨by rfl, ?_⟩) ?_ ?_
                                    rotate_left
                                    · intro w'
                                      go_simp
                                      with_reducible rfl
                                    rotate_left
                                    · simp only [Act.put, List.setIfInBounds_toArray, List.set_cons_zero, List.set_cons_succ, i64_w, i32_w]
                                      rfl
                                    refine pure_ (i := 23) (N := some 140) (v := ?_) (a' := ?_) #[true, true, true, true, true, true, true, true, true, true, true, true, true, true, true, true, true, true, true, true, true, true, true, true, false, false, false, false, false, false, false, false, false, false, false, false, false, false, false, false] rfl rfl (any_of HT_.out (by kernel_rfl)) (fun _ _ _ h => h) (Or.inl ⟨by rfl, ?_⟩) ?_ ?_
                                    rotate_left
                                    · intro w'
                                      go_simp
                                      with_reducible rfl
                                    rotate_left
                                    · simp only [Act.put, List.setIfInBounds_toArray, List.set_cons_zero, List.set_cons_succ, i64_w, i32_w]
                                      rfl
                                    refine pure_ (i := 24) (N := some 141) (v := ?_) (a' := ?_) #[true, true, true, true, true, true, true, true, true, true, true, true, true, true, true, true, true, true, true, true, true, true, true, true, true, false, false, false, false, false, false, false, false, false, false, false, false, false, false, false] rfl rfl (any_of HT_.out (by kernel_rfl)) (fun _ _ _ h => h) (Or.inl ⟨by rfl, ?_⟩) ?_ ?_
                                    rotate_left
                                    · intro w'
                                      go_simp
                                      with_reducible rfl
                                    rotate_left
                                    · simp only [Act.put, List.setIfInBounds_toArray, List.set_cons_zero, List.set_cons_succ, i64_w, i32_w]
                                      rfl
                                    refine pure_ (i := 25) (N := some 142) (v := ?_) (a' := ?_) #[true, true, true, true, true, true, true, true, true, true, true, true, true, true, true, true, true, true, true, true, true, true, true, true, true, true, false, false, false, false, false, false, false, false, false, false, false, false, false, false] rfl rfl (any_of HT_.out (by kernel_rfl)) (fun _ _ _ h => h) (Or.inl ⟨by rfl, ?_⟩) ?_ ?_
                                    rotate_left
                                    · intro w'
                                      go_simp
                                      with_reducible rfl
                                    rotate_left
                                    · simp only [Act.put, List.setIfInBounds_toArray, List.set_cons_zero, List.set_cons_succ, i64_w, i32_w]
                                      rfl
                                    refine pure_ (i := 26) (N := some 143) (v := ?_) (a' := ?_) #[true, true, true, true, true, true, true, true, true, true, true, true, true, true, true, true, true, true, true, true, true, true, true, true, true, true, true, false, false, false, false, false, false, false, false, false, false, false, false, false] rfl rfl (any_of HT_.out (by kernel_rfl)) (fun _ _ _ h => h) (Or.inl ⟨by rfl, ?_⟩) ?_ ?_
                                    rotate_left
                                    · intro w'
                                      go_simp
                                      with_reducible rfl
                                    rotate_left
                                    · simp only [Act.put, List.setIfInBounds_toArray, List.set_cons_zero, List.set_cons_succ, i64_w, i32_w]
                                      rfl
                                    refine pure_ (i := 27) (N := some 144) (v := ?_) (a' := ?_) #[true, true, true, true, true, true, true, true, true, true, true, true, true, true, true, true, true, true, true, true, true, true, true, true, true, true, true, true, false, false, false, false, false, false, false, false, false, false, false, false] rfl rfl (any_of HT_.out (by kernel_rfl)) (fun _ _ _ h => h) (Or.inl ⟨by rfl, ?_⟩) ?_ ?_
                                    rotate_left
                                    · intro w'
                                      go_simp
                                      with_reducible rfl
                                    rotate_left
                                    · simp only [Act.put, List.setIfInBounds_toArray, List.set_cons_zero, List.set_cons_succ, i64_w, i32_w]
                                      rfl
                                    refine pure_ (i := 28) (N := some 145) (v := ?_) (a' := ?_) #[true, true, true, true, true, true, true, true, true, true, true, true, true, true, true, true, true, true, true, true, true, true, true, true, true, true, true, true, true, false, false, false, false, false, false, false, false, false, false, false] rfl rfl (any_of HT_.out (by kernel_rfl)) (fun _ _ _ h => h) (Or.inl ⟨by rfl, ?_⟩) ?_ ?_
                                    rotate_left
                                    · intro w'
                                      go_simp
                                      with_reducible rfl
                                    rotate_left
                                    · simp only [Act.put, List.setIfInBounds_toArray, List.set_cons_zero, List.set_cons_succ, i64_w, i32_w]
                                      rfl
                                    refine pure_ (i := 29) (N := some 146) (v := ?_) (a' := ?_) #[true, true, true, true, true, true, true, true, true, true, true, true, true, true, true, true, true, true, true, true, true, true, true, true, true, true, true, true, true, true, false, false, false, false, false, false, false, false, false, false] rfl rfl (any_of HT_.out (by kernel_rfl)) (fun _ _ _ h => h) (Or.inl ⟨by rfl, ?_⟩) ?_ ?_
                                    rotate_left
                                    · intro w'
                                      go_simp
                                      with_reducible rfl
                                    rotate_left
                                    · simp only [Act.put, List.setIfInBounds_toArray, List.set_cons_zero, List.set_cons_succ, i64_w, i32_w]
                                      rfl
                                    refine pure_ (i := 30) (N := some 147) (v := ?_) (a' := ?_) #[true, true, true, true, true, true, true, true, true, true, true, true, true, true, true, true, true, true, true, true, true, true, true, true, true, true, true, true, true, true, true, false, false, false, false, false, false, false, false, false] rfl rfl (any_of HT_.out (by kernel_rfl)) (fun _ _ _ h => h) (Or.inl ⟨by rfl, ?_⟩) ?_ ?_
                                    rotate_left
                                    · intro w'
                                      go_simp
                                      with_reducible rfl
                                    rotate_left
                                    · simp only [Act.put, List.setIfInBounds_toArray, List.set_cons_zero, List.set_cons_succ, i64_w, i32_w]
                                      rfl
                                    refine pure_ (i := 31) (N := some 148) (v := ?_) (a' := ?_) #[true, true, true, true, true, true, true, true, true, true, true, true, true, true, true, true, true, true, true, true, true, true, true, true, true, true, true, true, true, true, true, true, false, false, false, false, false, false, false, false] rfl rfl (any_of HT_.out (by kernel_rfl)) (fun _ _ _ h => h) (Or.inl ⟨by rfl, ?_⟩) ?_ ?_
                                    rotate_left
                                    · intro w'
                                      go_simp
                                      with_reducible rfl
                                    rotate_left
                                    · simp only [Act.put, List.setIfInBounds_toArray, List.set_cons_zero, List.set_cons_succ, i64_w, i32_w]
                                      rfl
                                    refine pure_ (i := 32) (N := some 149) (v := ?_) (a' := ?_) #[true, true, true, true, true, true, true, true, true, true, true, true, true, true, true, true, true, true, true, true, true, true, true, true, true, true, true, true, true, true, true, true, true, false, false, false, false, false, false, false] rfl rfl (any_of HT_.out (by kernel_rfl)) (fun _ _ _ h => h) (Or.inl ⟨by rfl, ?_⟩) ?_ ?_
                                    rotate_left
                                    · intro w'
                                      go_simp
                                      with_reducible rfl
                                    rotate_left
                                    · simp only [Act.put, List.setIfInBounds_toArray, List.set_cons_zero, List.set_cons_succ, i64_w, i32_w]
                                      rfl
                                    refine pure_ (i := 33) (N := some 150) (v := ?_) (a' := ?_) #[true, true, true, true, true, true, true, true, true, true, true, true, true, true, true, true, true, true, true, true, true, true, true, true, true, true, true, true, true, true, true, true, true, true, false, false, false, false, false, false] rfl rfl (any_of HT_.out (by kernel_rfl)) (fun _ _ _ h => h) (Or.inl ⟨by rfl, ?_⟩) ?_ ?_
                                    rotate_left
                                    · intro w'
                                      go_simp
                                      with_reducible rfl
                                    rotate_left
                                    · simp only [Act.put, List.setIfInBounds_toArray, List.set_cons_zero, List.set_cons_succ, i64_w, i32_w]
                                      rfl
                                    refine pure_ (i := 34) (N := some 151) (v := ?_) (a' := ?_) #[true, true, true, true, true, true, true, true, true, true, true, true, true, true, true, true, true, true, true, true, true, true, true, true, true, true, true, true, true, true, true, true, true, true, true, false, false, false, false, false] rfl rfl (any_of HT_.out (by kernel_rfl)) (fun _ _ _ h => h) (Or.inl ⟨by rfl, ?_⟩) ?_ ?_
                                    rotate_left
                                    · intro w'
                                      go_simp
                                      with_reducible rfl
                                    rotate_left
                                    · simp only [Act.put, List.setIfInBounds_toArray, List.set_cons_zero, List.set_cons_succ, i64_w, i32_w]
                                      rfl
                                    refine pure_ (i := 35) (N := some 152) (v := ?_) (a' := ?_) #[true, true, true, true, true, true, true, true, true, true, true, true, true, true, true, true, true, true, true, true, true, true, true, true, true, true, true, true, true, true, true, true, true, true, true, true, false, false, false, false] rfl rfl (any_of HT_.out (by kernel_rfl)) (fun _ _ _ h => h) (Or.inl ⟨by rfl, ?_⟩) ?_ ?_
                                    rotate_left
                                    · intro w'
                                      go_simp
                                      with_reducible rfl
                                    rotate_left
                                    · simp only [Act.put, List.setIfInBounds_toArray, List.set_cons_zero, List.set_cons_succ, i64_w, i32_w]
                                      rfl
                                    refine pure_ (i := 36) (N := some 153) (v := ?_) (a' := ?_) #[true, true, true, true, true, true, true, true, true, true, true, true, true, true, true, true, true, true, true, true, true, true, true, true, true, true, true, true, true, true, true, true, true, true, true, true, true, false, false, false] rfl rfl (any_of HT_.out (by kernel_rfl)) (fun _ _ _ h => h) (Or.inl ⟨by rfl, ?_⟩) ?_ ?_
                                    rotate_left
                                    · intro w'
                                      go_simp
                                      with_reducible rfl
                                    rotate_left
                                    · simp only [Act.put, List.setIfInBounds_toArray, List.set_cons_zero, List.set_cons_succ, i64_w, i32_w]
                                      rfl
                                    refine one_ (i := 37) (N := some 154) #[true, true, true, true, true, true, true, true, true, true, true, true, true, true, true, true, true, true, true, true, true, true, true, true, true, true, true, true, true, true, true, true, true, true, true, true, true, true, false, false] rfl rfl (one_of HT_.out (by kernel_rfl)) (by decide) (fun K hK => ?_)
                                    refine goes_ Try.func24 (by kernel_rfl) rfl #[] (by rfl) rfl rfl (by (try simp only [List.map_toArray, List.map_cons, List.map_nil]); first | done | rfl | (simp only [List.length_drop, List.length_take]; rfl)) ?_
                                    with_reducible refine (tattlelaw18_awakeT.calls  t550 _ A84.out).mono ?_
                                    rintro e w96 ⟨rfl, hb⟩
                                    refine ⟨_, rfl, ?_⟩
                                    have n0_ := Aside0.mk (Kd.V_below (by (with_reducible repeat (first | apply Kd.V_alloc | apply Kd.V_drewN | apply Kd.V_drew)); exact HO_520001.out) hb)
                                    have n1_ := Aside0.mk (Kd.V_below (by (with_reducible repeat (first | apply Kd.V_alloc | apply Kd.V_drewN | apply Kd.V_drew)); exact HO_526001.out) hb)
                                    have n2_ := Aside0.mk (Kd.V_below (by (with_reducible repeat (first | apply Kd.V_alloc | apply Kd.V_drewN | apply Kd.V_drew)); exact HO_539001.out) hb)
                                    have n3_ := Aside0.mk (blk_below (g := gb514) (o := .cells #[.int .i64 a0_0, .int .i64 a0_1, .int .i64 a0_2, .int .u64 a0_3, .slice A0_4 l0_4.length c0_4, .int .i64 a0_5, .int .u64 a0_6, .int .i64 a0_7, .int .i64 a0_8] 54 (0, 0)) (by (with_reducible repeat (first | refine blk_drewN ?_ _ | refine blk_drew ?_ | refine blk_alloc ?_ _)); exact BK514.out) hb)
                                    have n4_ := Aside0.mk (blk_below (g := gb519) (o := .cells #[.int .u64 t515, .slice Ao13 t516.length co13] 52 (0, 0)) (by (with_reducible repeat (first | refine blk_drewN ?_ _ | refine blk_drew ?_ | refine blk_alloc ?_ _)); exact BK519.out) hb)
                                    have n5_ := Aside0.mk (blk_below (g := gb525) (o := .cells #[.int .u64 t520, .slice Ao22 t521.length co22] 52 (0, 0)) (by (with_reducible repeat (first | refine blk_drewN ?_ _ | refine blk_drew ?_ | refine blk_alloc ?_ _)); exact BK525.out) hb)
                                    have n6_ := Aside0.mk (blk_below (g := gb538) (o := .cells #[.int .u64 x539000_3, .slice Ao92 x539001_3.length co92] 52 (0, 0)) (by (with_reducible repeat (first | refine blk_drewN ?_ _ | refine blk_drew ?_ | refine blk_alloc ?_ _)); exact BK538.out) hb)
                                    have n7_ := Aside0.mk (below_step (by repeat (first | (with_reducible first | exact HB.out | apply below_alloc | apply pw_below_drewN | apply below_drew1 | refine below_set ?_ GE514.out | refine below_set ?_ GE519.out | refine below_set ?_ GE525.out | refine below_set ?_ GE538.out) | exact HB.out)) hb)
                                    clear HO_520001
                                    clear HO_526001
                                    clear HO_539001
                                    clear BK514
                                    clear BK519
                                    clear BK525
                                    clear BK538
                                    clear HB
                                    have HO_520001 := n0_
                                    have HO_526001 := n1_
                                    have HO_539001 := n2_
                                    have BK514 := n3_
                                    have BK519 := n4_
                                    have BK525 := n5_
                                    have BK538 := n6_
                                    have HB := n7_
                                    clear n0_ n1_ n2_ n3_ n4_ n5_ n6_ n7_
                                    (try clear hb)
                                    (try clear hb2)
                                    (try clear hk)
                                    (try clear hi)
                                    refine hK.out _ _ ⟨(blk_cell BK514.out 0).trans rfl, (blk_cell BK514.out 1).trans rfl, (blk_cell BK514.out 2).trans rfl, (blk_cell BK514.out 3).trans rfl, (blk_cell BK514.out 4).trans rfl, (blk_cell BK514.out 5).trans rfl, (blk_cell BK514.out 6).trans rfl, (blk_cell BK514.out 7).trans rfl, (blk_cell BK514.out 8).trans rfl⟩ (fun hHeld => ?_)
                                    clear hK K
                                    refine norm_ (a' := ?_) ?_ ?_
                                    rotate_left
                                    · show Act.put _ (some 154) _ = _
                                      simp only [Act.put, List.setIfInBounds_toArray, List.set_cons_zero, List.set_cons_succ, i64_w, i32_w]
                                      rfl
                                    refine pure_ (i := 38) (N := some 155) (v := ?_) (a' := ?_) #[true, true, true, true, true, true, true, true, true, true, true, true, true, true, true, true, true, true, true, true, true, true, true, true, true, true, true, true, true, true, true, true, true, true, true, true, true, true, true, false] rfl rfl (any_of HT_.out (by kernel_rfl)) (fun _ _ _ h => h) (Or.inl ⟨by rfl, ?_⟩) ?_ ?_
                                    rotate_left
                                    · intro w'
                                      go_simp
                                      with_reducible rfl
                                    rotate_left
                                    · simp only [Act.put, List.setIfInBounds_toArray, List.set_cons_zero, List.set_cons_succ, i64_w, i32_w]
                                      rfl
                                    refine pure_ (i := 39) (N := some 4) (v := ?_) (a' := ?_) #[true, true, true, true, true, true, true, true, true, true, true, true, true, true, true, true, true, true, true, true, true, true, true, true, true, true, true, true, true, true, true, true, true, true, true, true, true, true, true, true] rfl rfl (any_of HT_.out (by kernel_rfl)) (fun _ _ _ h => h) (Or.inl ⟨by rfl, ?_⟩) ?_ ?_
                                    rotate_left
                                    · intro w'
                                      go_simp
                                      with_reducible rfl
                                    rotate_left
                                    · simp only [Act.put, List.setIfInBounds_toArray, List.set_cons_zero, List.set_cons_succ, i64_w, i32_w]
                                      rfl
                                    refine done_ (done_of HT_.out (by kernel_rfl)) ?_
                                    try go_wp2
                                    go_ret
                                    exact ⟨by first | rfl | (simp [errW_none, errW_some] <;> rfl) | (simp [*, errW_none, errW_some] <;> rfl), by repeat (first | (with_reducible first | exact HB.out | apply below_alloc | apply pw_below_drewN | apply below_drew1 | refine below_set ?_ GE514.out | refine below_set ?_ GE519.out | refine below_set ?_ GE525.out | refine below_set ?_ GE538.out) | exact HB.out)⟩
                                  · rw [if_neg c83] at H
                                    have c83b0 : decide ((wrap64 (2 * (wrap64 (t548 - 1)))) ≤ (t516.length : Int)) = false := decide_eq_false c83
                                    clear c83
                                    exact absurd ((Option.some.inj H).trans hrt.out) (by decide)
                                · rw [if_neg c82] at H
                                  have c82b0 : decide ((t516.length : Int) < (wrap64 (2 * t548))) = false := decide_eq_false c82
                                  clear c82
                                  exact absurd ((Option.some.inj H).trans hrt.out) (by decide)
                              · rw [if_neg c81] at H
                                have c81b0 : (t545 == (wrap64 (a0_7 + t549))) = false := beq_eq_false_iff_ne.mpr c81
                                have c81b1 : (t545 != (wrap64 (a0_7 + t549))) = true := bne_iff_ne.mpr c81
                                exact absurd ((Option.some.inj H).trans hrt.out) (by decide)
                            · replace c79 := Bool.eq_false_iff.mpr c79
                              subst c79
                              have H1 : (if (wrap64 (2 * t548)) > (t516.length : Int) then (if (wrap64 (2 * (wrap64 (t548 - 1)))) ≤ (t516.length : Int) then ((tattlelaw18_awakeT.f).bind fun t551 => (some t551)) else (some false)) else (some false)) = some r := by rw [if_neg (show ¬ (false = true) by decide)] at H; exact H
                              clear H
                              have H := H1
                              clear H1
                              by_cases c97 : (wrap64 (2 * t548)) > (t516.length : Int)
                              · rw [if_pos c97] at H
                                have c97b0 : decide ((t516.length : Int) < (wrap64 (2 * t548))) = true := decide_eq_true c97
                                clear c97
                                by_cases c98 : (wrap64 (2 * (wrap64 (t548 - 1)))) ≤ (t516.length : Int)
                                · rw [if_pos c98] at H
                                  have c98b0 : decide ((wrap64 (2 * (wrap64 (t548 - 1)))) ≤ (t516.length : Int)) = true := decide_eq_true c98
                                  clear c98
                                  replace H := Option.bind_eq_some_iff.mp H
                                  obtain ⟨t551, A990, H⟩ := H
                                  replace H : (some t551) = some r := H
                                  have A99 := Aside0.mk A990
                                  clear A990
                                  obtain rfl := Option.some.inj H
                                  have hnb100 := NB514_519.out
                                  have hnc100 := NB519_514.out
                                  have hnb101 := NB514_525.out
                                  have hnc101 := NB525_514.out
                                  have hnb102 := NB514_538.out
                                  have hnc102 := NB538_514.out
                                  have hcz103_0 : wr.cell? ⟨gb514, 0, none⟩ = some (.int .i64 a0_0) := (blk_cell BK514.out 0).trans rfl
                                  have hcz103_1 : wr.cell? ⟨gb514, 1, none⟩ = some (.int .i64 a0_1) := (blk_cell BK514.out 1).trans rfl
                                  have hcz103_2 : wr.cell? ⟨gb514, 2, none⟩ = some (.int .i64 a0_2) := (blk_cell BK514.out 2).trans rfl
                                  have hcz103_3 : wr.cell? ⟨gb514, 3, none⟩ = some (.int .u64 a0_3) := (blk_cell BK514.out 3).trans rfl
                                  have hcz103_4 : wr.cell? ⟨gb514, 4, none⟩ = some (.slice A0_4 l0_4.length c0_4) := (blk_cell BK514.out 4).trans rfl
                                  have hcz103_5 : wr.cell? ⟨gb514, 5, none⟩ = some (.int .i64 a0_5) := (blk_cell BK514.out 5).trans rfl
                                  have hcz103_6 : wr.cell? ⟨gb514, 6, none⟩ = some (.int .u64 a0_6) := (blk_cell BK514.out 6).trans rfl
                                  have hcz103_7 : wr.cell? ⟨gb514, 7, none⟩ = some (.int .i64 a0_7) := (blk_cell BK514.out 7).trans rfl
                                  have hcz103_8 : wr.cell? ⟨gb514, 8, none⟩ = some (.int .i64 a0_8) := (blk_cell BK514.out 8).trans rfl
                                  have hfz103_0 := blk_frozen BK514.out 0
                                  have hfz103_1 := blk_frozen BK514.out 1
                                  have hfz103_2 := blk_frozen BK514.out 2
                                  have hfz103_3 := blk_frozen BK514.out 3
                                  have hfz103_4 := blk_frozen BK514.out 4
                                  have hfz103_5 := blk_frozen BK514.out 5
                                  have hfz103_6 := blk_frozen BK514.out 6
                                  have hfz103_7 := blk_frozen BK514.out 7
                                  have hfz103_8 := blk_frozen BK514.out 8
                                  have hnb104 := NB538_519.out
                                  have hnc104 := NB519_538.out
                                  have hnb105 := NB538_525.out
                                  have hnc105 := NB525_538.out
                                  have hcz106_0 : wr.cell? ⟨gb538, 0, none⟩ = some (.int .u64 x539000_3) := (blk_cell BK538.out 0).trans rfl
                                  have hcz106_1 : wr.cell? ⟨gb538, 1, none⟩ = some (u539001) := (blk_cell BK538.out 1).trans rfl
                                  have hfz106_0 := blk_frozen BK538.out 0
                                  have hfz106_1 := blk_frozen BK538.out 1
                                  obtain ⟨Ao107, co107, eo107⟩ := Kd.V_slice HO_539001.out
                                  subst eo107
                                  try go_wp2_with (first | ((with_reducible refine gate_callee (f := 23) rfl ?_); refine goesL_ (some 111) rfl rfl Try.func23 (by kernel_rfl) rfl #[.agg #[.int .i64 a0_0, .int .i64 a0_1, .int .i64 a0_2], .agg #[.int .u64 x539000_3, .slice Ao107 x539001_3.length co107]] rfl (by (try simp only [List.map_toArray, List.map_cons, List.map_nil]); first | done | rfl | (simp only [List.length_drop, List.length_take]; rfl)) ?_; (with_reducible refine (lead_Until.calls a0_0 a0_1 a0_2 x539000_3 _ _ x539001_3 t545 false t547 _ ?side1 ?side2 A75.out).mono ?_); (case side1 => repeat (first | exact (Kd.V_reads' HO_539001.out).2.2 | (with_reducible refine Kd.C_alloc ?_ _) | (with_reducible refine Kd.C_drewN ?_ _) | (with_reducible refine Kd.C_drew ?_))); (case side2 => exact (Kd.V_reads' HO_539001.out).2.1); rintro e w108 ⟨rfl, hb⟩; refine ⟨_, rfl, ?_⟩; have n0_ := Aside0.mk (Kd.V_below (by (with_reducible repeat (first | apply Kd.V_alloc | apply Kd.V_drewN | apply Kd.V_drew)); exact HO_520001.out) hb); have n1_ := Aside0.mk (Kd.V_below (by (with_reducible repeat (first | apply Kd.V_alloc | apply Kd.V_drewN | apply Kd.V_drew)); exact HO_526001.out) hb); have n2_ := Aside0.mk (Kd.V_below (by (with_reducible repeat (first | apply Kd.V_alloc | apply Kd.V_drewN | apply Kd.V_drew)); exact HO_539001.out) hb); have n3_ := Aside0.mk (blk_below (g := gb514) (o := .cells #[.int .i64 a0_0, .int .i64 a0_1, .int .i64 a0_2, .int .u64 a0_3, .slice A0_4 l0_4.length c0_4, .int .i64 a0_5, .int .u64 a0_6, .int .i64 a0_7, .int .i64 a0_8] 54 (0, 0)) (by (with_reducible repeat (first | refine blk_drewN ?_ _ | refine blk_drew ?_ | refine blk_alloc ?_ _)); exact BK514.out) hb); have n4_ := Aside0.mk (blk_below (g := gb519) (o := .cells #[.int .u64 t515, .slice Ao13 t516.length co13] 52 (0, 0)) (by (with_reducible repeat (first | refine blk_drewN ?_ _ | refine blk_drew ?_ | refine blk_alloc ?_ _)); exact BK519.out) hb); have n5_ := Aside0.mk (blk_below (g := gb525) (o := .cells #[.int .u64 t520, .slice Ao22 t521.length co22] 52 (0, 0)) (by (with_reducible repeat (first | refine blk_drewN ?_ _ | refine blk_drew ?_ | refine blk_alloc ?_ _)); exact BK525.out) hb); have n6_ := Aside0.mk (blk_below (g := gb538) (o := .cells #[.int .u64 x539000_3, .slice Ao107 x539001_3.length co107] 52 (0, 0)) (by (with_reducible repeat (first | refine blk_drewN ?_ _ | refine blk_drew ?_ | refine blk_alloc ?_ _)); exact BK538.out) hb); have n7_ := Aside0.mk (below_step (by repeat (first | (with_reducible first | exact HB.out | apply below_alloc | apply pw_below_drewN | apply below_drew1 | refine below_set ?_ GE514.out | refine below_set ?_ GE519.out | refine below_set ?_ GE525.out | refine below_set ?_ GE538.out) | exact HB.out)) hb); clear HO_520001; clear HO_526001; clear HO_539001; clear BK514; clear BK519; clear BK525; clear BK538; clear HB; have HO_520001 := n0_; have HO_526001 := n1_; have HO_539001 := n2_; have BK514 := n3_; have BK519 := n4_; have BK525 := n5_; have BK538 := n6_; have HB := n7_; clear n0_ n1_ n2_ n3_ n4_ n5_ n6_ n7_; (try clear hb); (try clear hb2); (try clear hk); (try clear hi)) | ((with_reducible refine gate_callee (f := 26) rfl ?_); refine goesL_ (some 116) rfl rfl Try.func26 (by kernel_rfl) rfl #[.int .i64 (t516.length : Int)] rfl (by (try simp only [List.map_toArray, List.map_cons, List.map_nil]); first | done | rfl | (simp only [List.length_drop, List.length_take]; rfl)) ?_; (with_reducible refine (lead_Majority.calls (t516.length : Int) t548 _ A76.out).mono ?_); rintro e w' ⟨rfl, ⟨nd, rfl⟩⟩; refine ⟨_, rfl, ?_⟩))
                                  (try (rw [drewN_self w108]; generalize hq_ : World.drewN w108 _ = w108; have n0_ : Aside0 (Kd.V (Kd.int .i64) 2 w108 w.heap.size (fun k_ => k_ ≠ gb514 ∧ k_ ≠ gb519 ∧ k_ ≠ gb525 ∧ k_ ≠ gb538) (.slice Ao13 t516.length co13) t516) := ⟨by rw [← hq_]; exact (by (with_reducible repeat (first | apply Kd.V_alloc | apply Kd.V_drewN | apply Kd.V_drew)); exact HO_520001.out)⟩; have n1_ : Aside0 (Kd.V (Kd.int .i64) 2 w108 w.heap.size (fun k_ => k_ ≠ gb514 ∧ k_ ≠ gb519 ∧ k_ ≠ gb525 ∧ k_ ≠ gb538) (.slice Ao22 t521.length co22) t521) := ⟨by rw [← hq_]; exact (by (with_reducible repeat (first | apply Kd.V_alloc | apply Kd.V_drewN | apply Kd.V_drew)); exact HO_526001.out)⟩; have n2_ : Aside0 (Kd.V (Kd.int .i64) 2 w108 w.heap.size (fun k_ => k_ ≠ gb514 ∧ k_ ≠ gb519 ∧ k_ ≠ gb525 ∧ k_ ≠ gb538) (.slice Ao107 x539001_3.length co107) x539001_3) := ⟨by rw [← hq_]; exact (by (with_reducible repeat (first | apply Kd.V_alloc | apply Kd.V_drewN | apply Kd.V_drew)); exact HO_539001.out)⟩; have n3_ : Aside0 (w108.heap[gb514]? = some (.cells #[.int .i64 a0_0, .int .i64 a0_1, .int .i64 a0_2, .int .u64 a0_3, .slice A0_4 l0_4.length c0_4, .int .i64 a0_5, .int .u64 a0_6, .int .i64 a0_7, .int .i64 a0_8] 54 (0, 0))) := ⟨by rw [← hq_]; exact (by (with_reducible repeat (first | refine blk_drewN ?_ _ | refine blk_drew ?_ | refine blk_alloc ?_ _)); exact BK514.out)⟩; have n4_ : Aside0 (w108.heap[gb519]? = some (.cells #[.int .u64 t515, .slice Ao13 t516.length co13] 52 (0, 0))) := ⟨by rw [← hq_]; exact (by (with_reducible repeat (first | refine blk_drewN ?_ _ | refine blk_drew ?_ | refine blk_alloc ?_ _)); exact BK519.out)⟩; have n5_ : Aside0 (w108.heap[gb525]? = some (.cells #[.int .u64 t520, .slice Ao22 t521.length co22] 52 (0, 0))) := ⟨by rw [← hq_]; exact (by (with_reducible repeat (first | refine blk_drewN ?_ _ | refine blk_drew ?_ | refine blk_alloc ?_ _)); exact BK525.out)⟩; have n6_ : Aside0 (w108.heap[gb538]? = some (.cells #[.int .u64 x539000_3, .slice Ao107 x539001_3.length co107] 52 (0, 0))) := ⟨by rw [← hq_]; exact (by (with_reducible repeat (first | refine blk_drewN ?_ _ | refine blk_drew ?_ | refine blk_alloc ?_ _)); exact BK538.out)⟩; have n7_ : Aside0 (Below w.heap.size w w108) := ⟨by rw [← hq_]; exact (by repeat (first | (with_reducible first | exact HB.out | apply below_alloc | apply pw_below_drewN | apply below_drew1 | refine below_set ?_ GE514.out | refine below_set ?_ GE519.out | refine below_set ?_ GE525.out | refine below_set ?_ GE538.out) | exact HB.out))⟩; clear HO_520001 HO_526001 HO_539001 BK514 BK519 BK525 BK538 HB hq_; have HO_520001 := n0_; have HO_526001 := n1_; have HO_539001 := n2_; have BK514 := n3_; have BK519 := n4_; have BK525 := n5_; have BK538 := n6_; have HB := n7_; clear n0_ n1_ n2_ n3_ n4_ n5_ n6_ n7_))
                                  have n0_ := Aside0.mk (Kd.V_drew HO_520001.out)
                                  have n1_ := Aside0.mk (Kd.V_drew HO_526001.out)
                                  have n2_ := Aside0.mk (Kd.V_drew HO_539001.out)
                                  have n3_ := Aside0.mk (blk_drew BK514.out)
                                  have n4_ := Aside0.mk (blk_drew BK519.out)
                                  have n5_ := Aside0.mk (blk_drew BK525.out)
                                  have n6_ := Aside0.mk (blk_drew BK538.out)
                                  have n7_ := Aside0.mk (below_drew1 HB.out)
                                  clear HO_520001
                                  clear HO_526001
                                  clear HO_539001
                                  clear BK514
                                  clear BK519
                                  clear BK525
                                  clear BK538
                                  clear HB
                                  have HO_520001 := n0_
                                  have HO_526001 := n1_
                                  have HO_539001 := n2_
                                  have BK514 := n3_
                                  have BK519 := n4_
                                  have BK525 := n5_
                                  have BK538 := n6_
                                  have HB := n7_
                                  clear n0_ n1_ n2_ n3_ n4_ n5_ n6_ n7_
                                  refine start_ (n := 40) (S := fun w' => True) (ds := []) #[false, false, false, false, false, false, false, false, false, false, false, false, false, false, false, false, false, false, false, false, false, false, false, false, false, false, false, false, false, false, false, false, false, false, false, false, false, false, false, false] (by kernel_rfl) rfl rfl trivial (fun hHeld => ?_); refine with_tabW tattlelaw18_LeadMore.tab23 tattlelaw18_LeadMore.bits23 (fun HT_ HW_ => ?_)
                                  generalize w108.drew = w109 at HO_520001 HO_526001 HO_539001 BK514 BK519 BK525 BK538 HB hHeld ⊢
                                  refine pure_ (i := 0) (N := some 117) (v := ?_) (a' := ?_) #[true, false, false, false, false, false, false, false, false, false, false, false, false, false, false, false, false, false, false, false, false, false, false, false, false, false, false, false, false, false, false, false, false, false, false, false, false, false, false, false] rfl rfl (any_of HT_.out (by kernel_rfl)) (fun _ _ _ h => h) (Or.inl ⟨by rfl, ?_⟩) ?_ ?_
                                  rotate_left
                                  · intro w'
                                    go_simp
                                    with_reducible rfl
                                  rotate_left
                                  · simp only [Act.put, List.setIfInBounds_toArray, List.set_cons_zero, List.set_cons_succ, i64_w, i32_w]
                                    rfl
                                  refine pure_ (i := 1) (N := some 118) (v := ?_) (a' := ?_) #[true, true, false, false, false, false, false, false, false, false, false, false, false, false, false, false, false, false, false, false, false, false, false, false, false, false, false, false, false, false, false, false, false, false, false, false, false, false, false, false] rfl rfl (any_of HT_.out (by kernel_rfl)) (fun _ _ _ h => h) (Or.inl ⟨by rfl, ?_⟩) ?_ ?_
                                  rotate_left
                                  · intro w'
                                    go_simp
                                    with_reducible rfl
                                  rotate_left
                                  · simp only [Act.put, List.setIfInBounds_toArray, List.set_cons_zero, List.set_cons_succ, i64_w, i32_w]
                                    rfl
                                  refine pure_ (i := 2) (N := some 119) (v := ?_) (a' := ?_) #[true, true, true, false, false, false, false, false, false, false, false, false, false, false, false, false, false, false, false, false, false, false, false, false, false, false, false, false, false, false, false, false, false, false, false, false, false, false, false, false] rfl rfl (any_of HT_.out (by kernel_rfl)) (fun _ _ _ h => h) (Or.inl ⟨by rfl, ?_⟩) ?_ ?_
                                  rotate_left
                                  · intro w'
                                    go_simp
                                    with_reducible rfl
                                  rotate_left
                                  · simp only [Act.put, List.setIfInBounds_toArray, List.set_cons_zero, List.set_cons_succ, i64_w, i32_w]
                                    rfl
                                  refine pure_ (i := 3) (N := some 120) (v := ?_) (a' := ?_) #[true, true, true, true, false, false, false, false, false, false, false, false, false, false, false, false, false, false, false, false, false, false, false, false, false, false, false, false, false, false, false, false, false, false, false, false, false, false, false, false] rfl rfl (any_of HT_.out (by kernel_rfl)) (fun _ _ _ h => h) (Or.inl ⟨by rfl, ?_⟩) ?_ ?_
                                  rotate_left
                                  · intro w'
                                    go_simp
                                    with_reducible rfl
                                  rotate_left
                                  · simp only [Act.put, List.setIfInBounds_toArray, List.set_cons_zero, List.set_cons_succ, i64_w, i32_w]
                                    rfl
                                  refine pure_ (i := 4) (N := some 121) (v := ?_) (a' := ?_) #[true, true, true, true, true, false, false, false, false, false, false, false, false, false, false, false, false, false, false, false, false, false, false, false, false, false, false, false, false, false, false, false, false, false, false, false, false, false, false, false] rfl rfl (any_of HT_.out (by kernel_rfl)) (fun _ _ _ h => h) (Or.inl ⟨by rfl, ?_⟩) ?_ ?_
                                  rotate_left
                                  · intro w'
                                    go_simp
                                    with_reducible rfl
                                  rotate_left
                                  · simp only [Act.put, List.setIfInBounds_toArray, List.set_cons_zero, List.set_cons_succ, i64_w, i32_w]
                                    rfl
                                  refine pure_ (i := 5) (N := some 122) (v := ?_) (a' := ?_) #[true, true, true, true, true, true, false, false, false, false, false, false, false, false, false, false, false, false, false, false, false, false, false, false, false, false, false, false, false, false, false, false, false, false, false, false, false, false, false, false] rfl rfl (any_of HT_.out (by kernel_rfl)) (fun _ _ _ h => h) (Or.inl ⟨by rfl, ?_⟩) ?_ ?_
                                  rotate_left
                                  · intro w'
                                    go_simp
                                    with_reducible rfl
                                  rotate_left
                                  · simp only [Act.put, List.setIfInBounds_toArray, List.set_cons_zero, List.set_cons_succ, i64_w, i32_w]
                                    rfl
                                  refine pure_ (i := 6) (N := some 123) (v := ?_) (a' := ?_) #[true, true, true, true, true, true, true, false, false, false, false, false, false, false, false, false, false, false, false, false, false, false, false, false, false, false, false, false, false, false, false, false, false, false, false, false, false, false, false, false] rfl rfl (any_of HT_.out (by kernel_rfl)) (fun _ _ _ h => h) (Or.inl ⟨by rfl, ?_⟩) ?_ ?_
                                  rotate_left
                                  · intro w'
                                    go_simp
                                    with_reducible rfl
                                  rotate_left
                                  · simp only [Act.put, List.setIfInBounds_toArray, List.set_cons_zero, List.set_cons_succ, i64_w, i32_w]
                                    rfl
                                  refine pure_ (i := 7) (N := some 124) (v := ?_) (a' := ?_) #[true, true, true, true, true, true, true, true, false, false, false, false, false, false, false, false, false, false, false, false, false, false, false, false, false, false, false, false, false, false, false, false, false, false, false, false, false, false, false, false] rfl rfl (any_of HT_.out (by kernel_rfl)) (fun _ _ _ h => h) (Or.inl ⟨by rfl, ?_⟩) ?_ ?_
                                  rotate_left
                                  · intro w'
                                    go_simp
                                    with_reducible rfl
                                  rotate_left
                                  · simp only [Act.put, List.setIfInBounds_toArray, List.set_cons_zero, List.set_cons_succ, i64_w, i32_w]
                                    rfl
                                  refine pure_ (i := 8) (N := some 125) (v := ?_) (a' := ?_) #[true, true, true, true, true, true, true, true, true, false, false, false, false, false, false, false, false, false, false, false, false, false, false, false, false, false, false, false, false, false, false, false, false, false, false, false, false, false, false, false] rfl rfl (any_of HT_.out (by kernel_rfl)) (fun _ _ _ h => h) (Or.inl ⟨by rfl, ?_⟩) ?_ ?_
                                  rotate_left
                                  · intro w'
                                    go_simp
                                    with_reducible rfl
                                  rotate_left
                                  · simp only [Act.put, List.setIfInBounds_toArray, List.set_cons_zero, List.set_cons_succ, i64_w, i32_w]
                                    rfl
                                  refine pure_ (i := 9) (N := some 126) (v := ?_) (a' := ?_) #[true, true, true, true, true, true, true, true, true, true, false, false, false, false, false, false, false, false, false, false, false, false, false, false, false, false, false, false, false, false, false, false, false, false, false, false, false, false, false, false] rfl rfl (any_of HT_.out (by kernel_rfl)) (fun _ _ _ h => h) (Or.inl ⟨by rfl, ?_⟩) ?_ ?_
                                  rotate_left
                                  · intro w'
                                    go_simp
                                    with_reducible rfl
                                  rotate_left
                                  · simp only [Act.put, List.setIfInBounds_toArray, List.set_cons_zero, List.set_cons_succ, i64_w, i32_w]
                                    rfl
                                  refine pure_ (i := 10) (N := some 127) (v := ?_) (a' := ?_) #[true, true, true, true, true, true, true, true, true, true, true, false, false, false, false, false, false, false, false, false, false, false, false, false, false, false, false, false, false, false, false, false, false, false, false, false, false, false, false, false] rfl rfl (any_of HT_.out (by kernel_rfl)) (fun _ _ _ h => h) (Or.inl ⟨by rfl, ?_⟩) ?_ ?_
                                  rotate_left
                                  · intro w'
                                    go_simp
                                    with_reducible rfl
                                  rotate_left
                                  · simp only [Act.put, List.setIfInBounds_toArray, List.set_cons_zero, List.set_cons_succ, i64_w, i32_w]
                                    rfl
                                  refine pure_ (i := 11) (N := some 128) (v := ?_) (a' := ?_) #[true, true, true, true, true, true, true, true, true, true, true, true, false, false, false, false, false, false, false, false, false, false, false, false, false, false, false, false, false, false, false, false, false, false, false, false, false, false, false, false] rfl rfl (any_of HT_.out (by kernel_rfl)) (fun _ _ _ h => h) (Or.inl ⟨by rfl, ?_⟩) ?_ ?_
                                  rotate_left
                                  · intro w'
                                    go_simp
                                    with_reducible rfl
                                  rotate_left
                                  · simp only [Act.put, List.setIfInBounds_toArray, List.set_cons_zero, List.set_cons_succ, i64_w, i32_w]
                                    rfl
                                  refine pure_ (i := 12) (N := some 129) (v := ?_) (a' := ?_) #[true, true, true, true, true, true, true, true, true, true, true, true, true, false, false, false, false, false, false, false, false, false, false, false, false, false, false, false, false, false, false, false, false, false, false, false, false, false, false, false] rfl rfl (any_of HT_.out (by kernel_rfl)) (fun _ _ _ h => h) (Or.inl ⟨by rfl, ?_⟩) ?_ ?_
                                  rotate_left
                                  · intro w'
                                    go_simp
                                    with_reducible rfl
                                  rotate_left
                                  · simp only [Act.put, List.setIfInBounds_toArray, List.set_cons_zero, List.set_cons_succ, i64_w, i32_w]
                                    rfl
                                  refine pure_ (i := 13) (N := some 130) (v := undef) (a' := ?_) #[true, true, true, true, true, true, true, true, true, true, true, true, true, true, false, false, false, false, false, false, false, false, false, false, false, false, false, false, false, false, false, false, false, false, false, false, false, false, false, false] rfl rfl (any_of HT_.out (by kernel_rfl)) (fun _ _ _ h => h) (Or.inr ⟨by rfl, rfl⟩) ?_ ?_
                                  rotate_left
                                  · simp only [Act.put, List.setIfInBounds_toArray, List.set_cons_zero, List.set_cons_succ, i64_w, i32_w]
                                    rfl
                                  refine pure_ (i := 14) (N := some 131) (v := undef) (a' := ?_) #[true, true, true, true, true, true, true, true, true, true, true, true, true, true, true, false, false, false, false, false, false, false, false, false, false, false, false, false, false, false, false, false, false, false, false, false, false, false, false, false] rfl rfl (any_of HT_.out (by kernel_rfl)) (fun _ _ _ h => h) (Or.inr ⟨by rfl, rfl⟩) ?_ ?_
                                  rotate_left
                                  · simp only [Act.put, List.setIfInBounds_toArray, List.set_cons_zero, List.set_cons_succ, i64_w, i32_w]
                                    rfl
                                  refine pure_ (i := 15) (N := some 132) (v := undef) (a' := ?_) #[true, true, true, true, true, true, true, true, true, true, true, true, true, true, true, true, false, false, false, false, false, false, false, false, false, false, false, false, false, false, false, false, false, false, false, false, false, false, false, false] rfl rfl (any_of HT_.out (by kernel_rfl)) (fun _ _ _ h => h) (Or.inr ⟨by rfl, rfl⟩) ?_ ?_
                                  rotate_left
                                  · simp only [Act.put, List.setIfInBounds_toArray, List.set_cons_zero, List.set_cons_succ, i64_w, i32_w]
                                    rfl
                                  refine pure_ (i := 16) (N := some 133) (v := undef) (a' := ?_) #[true, true, true, true, true, true, true, true, true, true, true, true, true, true, true, true, true, false, false, false, false, false, false, false, false, false, false, false, false, false, false, false, false, false, false, false, false, false, false, false] rfl rfl (any_of HT_.out (by kernel_rfl)) (fun _ _ _ h => h) (Or.inr ⟨by rfl, rfl⟩) ?_ ?_
                                  rotate_left
                                  · simp only [Act.put, List.setIfInBounds_toArray, List.set_cons_zero, List.set_cons_succ, i64_w, i32_w]
                                    rfl
                                  refine pure_ (i := 17) (N := some 134) (v := undef) (a' := ?_) #[true, true, true, true, true, true, true, true, true, true, true, true, true, true, true, true, true, true, false, false, false, false, false, false, false, false, false, false, false, false, false, false, false, false, false, false, false, false, false, false] rfl rfl (any_of HT_.out (by kernel_rfl)) (fun _ _ _ h => h) (Or.inr ⟨by rfl, rfl⟩) ?_ ?_
                                  rotate_left
                                  · simp only [Act.put, List.setIfInBounds_toArray, List.set_cons_zero, List.set_cons_succ, i64_w, i32_w]
                                    rfl
                                  refine pure_ (i := 18) (N := some 135) (v := undef) (a' := ?_) #[true, true, true, true, true, true, true, true, true, true, true, true, true, true, true, true, true, true, true, false, false, false, false, false, false, false, false, false, false, false, false, false, false, false, false, false, false, false, false, false] rfl rfl (any_of HT_.out (by kernel_rfl)) (fun _ _ _ h => h) (Or.inr ⟨by rfl, rfl⟩) ?_ ?_
                                  rotate_left
                                  · simp only [Act.put, List.setIfInBounds_toArray, List.set_cons_zero, List.set_cons_succ, i64_w, i32_w]
                                    rfl
                                  refine pure_ (i := 19) (N := some 136) (v := undef) (a' := ?_) #[true, true, true, true, true, true, true, true, true, true, true, true, true, true, true, true, true, true, true, true, false, false, false, false, false, false, false, false, false, false, false, false, false, false, false, false, false, false, false, false] rfl rfl (any_of HT_.out (by kernel_rfl)) (fun _ _ _ h => h) (Or.inr ⟨by rfl, rfl⟩) ?_ ?_
                                  rotate_left
                                  · simp only [Act.put, List.setIfInBounds_toArray, List.set_cons_zero, List.set_cons_succ, i64_w, i32_w]
                                    rfl
                                  refine pure_ (i := 20) (N := some 137) (v := undef) (a' := ?_) #[true, true, true, true, true, true, true, true, true, true, true, true, true, true, true, true, true, true, true, true, true, false, false, false, false, false, false, false, false, false, false, false, false, false, false, false, false, false, false, false] rfl rfl (any_of HT_.out (by kernel_rfl)) (fun _ _ _ h => h) (Or.inr ⟨by rfl, rfl⟩) ?_ ?_
                                  rotate_left
                                  · simp only [Act.put, List.setIfInBounds_toArray, List.set_cons_zero, List.set_cons_succ, i64_w, i32_w]
                                    rfl
                                  refine pure_ (i := 21) (N := some 138) (v := ?_) (a' := ?_) #[true, true, true, true, true, true, true, true, true, true, true, true, true, true, true, true, true, true, true, true, true, true, false, false, false, false, false, false, false, false, false, false, false, false, false, false, false, false, false, false] rfl rfl (any_of HT_.out (by kernel_rfl)) (fun _ _ _ h => h) (Or.inl ⟨by rfl, ?_⟩) ?_ ?_
                                  rotate_left
                                  · intro w'
                                    go_simp
                                    with_reducible rfl
                                  rotate_left
                                  · simp only [Act.put, List.setIfInBounds_toArray, List.set_cons_zero, List.set_cons_succ, i64_w, i32_w]
                                    rfl
                                  refine pure_ (i := 22) (N := some 139) (v := ?_) (a' := ?_) #[true, true, true, true, true, true, true, true, true, true, true, true, true, true, true, true, true, true, true, true, true, true, true, false, false, false, false, false, false, false, false, false, false, false, false, false, false, false, false, false] rfl rfl (any_of HT_.out (by kernel_rfl)) (fun _ _ _ h => h) (Or.inl ⟨by rfl, ?_⟩) ?_ ?_
                                  rotate_left
                                  · intro w'
                                    go_simp
                                    with_reducible rfl
                                  rotate_left
                                  · simp only [Act.put, List.setIfInBounds_toArray, List.set_cons_zero, List.set_cons_succ, i64_w, i32_w]
                                    rfl
                                  refine pure_ (i := 23) (N := some 140) (v := ?_) (a' := ?_) #[true, true, true, true, true, true, true, true, true, true, true, true, true, true, true, true, true, true, true, true, true, true, true, true, false, false, false, false, false, false, false, false, false, false, false, false, false, false, false, false] rfl rfl (any_of HT_.out (by kernel_rfl)) (fun _ _ _ h => h) (Or.inl ⟨by rfl, ?_⟩) ?_ ?_
                                  rotate_left
                                  · intro w'
                                    go_simp
                                    with_reducible rfl
                                  rotate_left
                                  · simp only [Act.put, List.setIfInBounds_toArray, List.set_cons_zero, List.set_cons_succ, i64_w, i32_w]
                                    rfl
                                  refine pure_ (i := 24) (N := some 141) (v := ?_) (a' := ?_) #[true, true, true, true, true, true, true, true, true, true, true, true, true, true, true, true, true, true, true, true, true, true, true, true, true, false, false, false, false, false, false, false, false, false, false, false, false, false, false, false] rfl rfl (any_of HT_.out (by kernel_rfl)) (fun _ _ _ h => h) (Or.inl ⟨by rfl, ?_⟩) ?_ ?_
                                  rotate_left
                                  · intro w'
                                    go_simp
                                    with_reducible rfl
                                  rotate_left
                                  · simp only [Act.put, List.setIfInBounds_toArray, List.set_cons_zero, List.set_cons_succ, i64_w, i32_w]
                                    rfl
                                  refine pure_ (i := 25) (N := some 142) (v := ?_) (a' := ?_) #[true, true, true, true, true, true, true, true, true, true, true, true, true, true, true, true, true, true, true, true, true, true, true, true, true, true, false, false, false, false, false, false, false, false, false, false, false, false, false, false] rfl rfl (any_of HT_.out (by kernel_rfl)) (fun _ _ _ h => h) (Or.inl ⟨by rfl, ?_⟩) ?_ ?_
                                  rotate_left
                                  · intro w'
                                    go_simp
                                    with_reducible rfl
                                  rotate_left
                                  · simp only [Act.put, List.setIfInBounds_toArray, List.set_cons_zero, List.set_cons_succ, i64_w, i32_w]
                                    rfl
                                  refine pure_ (i := 26) (N := some 143) (v := ?_) (a' := ?_) #[true, true, true, true, true, true, true, true, true, true, true, true, true, true, true, true, true, true, true, true, true, true, true, true, true, true, true, false, false, false, false, false, false, false, false, false, false, false, false, false] rfl rfl (any_of HT_.out (by kernel_rfl)) (fun _ _ _ h => h) (Or.inl ⟨by rfl, ?_⟩) ?_ ?_
                                  rotate_left
                                  · intro w'
                                    go_simp
                                    with_reducible rfl
                                  rotate_left
                                  · simp only [Act.put, List.setIfInBounds_toArray, List.set_cons_zero, List.set_cons_succ, i64_w, i32_w]
                                    rfl
                                  refine pure_ (i := 27) (N := some 144) (v := ?_) (a' := ?_) #[true, true, true, true, true, true, true, true, true, true, true, true, true, true, true, true, true, true, true, true, true, true, true, true, true, true, true, true, false, false, false, false, false, false, false, false, false, false, false, false] rfl rfl (any_of HT_.out (by kernel_rfl)) (fun _ _ _ h => h) (Or.inl ⟨by rfl, ?_⟩) ?_ ?_
                                  rotate_left
                                  · intro w'
                                    go_simp
                                    with_reducible rfl
                                  rotate_left
                                  · simp only [Act.put, List.setIfInBounds_toArray, List.set_cons_zero, List.set_cons_succ, i64_w, i32_w]
                                    rfl
                                  refine pure_ (i := 28) (N := some 145) (v := ?_) (a' := ?_) #[true, true, true, true, true, true, true, true, true, true, true, true, true, true, true, true, true, true, true, true, true, true, true, true, true, true, true, true, true, false, false, false, false, false, false, false, false, false, false, false] rfl rfl (any_of HT_.out (by kernel_rfl)) (fun _ _ _ h => h) (Or.inl ⟨by rfl, ?_⟩) ?_ ?_
                                  rotate_left
                                  · intro w'
                                    go_simp
                                    with_reducible rfl
                                  rotate_left
                                  · simp only [Act.put, List.setIfInBounds_toArray, List.set_cons_zero, List.set_cons_succ, i64_w, i32_w]
                                    rfl
                                  refine pure_ (i := 29) (N := some 146) (v := ?_) (a' := ?_) #[true, true, true, true, true, true, true, true, true, true, true, true, true, true, true, true, true, true, true, true, true, true, true, true, true, true, true, true, true, true, false, false, false, false, false, false, false, false, false, false] rfl rfl (any_of HT_.out (by kernel_rfl)) (fun _ _ _ h => h) (Or.inl ⟨by rfl, ?_⟩) ?_ ?_
                                  rotate_left
                                  · intro w'
                                    go_simp
                                    with_reducible rfl
                                  rotate_left
                                  · simp only [Act.put, List.setIfInBounds_toArray, List.set_cons_zero, List.set_cons_succ, i64_w, i32_w]
                                    rfl
                                  refine pure_ (i := 30) (N := some 147) (v := ?_) (a' := ?_) #[true, true, true, true, true, true, true, true, true, true, true, true, true, true, true, true, true, true, true, true, true, true, true, true, true, true, true, true, true, true, true, false, false, false, false, false, false, false, false, false] rfl rfl (any_of HT_.out (by kernel_rfl)) (fun _ _ _ h => h) (Or.inl ⟨by rfl, ?_⟩) ?_ ?_
                                  rotate_left
                                  · intro w'
                                    go_simp
                                    with_reducible rfl
                                  rotate_left
                                  · simp only [Act.put, List.setIfInBounds_toArray, List.set_cons_zero, List.set_cons_succ, i64_w, i32_w]
                                    rfl
                                  refine pure_ (i := 31) (N := some 148) (v := ?_) (a' := ?_) #[true, true, true, true, true, true, true, true, true, true, true, true, true, true, true, true, true, true, true, true, true, true, true, true, true, true, true, true, true, true, true, true, false, false, false, false, false, false, false, false] rfl rfl (any_of HT_.out (by kernel_rfl)) (fun _ _ _ h => h) (Or.inl ⟨by rfl, ?_⟩) ?_ ?_
                                  rotate_left
                                  · intro w'
                                    go_simp
                                    with_reducible rfl
                                  rotate_left
                                  · simp only [Act.put, List.setIfInBounds_toArray, List.set_cons_zero, List.set_cons_succ, i64_w, i32_w]
                                    rfl
                                  refine pure_ (i := 32) (N := some 149) (v := ?_) (a' := ?_) #[true, true, true, true, true, true, true, true, true, true, true, true, true, true, true, true, true, true, true, true, true, true, true, true, true, true, true, true, true, true, true, true, true, false, false, false, false, false, false, false] rfl rfl (any_of HT_.out (by kernel_rfl)) (fun _ _ _ h => h) (Or.inl ⟨by rfl, ?_⟩) ?_ ?_
                                  rotate_left
                                  · intro w'
                                    go_simp
                                    with_reducible rfl
                                  rotate_left
                                  · simp only [Act.put, List.setIfInBounds_toArray, List.set_cons_zero, List.set_cons_succ, i64_w, i32_w]
                                    rfl
                                  refine pure_ (i := 33) (N := some 150) (v := ?_) (a' := ?_) #[true, true, true, true, true, true, true, true, true, true, true, true, true, true, true, true, true, true, true, true, true, true, true, true, true, true, true, true, true, true, true, true, true, true, false, false, false, false, false, false] rfl rfl (any_of HT_.out (by kernel_rfl)) (fun _ _ _ h => h) (Or.inl ⟨by rfl, ?_⟩) ?_ ?_
                                  rotate_left
                                  · intro w'
                                    go_simp
                                    with_reducible rfl
                                  rotate_left
                                  · simp only [Act.put, List.setIfInBounds_toArray, List.set_cons_zero, List.set_cons_succ, i64_w, i32_w]
                                    rfl
                                  refine pure_ (i := 34) (N := some 151) (v := ?_) (a' := ?_) #[true, true, true, true, true, true, true, true, true, true, true, true, true, true, true, true, true, true, true, true, true, true, true, true, true, true, true, true, true, true, true, true, true, true, true, false, false, false, false, false] rfl rfl (any_of HT_.out (by kernel_rfl)) (fun _ _ _ h => h) (Or.inl ⟨by rfl, ?_⟩) ?_ ?_
                                  rotate_left
                                  · intro w'
                                    go_simp
                                    with_reducible rfl
                                  rotate_left
                                  · simp only [Act.put, List.setIfInBounds_toArray, List.set_cons_zero, List.set_cons_succ, i64_w, i32_w]
                                    rfl
                                  refine pure_ (i := 35) (N := some 152) (v := ?_) (a' := ?_) #[true, true, true, true, true, true, true, true, true, true, true, true, true, true, true, true, true, true, true, true, true, true, true, true, true, true, true, true, true, true, true, true, true, true, true, true, false, false, false, false] rfl rfl (any_of HT_.out (by kernel_rfl)) (fun _ _ _ h => h) (Or.inl ⟨by rfl, ?_⟩) ?_ ?_
                                  rotate_left
                                  · intro w'
                                    go_simp
                                    with_reducible rfl
                                  rotate_left
                                  · simp only [Act.put, List.setIfInBounds_toArray, List.set_cons_zero, List.set_cons_succ, i64_w, i32_w]
                                    rfl
                                  refine pure_ (i := 36) (N := some 153) (v := ?_) (a' := ?_) #[true, true, true, true, true, true, true, true, true, true, true, true, true, true, true, true, true, true, true, true, true, true, true, true, true, true, true, true, true, true, true, true, true, true, true, true, true, false, false, false] rfl rfl (any_of HT_.out (by kernel_rfl)) (fun _ _ _ h => h) (Or.inl ⟨by rfl, ?_⟩) ?_ ?_
                                  rotate_left
                                  · intro w'
                                    go_simp
                                    with_reducible rfl
                                  rotate_left
                                  · simp only [Act.put, List.setIfInBounds_toArray, List.set_cons_zero, List.set_cons_succ, i64_w, i32_w]
                                    rfl
                                  refine one_ (i := 37) (N := some 154) #[true, true, true, true, true, true, true, true, true, true, true, true, true, true, true, true, true, true, true, true, true, true, true, true, true, true, true, true, true, true, true, true, true, true, true, true, true, true, false, false] rfl rfl (one_of HT_.out (by kernel_rfl)) (by decide) (fun K hK => ?_)
                                  refine goes_ Try.func24 (by kernel_rfl) rfl #[] (by rfl) rfl rfl (by (try simp only [List.map_toArray, List.map_cons, List.map_nil]); first | done | rfl | (simp only [List.length_drop, List.length_take]; rfl)) ?_
                                  with_reducible refine (tattlelaw18_awakeT.calls  t551 _ A99.out).mono ?_
                                  rintro e w110 ⟨rfl, hb⟩
                                  refine ⟨_, rfl, ?_⟩
                                  have n0_ := Aside0.mk (Kd.V_below (by (with_reducible repeat (first | apply Kd.V_alloc | apply Kd.V_drewN | apply Kd.V_drew)); exact HO_520001.out) hb)
                                  have n1_ := Aside0.mk (Kd.V_below (by (with_reducible repeat (first | apply Kd.V_alloc | apply Kd.V_drewN | apply Kd.V_drew)); exact HO_526001.out) hb)
                                  have n2_ := Aside0.mk (Kd.V_below (by (with_reducible repeat (first | apply Kd.V_alloc | apply Kd.V_drewN | apply Kd.V_drew)); exact HO_539001.out) hb)
                                  have n3_ := Aside0.mk (blk_below (g := gb514) (o := .cells #[.int .i64 a0_0, .int .i64 a0_1, .int .i64 a0_2, .int .u64 a0_3, .slice A0_4 l0_4.length c0_4, .int .i64 a0_5, .int .u64 a0_6, .int .i64 a0_7, .int .i64 a0_8] 54 (0, 0)) (by (with_reducible repeat (first | refine blk_drewN ?_ _ | refine blk_drew ?_ | refine blk_alloc ?_ _)); exact BK514.out) hb)
                                  have n4_ := Aside0.mk (blk_below (g := gb519) (o := .cells #[.int .u64 t515, .slice Ao13 t516.length co13] 52 (0, 0)) (by (with_reducible repeat (first | refine blk_drewN ?_ _ | refine blk_drew ?_ | refine blk_alloc ?_ _)); exact BK519.out) hb)
                                  have n5_ := Aside0.mk (blk_below (g := gb525) (o := .cells #[.int .u64 t520, .slice Ao22 t521.length co22] 52 (0, 0)) (by (with_reducible repeat (first | refine blk_drewN ?_ _ | refine blk_drew ?_ | refine blk_alloc ?_ _)); exact BK525.out) hb)
                                  have n6_ := Aside0.mk (blk_below (g := gb538) (o := .cells #[.int .u64 x539000_3, .slice Ao107 x539001_3.length co107] 52 (0, 0)) (by (with_reducible repeat (first | refine blk_drewN ?_ _ | refine blk_drew ?_ | refine blk_alloc ?_ _)); exact BK538.out) hb)
                                  have n7_ := Aside0.mk (below_step (by repeat (first | (with_reducible first | exact HB.out | apply below_alloc | apply pw_below_drewN | apply below_drew1 | refine below_set ?_ GE514.out | refine below_set ?_ GE519.out | refine below_set ?_ GE525.out | refine below_set ?_ GE538.out) | exact HB.out)) hb)
                                  clear HO_520001
                                  clear HO_526001
                                  clear HO_539001
                                  clear BK514
                                  clear BK519
                                  clear BK525
                                  clear BK538
                                  clear HB
                                  have HO_520001 := n0_
                                  have HO_526001 := n1_
                                  have HO_539001 := n2_
                                  have BK514 := n3_
                                  have BK519 := n4_
                                  have BK525 := n5_
                                  have BK538 := n6_
                                  have HB := n7_
                                  clear n0_ n1_ n2_ n3_ n4_ n5_ n6_ n7_
                                  (try clear hb)
                                  (try clear hb2)
                                  (try clear hk)
                                  (try clear hi)
                                  refine hK.out _ _ trivial (fun hHeld => ?_)
                                  clear hK K
                                  refine norm_ (a' := ?_) ?_ ?_
                                  rotate_left
                                  · show Act.put _ (some 154) _ = _
                                    simp only [Act.put, List.setIfInBounds_toArray, List.set_cons_zero, List.set_cons_succ, i64_w, i32_w]
                                    rfl
                                  refine pure_ (i := 38) (N := some 155) (v := ?_) (a' := ?_) #[true, true, true, true, true, true, true, true, true, true, true, true, true, true, true, true, true, true, true, true, true, true, true, true, true, true, true, true, true, true, true, true, true, true, true, true, true, true, true, false] rfl rfl (any_of HT_.out (by kernel_rfl)) (fun _ _ _ h => h) (Or.inl ⟨by rfl, ?_⟩) ?_ ?_
                                  rotate_left
                                  · intro w'
                                    go_simp
                                    with_reducible rfl
                                  rotate_left
                                  · simp only [Act.put, List.setIfInBounds_toArray, List.set_cons_zero, List.set_cons_succ, i64_w, i32_w]
                                    rfl
                                  refine pure_ (i := 39) (N := some 4) (v := ?_) (a' := ?_) #[true, true, true, true, true, true, true, true, true, true, true, true, true, true, true, true, true, true, true, true, true, true, true, true, true, true, true, true, true, true, true, true, true, true, true, true, true, true, true, true] rfl rfl (any_of HT_.out (by kernel_rfl)) (fun _ _ _ h => h) (Or.inl ⟨by rfl, ?_⟩) ?_ ?_
                                  rotate_left
                                  · intro w'
                                    go_simp
                                    with_reducible rfl
                                  rotate_left
                                  · simp only [Act.put, List.setIfInBounds_toArray, List.set_cons_zero, List.set_cons_succ, i64_w, i32_w]
                                    rfl
                                  refine done_ (done_of HT_.out (by kernel_rfl)) ?_
                                  try go_wp2
                                  go_ret
                                  exact ⟨by first | rfl | (simp [errW_none, errW_some] <;> rfl) | (simp [*, errW_none, errW_some] <;> rfl), by repeat (first | (with_reducible first | exact HB.out | apply below_alloc | apply pw_below_drewN | apply below_drew1 | refine below_set ?_ GE514.out | refine below_set ?_ GE519.out | refine below_set ?_ GE525.out | refine below_set ?_ GE538.out) | exact HB.out)⟩
                                · rw [if_neg c98] at H
                                  have c98b0 : decide ((wrap64 (2 * (wrap64 (t548 - 1)))) ≤ (t516.length : Int)) = false := decide_eq_false c98
                                  clear c98
                                  exact absurd ((Option.some.inj H).trans hrt.out) (by decide)
                              · rw [if_neg c97] at H
                                have c97b0 : decide ((t516.length : Int) < (wrap64 (2 * t548))) = false := decide_eq_false c97
                                clear c97
                                exact absurd ((Option.some.inj H).trans hrt.out) (by decide)
                          · rw [if_neg c78] at H
                            have c78b0 : (t546 == (decide ((Int.tmod (wrap64 (a1)) (wrap64 ((t516.length : Int) + 1))) ≥ t548))) = false := by simpa using c78
                            (try (have c78b1 : decide (t546 = (decide ((Int.tmod (wrap64 (a1)) (wrap64 ((t516.length : Int) + 1))) ≥ t548))) = false := by simpa using c78))
                            (try (have c78b2 : (t546 == (decide ((Int.tmod (wrap64 (a1)) (wrap64 ((t516.length : Int) + 1))) ≥ t548))) = false := by simpa using c78))
                            (try (have c78b3 : ¬ (t546 = (decide ((Int.tmod (wrap64 (a1)) (wrap64 ((t516.length : Int) + 1))) ≥ t548))) := by simpa using c78))
                            clear c78
                            exact absurd ((Option.some.inj H).trans hrt.out) (by decide)
                        · rw [if_neg c77] at H
                          have c77b0 : (t547 == 0) = false := beq_eq_false_iff_ne.mpr c77
                          have c77b1 : (t547 != 0) = true := bne_iff_ne.mpr c77
                          exact absurd ((Option.some.inj H).trans hrt.out) (by decide)
              · rw [if_neg c43] at H
                have c43b0 : (t537 == 0) = false := beq_eq_false_iff_ne.mpr c43
                have c43b1 : (t537 != 0) = true := bne_iff_ne.mpr c43
                exact absurd ((Option.some.inj H).trans hrt.out) (by decide)

end Go.Proofs.Ytgfblogneggpmaa.Fn
