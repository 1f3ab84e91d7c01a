-- Written by program (a turned copy of the kit's print) for this seat: functions, contracts. Lean checks it.
import Derived.Test.YtgfblogneggpmaaFnx0
import Derived.Test.YtgfblogneggpmaaFnx16
import Derived.Test.YtgfblogneggpmaaFnx32
import Derived.Test.YtgfblogneggpmaaFnx36
import Derived.Test.YtgfblogneggpmaaAw24
import Derived.Test.YtgfblogneggpmaaExNew
namespace Go.Proofs.Ytgfblogneggpmaa.Fn
open Go.RowKit Go.Proofs.YtgfblogneggpmaaW.PrintWords Go.Proofs.YtgfblogneggpmaaW.PrintLast Go.Proofs.YtgfblogneggpmaaW.PrintMore
attribute [local go_sem] max2_int min2_int max_two min_two max_three min_three max_four min_four   -- for this text's walks alone
set_option linter.unusedVariables false
set_option linter.unusedSimpArgs false

/-! ### tattlelaw18_LeadOnce: function 13 -/
mutual
def tattlelaw18_LeadOnce.j0 : Nat → List Int → List Int → Int → Bool → Int → List Int → Int → List Int → Option (Bool)
  | 0, _, _, _, _, _, _, _, _ => none
  | k + 1, x1, x2, x7, x38, x655000, x655001, x661000, x661001 => if x38 = true then (some false) else (tattlelaw18_LeadOnce.l0 k x1 x2 x7 (mn (mn (x1.length : Int) (x2.length : Int)) 20) 0 x655000 x655001 x661000 x661001)
def tattlelaw18_LeadOnce.l0 : Nat → List Int → List Int → Int → Int → Int → Int → List Int → Int → List Int → Option (Bool)
  | 0, _, _, _, _, _, _, _, _, _ => none
  | k + 1, x1, x2, x7, x12, x13, x655000, x655001, x661000, x661001 => if x13 < x12 then (tattlelaw18_LeadOnce.l1 k x1 x2 x7 x12 x13 0 x655000 x655001 x661000 x661001) else ((tattleref18_Same.f k x655000 x655001 x661000 x661001).bind fun t661 => (if t661 = true then ((lead_Same.f k x655000 x655001 x661000 x661001).bind fun t662 => (if t662 = true then ((tattlelaw18_awakeT.f).bind fun t663 => (some t663)) else (some false))) else (some false)))
def tattlelaw18_LeadOnce.l1 : Nat → List Int → List Int → Int → Int → Int → Int → Int → List Int → Int → List Int → Option (Bool)
  | 0, _, _, _, _, _, _, _, _, _, _ => none
  | k + 1, x1, x2, x7, x12, x13, x14, x655000, x655001, x661000, x661001 => if x14 < 2 then (if 0 ≤ x13 then (if x13 < (x1.length : Int) then (if x7 = 0 then (none) else (if x13 < (x2.length : Int) then ((lead_Granted.f k x655000 x655001 (Int.tmod (wrap64 (rd x1 x13)) x7) 0 (wrap64 (rd x2 x13))).bind fun bt666 => (if bt666.2.2 = 0 then (tattlelaw18_LeadOnce.l1 k x1 x2 x7 x12 x13 (wrap64 (x14 + 1)) bt666.1 bt666.2.1 x661000 x661001) else (some false))) else (none))) else (none)) else (none)) else (if 0 ≤ (wrap64 ((wrap64 (x12 - 1)) - x13)) then (if (wrap64 ((wrap64 (x12 - 1)) - x13)) < (x1.length : Int) then (if x7 = 0 then (none) else (if (wrap64 ((wrap64 (x12 - 1)) - x13)) < (x2.length : Int) then ((lead_Granted.f k x661000 x661001 (Int.tmod (wrap64 (rd x1 (wrap64 ((wrap64 (x12 - 1)) - x13)))) x7) 0 (wrap64 (rd x2 (wrap64 ((wrap64 (x12 - 1)) - x13))))).bind fun bt674 => (if bt674.2.2 = 0 then (tattlelaw18_LeadOnce.l0 k x1 x2 x7 x12 (wrap64 (x13 + 1)) x655000 x655001 bt674.1 bt674.2.1) else (some false))) else (none))) else (none)) else (none))
end
def tattlelaw18_LeadOnce.f (k : Nat) (a0 : Int) (l1 : List Int) (l2 : List Int) : Option (Bool) := (lead_New.f (wrap64 (1 + (wrap64 (Int.tmod a0 9))))).bind fun bt649 => ((lead_New.f (wrap64 (1 + (wrap64 (Int.tmod a0 9))))).bind fun bt655 => (if bt649.2.2 = 0 then (tattlelaw18_LeadOnce.j0 k l1 l2 (wrap64 (1 + (wrap64 (Int.tmod a0 9)))) (bt655.2.2 != 0) bt649.1 bt649.2.1 bt655.1 bt655.2.1) else (tattlelaw18_LeadOnce.j0 k l1 l2 (wrap64 (1 + (wrap64 (Int.tmod a0 9)))) true bt649.1 bt649.2.1 bt655.1 bt655.2.1)))
theorem tattlelaw18_LeadOnce.mono_l : ∀ k, (∀ y0 y1 y2 y3 y4 y5 y6 y7, LeO (tattlelaw18_LeadOnce.j0 k y0 y1 y2 y3 y4 y5 y6 y7) (tattlelaw18_LeadOnce.j0 (k + 1) y0 y1 y2 y3 y4 y5 y6 y7)) ∧ (∀ y0 y1 y2 y3 y4 y5 y6 y7 y8, LeO (tattlelaw18_LeadOnce.l0 k y0 y1 y2 y3 y4 y5 y6 y7 y8) (tattlelaw18_LeadOnce.l0 (k + 1) y0 y1 y2 y3 y4 y5 y6 y7 y8)) ∧ (∀ y0 y1 y2 y3 y4 y5 y6 y7 y8 y9, LeO (tattlelaw18_LeadOnce.l1 k y0 y1 y2 y3 y4 y5 y6 y7 y8 y9) (tattlelaw18_LeadOnce.l1 (k + 1) y0 y1 y2 y3 y4 y5 y6 y7 y8 y9))
  | 0 => ⟨fun _ _ _ _ _ _ _ _ r h => by simp [tattlelaw18_LeadOnce.j0] at h, fun _ _ _ _ _ _ _ _ _ r h => by simp [tattlelaw18_LeadOnce.l0] at h, fun _ _ _ _ _ _ _ _ _ _ r h => by simp [tattlelaw18_LeadOnce.l1] at h⟩
  | k + 1 => by
    obtain ⟨ih0, ih1, ih2⟩ := tattlelaw18_LeadOnce.mono_l k
    refine ⟨?_, ?_, ?_⟩
    · intro y0 y1 y2 y3 y4 y5 y6 y7
      unfold tattlelaw18_LeadOnce.j0
      repeat' first
      | (with_reducible exact ih0 _ _ _ _ _ _ _ _)
      | (with_reducible exact ih1 _ _ _ _ _ _ _ _ _)
      | (with_reducible exact ih2 _ _ _ _ _ _ _ _ _ _)
      | (with_reducible exact lead_Granted.mono _ _ _ _ _ _)
      | (with_reducible exact lead_Same.mono _ _ _ _ _)
      | (with_reducible exact tattleref18_Same.mono _ _ _ _ _)
      | (with_reducible exact LeO.refl _)
      | (with_reducible exact LeO.none _)
      | (with_reducible refine LeO.ite ?_ ?_)
      | (with_reducible refine LeO.bind ?_ (fun _ => ?_))
      | exact ih0 _ _ _ _ _ _ _ _
      | exact ih1 _ _ _ _ _ _ _ _ _
      | exact ih2 _ _ _ _ _ _ _ _ _ _
      | exact lead_Granted.mono _ _ _ _ _ _
      | exact lead_Same.mono _ _ _ _ _
      | exact tattleref18_Same.mono _ _ _ _ _
      | exact LeO.none _
      | refine LeO.ite ?_ ?_
      | refine LeO.bind ?_ (fun _ => ?_)
    · intro y0 y1 y2 y3 y4 y5 y6 y7 y8
      unfold tattlelaw18_LeadOnce.l0
      repeat' first
      | (with_reducible exact ih0 _ _ _ _ _ _ _ _)
      | (with_reducible exact ih1 _ _ _ _ _ _ _ _ _)
      | (with_reducible exact ih2 _ _ _ _ _ _ _ _ _ _)
      | (with_reducible exact lead_Granted.mono _ _ _ _ _ _)
      | (with_reducible exact lead_Same.mono _ _ _ _ _)
      | (with_reducible exact tattleref18_Same.mono _ _ _ _ _)
      | (with_reducible exact LeO.refl _)
      | (with_reducible exact LeO.none _)
      | (with_reducible refine LeO.ite ?_ ?_)
      | (with_reducible refine LeO.bind ?_ (fun _ => ?_))
      | exact ih0 _ _ _ _ _ _ _ _
      | exact ih1 _ _ _ _ _ _ _ _ _
      | exact ih2 _ _ _ _ _ _ _ _ _ _
      | exact lead_Granted.mono _ _ _ _ _ _
      | exact lead_Same.mono _ _ _ _ _
      | exact tattleref18_Same.mono _ _ _ _ _
      | exact LeO.none _
      | refine LeO.ite ?_ ?_
      | refine LeO.bind ?_ (fun _ => ?_)
    · intro y0 y1 y2 y3 y4 y5 y6 y7 y8 y9
      unfold tattlelaw18_LeadOnce.l1
      repeat' first
      | (with_reducible exact ih0 _ _ _ _ _ _ _ _)
      | (with_reducible exact ih1 _ _ _ _ _ _ _ _ _)
      | (with_reducible exact ih2 _ _ _ _ _ _ _ _ _ _)
      | (with_reducible exact lead_Granted.mono _ _ _ _ _ _)
      | (with_reducible exact lead_Same.mono _ _ _ _ _)
      | (with_reducible exact tattleref18_Same.mono _ _ _ _ _)
      | (with_reducible exact LeO.refl _)
      | (with_reducible exact LeO.none _)
      | (with_reducible refine LeO.ite ?_ ?_)
      | (with_reducible refine LeO.bind ?_ (fun _ => ?_))
      | exact ih0 _ _ _ _ _ _ _ _
      | exact ih1 _ _ _ _ _ _ _ _ _
      | exact ih2 _ _ _ _ _ _ _ _ _ _
      | exact lead_Granted.mono _ _ _ _ _ _
      | exact lead_Same.mono _ _ _ _ _
      | exact tattleref18_Same.mono _ _ _ _ _
      | exact LeO.none _
      | refine LeO.ite ?_ ?_
      | refine LeO.bind ?_ (fun _ => ?_)
theorem tattlelaw18_LeadOnce.mono : ∀ a0 a1 a2 k, LeO (tattlelaw18_LeadOnce.f k a0 a1 a2) (tattlelaw18_LeadOnce.f (k + 1) a0 a1 a2) := by
  intro a0 a1 a2 k
  obtain ⟨ih0, ih1, ih2⟩ := tattlelaw18_LeadOnce.mono_l k
  unfold tattlelaw18_LeadOnce.f
  repeat' first
      | (with_reducible exact ih0 _ _ _ _ _ _ _ _)
      | (with_reducible exact ih1 _ _ _ _ _ _ _ _ _)
      | (with_reducible exact ih2 _ _ _ _ _ _ _ _ _ _)
      | (with_reducible exact lead_Granted.mono _ _ _ _ _ _)
      | (with_reducible exact lead_Same.mono _ _ _ _ _)
      | (with_reducible exact tattleref18_Same.mono _ _ _ _ _)
      | (with_reducible exact LeO.refl _)
      | (with_reducible exact LeO.none _)
      | (with_reducible refine LeO.ite ?_ ?_)
      | (with_reducible refine LeO.bind ?_ (fun _ => ?_))
      | exact ih0 _ _ _ _ _ _ _ _
      | exact ih1 _ _ _ _ _ _ _ _ _
      | exact ih2 _ _ _ _ _ _ _ _ _ _
      | exact lead_Granted.mono _ _ _ _ _ _
      | exact lead_Same.mono _ _ _ _ _
      | exact tattleref18_Same.mono _ _ _ _ _
      | exact LeO.none _
      | refine LeO.ite ?_ ?_
      | refine LeO.bind ?_ (fun _ => ?_)
def tattlelaw18_LeadOnce.T13 : Bool × List (List Nat × List Nat) := (true, [([], []), ([], []), ([], []), ([1, 2], [1, 2]), ([3], [3]), ([4], [4]), ([], []), ([5, 6], [5, 6]), ([], []), ([], []), ([8, 9], [8, 9]), ([10], [10]), ([11], [11]), ([0, 7, 12], [0, 7, 12]), ([13], [13]), ([14], [14]), ([14], [14]), ([], []), ([17, 15, 13, 0, 1, 2, 3, 4, 5, 6, 7, 8, 9, 10, 11, 12, 13, 14, 15, 17], [15, 17]), ([16, 18, 0, 1, 2, 3, 4, 5, 6, 7, 8, 9, 10, 11, 12, 13, 14, 15, 16, 17, 18], [16])])
def tattlelaw18_LeadOnce.B13 : List Nat := [0, 0, 0, 6, 14, 30, 0, 126, 0, 0, 768, 1792, 3840, 8191, 16383, 32767, 32767, 0, 196607, 524287]
theorem tattlelaw18_LeadOnce.tab13 : rtab .any (opsOf Try.f13 13) = tattlelaw18_LeadOnce.T13 := by kernel_rfl
theorem tattlelaw18_LeadOnce.bits13 : waitsOk tattlelaw18_LeadOnce.T13.2 tattlelaw18_LeadOnce.B13 = true := by kernel_rfl
def tattlelaw18_LeadOnce.T17 : Bool × List (List Nat × List Nat) := (true, [([], []), ([], []), ([], []), ([2], [2]), ([], []), ([3, 4], [3, 4]), ([1, 5], [1, 5]), ([6], [6]), ([7], [7]), ([], []), ([8, 9], [8, 9]), ([], []), ([], []), ([12], [12]), ([], []), ([13, 14], [13, 14]), ([11, 15], [11, 15]), ([16], [16]), ([17], [17]), ([0, 10, 18], [0, 10, 18]), ([19], [19]), ([20], [20]), ([20], [20]), ([], []), ([23, 21, 19, 0, 1, 2, 3, 4, 5, 6, 7, 8, 9, 10, 11, 12, 13, 14, 15, 16, 17, 18, 19, 20, 21, 23], [21, 23]), ([22, 24, 0, 1, 2, 3, 4, 5, 6, 7, 8, 9, 10, 11, 12, 13, 14, 15, 16, 17, 18, 19, 20, 21, 22, 23, 24], [22])])
def tattlelaw18_LeadOnce.B17 : List Nat := [0, 0, 0, 4, 0, 28, 62, 126, 254, 0, 1022, 0, 0, 4096, 0, 28672, 63488, 129024, 260096, 524287, 1048575, 2097151, 2097151, 0, 12582911, 33554431]
theorem tattlelaw18_LeadOnce.tab17 : rtab .any (opsOf Try.f13 17) = tattlelaw18_LeadOnce.T17 := by kernel_rfl
theorem tattlelaw18_LeadOnce.bits17 : waitsOk tattlelaw18_LeadOnce.T17.2 tattlelaw18_LeadOnce.B17 = true := by kernel_rfl
set_option maxHeartbeats 8000000 in
set_option maxRecDepth 100000 in
theorem tattlelaw18_LeadOnce.calls (k : Nat) (a0 : Int) (A1 : Option Addr) (c1 : Nat) (l1 : List Int) (A2 : Option Addr) (c2 : Nat) (l2 : List Int) (r : Bool) (w : World) (hr1 : Kd.C (Kd.int .u8) w A1 l1.length l1) (hc1 : l1.length ≤ c1) (hr2 : Kd.C (Kd.int .u16) w A2 l2.length l2) (hc2 : l2.length ≤ c2) (hrt : Aside0 (r = true)) (h : tattlelaw18_LeadOnce.f k a0 l1 l2 = some r) :
    Calls Try.prog 13 #[.int .u8 a0, .slice A1 l1.length c1, .slice A2 l2.length c2] w fun e w' => e = .returned (.bool r) ∧ Below w.heap.size w w' := by
  have hu52 := Try.underlying52
  have HR1 := Aside0.mk hr1
  have HC1 := Aside0.mk hc1
  clear hr1 hc1
  have HR2 := Aside0.mk hr2
  have HC2 := Aside0.mk hc2
  clear hr2 hc2
  have HB := Aside0.mk (Below.refl w.heap.size w)
  have H : ((lead_New.f (wrap64 (1 + (wrap64 (Int.tmod a0 9))))).bind fun bt649 => ((lead_New.f (wrap64 (1 + (wrap64 (Int.tmod a0 9))))).bind fun bt655 => (if bt649.2.2 = 0 then (tattlelaw18_LeadOnce.j0 k l1 l2 (wrap64 (1 + (wrap64 (Int.tmod a0 9)))) (bt655.2.2 != 0) bt649.1 bt649.2.1 bt655.1 bt655.2.1) else (tattlelaw18_LeadOnce.j0 k l1 l2 (wrap64 (1 + (wrap64 (Int.tmod a0 9)))) true bt649.1 bt649.2.1 bt655.1 bt655.2.1)))) = some r := h
  clear h
  replace H := Option.bind_eq_some_iff.mp H
  obtain ⟨⟨t649, t650, t653⟩, A40, H⟩ := H
  replace H : ((lead_New.f (wrap64 (1 + (wrap64 (Int.tmod a0 9))))).bind fun bt655 => (if t653 = 0 then (tattlelaw18_LeadOnce.j0 k l1 l2 (wrap64 (1 + (wrap64 (Int.tmod a0 9)))) (bt655.2.2 != 0) t649 t650 bt655.1 bt655.2.1) else (tattlelaw18_LeadOnce.j0 k l1 l2 (wrap64 (1 + (wrap64 (Int.tmod a0 9)))) true t649 t650 bt655.1 bt655.2.1))) = some r := H
  have A4 := Aside0.mk A40
  clear A40
  replace H := Option.bind_eq_some_iff.mp H
  obtain ⟨⟨t655, t656, t659⟩, A50, H⟩ := H
  replace H : (if t653 = 0 then (tattlelaw18_LeadOnce.j0 k l1 l2 (wrap64 (1 + (wrap64 (Int.tmod a0 9)))) (t659 != 0) t649 t650 t655 t656) else (tattlelaw18_LeadOnce.j0 k l1 l2 (wrap64 (1 + (wrap64 (Int.tmod a0 9)))) true t649 t650 t655 t656)) = some r := H
  have A5 := Aside0.mk A50
  clear A50
  have HC6 := Aside0.mk H
  clear H
  go_enter Try.func13, Try.ntmps13
  go_upto_region 4 with (first | ((with_reducible refine gate_callee (f := 25) rfl ?_); refine goesL_ (some 25) rfl rfl Try.func25 (by kernel_rfl) rfl #[.int .i64 (wrap64 (1 + (wrap64 (Int.tmod a0 9))))] rfl (by (try simp only [List.map_toArray, List.map_cons, List.map_nil]); first | done | rfl | (simp only [List.length_drop, List.length_take]; rfl)) ?_; (with_reducible refine (lead_New.calls (wrap64 (1 + (wrap64 (Int.tmod a0 9)))) t649 t650 t653 _ A4.out).mono ?_); rintro e w7 ⟨v651, rfl, ho0, hb⟩; refine ⟨_, rfl, ?_⟩; have n0_ := Aside0.mk (Kd.R_lower ho0 (below_size (by repeat (first | (with_reducible first | exact HB.out | apply below_alloc | apply pw_below_drewN | apply below_drew1) | exact HB.out)))); have n1_ := Aside0.mk (below_step (by repeat (first | (with_reducible first | exact HB.out | apply below_alloc | apply pw_below_drewN | apply below_drew1) | exact HB.out)) hb); clear HB; have HO652 := n0_; have HB := n1_; clear n0_ n1_; (try clear hb); (try clear hb2); (try clear hk); (try clear hi); (try clear ho0)) | ((with_reducible refine gate_dst (N := 8) rfl ?_); refine box_event ?hg (N := 8) ?hd (cs := #[.int .u64 0, .slice none 0 0]) (t := 52) ?hr ?_; (case hd => rfl); (case hg => rfl); (case hr => first | (go_simp; done) | (go_simp; rfl)); intro gb654 hg w8 hbox hb; have n0_ := Aside0.mk (Kd.R_below (by (with_reducible repeat (first | apply Kd.R_alloc | apply Kd.R_drewN | apply Kd.R_drew)); exact HO652.out) hb); have n1_ := Aside0.mk (below_step (by repeat (first | (with_reducible first | exact HB.out | apply below_alloc | apply pw_below_drewN | apply below_drew1) | exact HB.out)) hb); have n2_ := Aside0.mk (hbox); have n3_ := Aside0.mk ((by rw [hg]; exact (below_size (by repeat (first | (with_reducible first | exact HB.out | apply below_alloc | apply pw_below_drewN | apply below_drew1) | exact HB.out))) : w.heap.size ≤ gb654)); have n4_ := Aside0.mk ((by rw [hg]; exact (below_size (by repeat (first | (with_reducible first | exact HB.out | apply below_alloc | apply pw_below_drewN | apply below_drew1) | exact HB.out))) : w.heap.size ≤ gb654)); clear HO652; clear HB; have HO652 := n0_; have HB := n1_; have BK654 := n2_; have GW654 := n3_; have GE654 := n4_; clear n0_ n1_ n2_ n3_ n4_; clear hb hbox hg; have hcz9_0 : w8.cell? ⟨gb654, 0, none⟩ = some (.int .u64 0) := (blk_cell BK654.out 0).trans rfl; have hcz9_1 : w8.cell? ⟨gb654, 1, none⟩ = some (.slice none 0 0) := (blk_cell BK654.out 1).trans rfl; have hfz9_0 := blk_frozen BK654.out 0; have hfz9_1 := blk_frozen BK654.out 1; obtain ⟨Ao10, co10, eo10⟩ := Kd.R_slice HO652.out; subst eo10) | ((with_reducible refine gate_callee (f := 25) rfl ?_); refine goesL_ (some 30) rfl rfl Try.func25 (by kernel_rfl) rfl #[.int .i64 (wrap64 (1 + (wrap64 (Int.tmod a0 9))))] rfl (by (try simp only [List.map_toArray, List.map_cons, List.map_nil]); first | done | rfl | (simp only [List.length_drop, List.length_take]; rfl)) ?_; (with_reducible refine (lead_New.calls (wrap64 (1 + (wrap64 (Int.tmod a0 9)))) t655 t656 t659 _ A5.out).mono ?_); rintro e w11 ⟨v657, rfl, ho0, hb⟩; refine ⟨_, rfl, ?_⟩; have n0_ := Aside0.mk (Kd.R_elder' (by (with_reducible repeat (first | apply Kd.R_alloc | apply Kd.R_drewN | apply Kd.R_drew)); exact (Kd.R_mono (Kd.R_far (p := ⟨gb654, 1, none⟩) (Kd.R_far (p := ⟨gb654, 0, none⟩) (Kd.R_types HO652.out BK654.out (by decide)) (fun _ hk => hk.2) (.int .u64 t649)) (fun _ hk => hk.2) (.slice Ao10 t650.length co10)) (fun _ h_ => h_.1))) (Kd.R_base ho0) hb); have n1_ := Aside0.mk (Kd.R_lower (Kd.R_new' ho0 (Kd.R_lt (by (with_reducible repeat (first | apply Kd.R_alloc | apply Kd.R_drewN | apply Kd.R_drew)); exact (Kd.R_mono (Kd.R_far (p := ⟨gb654, 1, none⟩) (Kd.R_far (p := ⟨gb654, 0, none⟩) (Kd.R_types HO652.out BK654.out (by decide)) (fun _ hk => hk.2) (.int .u64 t649)) (fun _ hk => hk.2) (.slice Ao10 t650.length co10)) (fun _ h_ => h_.1))))) (below_size (by repeat (first | (with_reducible first | exact HB.out | apply below_alloc | apply pw_below_drewN | apply below_drew1 | refine below_set ?_ GE654.out) | exact HB.out)))); have n2_ := Aside0.mk (blk_below (g := gb654) (o := .cells #[.int .u64 t649, .slice Ao10 t650.length co10] 52 (0, 0)) (by (with_reducible repeat (first | refine blk_drewN ?_ _ | refine blk_drew ?_ | refine blk_alloc ?_ _)); refine blk_put (cs := #[.int .u64 t649, .slice none 0 0]) ?_ 1 _ rfl; (with_reducible repeat (first | refine blk_drewN ?_ _ | refine blk_drew ?_ | refine blk_alloc ?_ _)); refine blk_put (cs := #[.int .u64 0, .slice none 0 0]) ?_ 0 _ rfl; (with_reducible repeat (first | refine blk_drewN ?_ _ | refine blk_drew ?_ | refine blk_alloc ?_ _)); exact BK654.out) hb); have n3_ := Aside0.mk (below_step (by repeat (first | (with_reducible first | exact HB.out | apply below_alloc | apply pw_below_drewN | apply below_drew1 | refine below_set ?_ GE654.out) | exact HB.out)) hb); clear HO652; clear BK654; clear HB; have HO652 := n0_; have HO658 := n1_; have BK654 := n2_; have HB := n3_; clear n0_ n1_ n2_ n3_; (try clear hb); (try clear hb2); (try clear hk); (try clear hi); (try clear ho0)) | ((with_reducible refine gate_dst (N := 10) rfl ?_); refine box_event ?hg (N := 10) ?hd (cs := #[.int .u64 0, .slice none 0 0]) (t := 52) ?hr ?_; (case hd => rfl); (case hg => rfl); (case hr => first | (go_simp; done) | (go_simp; rfl)); intro gb660 hg w12 hbox hb; have n0_ := Aside0.mk (Kd.R_below (by (with_reducible repeat (first | apply Kd.R_alloc | apply Kd.R_drewN | apply Kd.R_drew)); exact HO652.out) hb); have n1_ := Aside0.mk (Kd.R_below (by (with_reducible repeat (first | apply Kd.R_alloc | apply Kd.R_drewN | apply Kd.R_drew)); exact HO658.out) hb); have n2_ := Aside0.mk (blk_below (g := gb654) (o := .cells #[.int .u64 t649, .slice Ao10 t650.length co10] 52 (0, 0)) (by (with_reducible repeat (first | refine blk_drewN ?_ _ | refine blk_drew ?_ | refine blk_alloc ?_ _)); exact BK654.out) hb); have n3_ := Aside0.mk (below_step (by repeat (first | (with_reducible first | exact HB.out | apply below_alloc | apply pw_below_drewN | apply below_drew1 | refine below_set ?_ GE654.out) | exact HB.out)) hb); have n4_ := Aside0.mk (hbox); have n5_ := Aside0.mk ((by rw [hg]; exact (below_size (by repeat (first | (with_reducible first | exact HB.out | apply below_alloc | apply pw_below_drewN | apply below_drew1 | refine below_set ?_ GE654.out) | exact HB.out))) : w.heap.size ≤ gb660)); have n6_ := Aside0.mk ((by rw [hg]; exact (below_size (by repeat (first | (with_reducible first | exact HB.out | apply below_alloc | apply pw_below_drewN | apply below_drew1 | refine below_set ?_ GE654.out) | exact HB.out))) : w.heap.size ≤ gb660)); have n7_ := Aside0.mk ((by rw [hg]; exact Nat.ne_of_lt (blk_lt (g := gb654) (o := .cells #[.int .u64 t649, .slice Ao10 t650.length co10] 52 (0, 0)) (by (with_reducible repeat (first | refine blk_drewN ?_ _ | refine blk_drew ?_ | refine blk_alloc ?_ _)); exact BK654.out)) : gb654 ≠ gb660)); have n8_ := Aside0.mk ((by rw [hg]; exact Nat.ne_of_gt (blk_lt (g := gb654) (o := .cells #[.int .u64 t649, .slice Ao10 t650.length co10] 52 (0, 0)) (by (with_reducible repeat (first | refine blk_drewN ?_ _ | refine blk_drew ?_ | refine blk_alloc ?_ _)); exact BK654.out)) : gb660 ≠ gb654)); clear HO652; clear HO658; clear BK654; clear HB; have HO652 := n0_; have HO658 := n1_; have BK654 := n2_; have HB := n3_; have BK660 := n4_; have GW660 := n5_; have GE660 := n6_; have NB654_660 := n7_; have NB660_654 := n8_; clear n0_ n1_ n2_ n3_ n4_ n5_ n6_ n7_ n8_; clear hb hbox hg; have hnb13 := NB660_654.out; have hnc13 := NB654_660.out; have hcz14_0 : w12.cell? ⟨gb660, 0, none⟩ = some (.int .u64 0) := (blk_cell BK660.out 0).trans rfl; have hcz14_1 : w12.cell? ⟨gb660, 1, none⟩ = some (.slice none 0 0) := (blk_cell BK660.out 1).trans rfl; have hfz14_0 := blk_frozen BK660.out 0; have hfz14_1 := blk_frozen BK660.out 1; obtain ⟨Ao15, co15, eo15⟩ := Kd.R_slice HO658.out; subst eo15))
  (try simp only [Act.put, List.setIfInBounds_toArray, List.set_cons_zero, List.set_cons_succ])
  go_cut [38] (fun v38 wc => ∃ (kq : Nat) (x38_5 : Bool), v38 = .bool x38_5 ∧ Aside0 (tattlelaw18_LeadOnce.j0 kq l1 l2 (wrap64 (1 + (wrap64 (Int.tmod a0 9)))) x38_5 t649 t650 t655 t656 = some r) ∧ Aside0 (kq ≤ k) ∧ Aside0 (Kd.R (Kd.int .i64) 2 wc w.heap.size (fun _ => True) (.slice Ao10 t650.length co10) t650) ∧ Aside0 (Kd.R (Kd.int .i64) 2 wc w.heap.size (fun k_ => some k_ ≠ ((.slice Ao10 t650.length co10) : Value).ownBlock) (.slice Ao15 t656.length co15) t656) ∧ Aside0 (wc.heap[gb654]? = some (.cells #[.int .u64 t649, (.slice Ao10 t650.length co10)] 52 (0, 0))) ∧ Aside0 (wc.heap[gb660]? = some (.cells #[.int .u64 t655, (.slice Ao15 t656.length co15)] 52 (0, 0))) ∧ Aside0 (Below w.heap.size w wc))
  case first =>
    have H := HC6.out
    clear HC6
    by_cases c16 : t653 = 0
    · rw [if_pos c16] at H
      have c16b0 : (t653 == 0) = true := beq_iff_eq.mpr c16
      have c16b1 : (t653 != 0) = false := bne_eq_false_iff_eq.mpr c16
      clear c16
      (first | rw [c16b0] | (simp only [i64_w, i32_w]; rw [c16b0]) | skip)
      have H' := Aside0.mk H
      clear H
      go_wp2
      go_meet
      case rel => exact ⟨_, ((t659 != 0)), (by first | rfl | (simp; done) | (simp [*]; done)), H', ⟨by first | omega | exact Nat.le_refl _⟩, ⟨by (with_reducible repeat (first | apply Kd.R_alloc | apply Kd.R_drewN | apply Kd.R_drew)); exact Kd.R_mono (Kd.R_far (p := ⟨gb660, 1, none⟩) (Kd.R_far (p := ⟨gb660, 0, none⟩) (Kd.R_types HO652.out BK660.out (by decide)) (fun _ hk => hk.2) (.int .u64 t655)) (fun _ hk => hk.2) (.slice Ao15 t656.length co15)) (fun _ hk => trivial)⟩, ⟨by (with_reducible repeat (first | apply Kd.R_alloc | apply Kd.R_drewN | apply Kd.R_drew)); exact Kd.R_mono (Kd.R_far (p := ⟨gb660, 1, none⟩) (Kd.R_far (p := ⟨gb660, 0, none⟩) (Kd.R_types HO658.out BK660.out (by decide)) (fun _ hk => hk.2) (.int .u64 t655)) (fun _ hk => hk.2) (.slice Ao15 t656.length co15)) (fun _ hk => hk.1.2)⟩, ⟨by (with_reducible repeat (first | refine blk_drewN ?_ _ | refine blk_drew ?_ | refine blk_alloc ?_ _)); refine blk_far ?_ NB654_660.out _; (with_reducible repeat (first | refine blk_drewN ?_ _ | refine blk_drew ?_ | refine blk_alloc ?_ _)); refine blk_far ?_ NB654_660.out _; (with_reducible repeat (first | refine blk_drewN ?_ _ | refine blk_drew ?_ | refine blk_alloc ?_ _)); exact BK654.out⟩, ⟨by (with_reducible repeat (first | refine blk_drewN ?_ _ | refine blk_drew ?_ | refine blk_alloc ?_ _)); refine blk_put (cs := #[.int .u64 t655, .slice none 0 0]) ?_ 1 _ rfl; (with_reducible repeat (first | refine blk_drewN ?_ _ | refine blk_drew ?_ | refine blk_alloc ?_ _)); refine blk_put (cs := #[.int .u64 0, .slice none 0 0]) ?_ 0 _ rfl; (with_reducible repeat (first | refine blk_drewN ?_ _ | refine blk_drew ?_ | refine blk_alloc ?_ _)); exact BK660.out⟩, ⟨by repeat (first | (with_reducible first | exact HB.out | apply below_alloc | apply pw_below_drewN | apply below_drew1 | refine below_set ?_ GE654.out | refine below_set ?_ GE660.out) | exact HB.out)⟩⟩
    · rw [if_neg c16] at H
      have c16b0 : (t653 == 0) = false := beq_eq_false_iff_ne.mpr c16
      have c16b1 : (t653 != 0) = true := bne_iff_ne.mpr c16
      (first | rw [c16b0] | (simp only [i64_w, i32_w]; rw [c16b0]) | skip)
      have H' := Aside0.mk H
      clear H
      go_wp2
      go_meet
      case rel => exact ⟨_, (true), (by first | rfl | (simp; done) | (simp [*]; done)), H', ⟨by first | omega | exact Nat.le_refl _⟩, ⟨by (with_reducible repeat (first | apply Kd.R_alloc | apply Kd.R_drewN | apply Kd.R_drew)); exact Kd.R_mono (Kd.R_far (p := ⟨gb660, 1, none⟩) (Kd.R_far (p := ⟨gb660, 0, none⟩) (Kd.R_types HO652.out BK660.out (by decide)) (fun _ hk => hk.2) (.int .u64 t655)) (fun _ hk => hk.2) (.slice Ao15 t656.length co15)) (fun _ hk => trivial)⟩, ⟨by (with_reducible repeat (first | apply Kd.R_alloc | apply Kd.R_drewN | apply Kd.R_drew)); exact Kd.R_mono (Kd.R_far (p := ⟨gb660, 1, none⟩) (Kd.R_far (p := ⟨gb660, 0, none⟩) (Kd.R_types HO658.out BK660.out (by decide)) (fun _ hk => hk.2) (.int .u64 t655)) (fun _ hk => hk.2) (.slice Ao15 t656.length co15)) (fun _ hk => hk.1.2)⟩, ⟨by (with_reducible repeat (first | refine blk_drewN ?_ _ | refine blk_drew ?_ | refine blk_alloc ?_ _)); refine blk_far ?_ NB654_660.out _; (with_reducible repeat (first | refine blk_drewN ?_ _ | refine blk_drew ?_ | refine blk_alloc ?_ _)); refine blk_far ?_ NB654_660.out _; (with_reducible repeat (first | refine blk_drewN ?_ _ | refine blk_drew ?_ | refine blk_alloc ?_ _)); exact BK654.out⟩, ⟨by (with_reducible repeat (first | refine blk_drewN ?_ _ | refine blk_drew ?_ | refine blk_alloc ?_ _)); refine blk_put (cs := #[.int .u64 t655, .slice none 0 0]) ?_ 1 _ rfl; (with_reducible repeat (first | refine blk_drewN ?_ _ | refine blk_drew ?_ | refine blk_alloc ?_ _)); refine blk_put (cs := #[.int .u64 0, .slice none 0 0]) ?_ 0 _ rfl; (with_reducible repeat (first | refine blk_drewN ?_ _ | refine blk_drew ?_ | refine blk_alloc ?_ _)); exact BK660.out⟩, ⟨by repeat (first | (with_reducible first | exact HB.out | apply below_alloc | apply pw_below_drewN | apply below_drew1 | refine below_set ?_ GE654.out | refine below_set ?_ GE660.out) | exact HB.out)⟩⟩
  case rest =>
    clear HC6
    try clear c1
    try clear c2
    try clear p2
    try clear p6
    try clear c13
    try clear c16
    try clear c16b0
    try clear c16b1
    try clear hcz14_0
    try clear hcz14_1
    try clear hcz9_0
    try clear hcz9_1
    try clear hfz14_0
    try clear hfz14_1
    try clear hfz9_0
    try clear hfz9_1
    obtain ⟨kq, x38_5, rfl, HA, HJ5, HO_655001, HO_661001, BK654, BK660, HB⟩ := hcut
    cases kq with
    | zero => exact absurd HA.out (by simp [tattlelaw18_LeadOnce.j0])
    | succ kj5 =>
      have H := HA.out
      clear HA
      simp only [tattlelaw18_LeadOnce.j0] at H
      by_cases c17 : x38_5 = true
      · subst c17
        have H1 : (some false) = some r := by rw [if_pos rfl] at H; exact H
        clear H
        have H := H1
        clear H1
        exact absurd ((Option.some.inj H).trans hrt.out) (by decide)
      · replace c17 := Bool.eq_false_iff.mpr c17
        subst c17
        have H1 : (tattlelaw18_LeadOnce.l0 kj5 l1 l2 (wrap64 (1 + (wrap64 (Int.tmod a0 9)))) (mn (mn (l1.length : Int) (l2.length : Int)) 20) 0 t649 t650 t655 t656) = some r := by rw [if_neg (show ¬ (false = true) by decide)] at H; exact H
        clear H
        have H := H1
        clear H1
        obtain ⟨ji18, hji18⟩ : ∃ j_ : Int, (mn (l1.length : Int) (l2.length : Int)) = j_ := ⟨_, rfl⟩
        replace H : (tattlelaw18_LeadOnce.l0 kj5 l1 l2 (wrap64 (1 + (wrap64 (Int.tmod a0 9)))) (mn (ji18) 20) 0 t649 t650 t655 t656) = some r := by first | (rw [hji18] at H; exact H) | (simp only [hji18] at H ⊢; exact H)
        have hji18_ : (if (l2.length : Int) < (l1.length : Int) then (l2.length : Int) else (l1.length : Int)) = ji18 := hji18
        have hji18n_ : (if l2.length < l1.length then (l2.length : Int) else (l1.length : Int)) = ji18 := by (rw [← hji18_]; simp only [Int.ofNat_lt])
        obtain ⟨ji19, hji19⟩ : ∃ j_ : Int, (mn (ji18) 20) = j_ := ⟨_, rfl⟩
        replace H : (tattlelaw18_LeadOnce.l0 kj5 l1 l2 (wrap64 (1 + (wrap64 (Int.tmod a0 9)))) ji19 0 t649 t650 t655 t656) = some r := by first | (rw [hji19] at H; exact H) | (simp only [hji19] at H ⊢; exact H)
        have hji19_ : (if 20 < (ji18) then 20 else (ji18)) = ji19 := hji19
        have H' := Aside0.mk H
        clear H
        go_wp2
        go_loopg [13] kj5 (fun kq v13 w' => ∃ (x13_2 : Int) (x655000_2 : Int) (x655001_2 : List Int) (x661000_2 : Int) (x661001_2 : List Int) (u655001 : Value) (u661001 : Value), v13 = .int .i64 x13_2 ∧ Aside0 (tattlelaw18_LeadOnce.l0 kq l1 l2 (wrap64 (1 + (wrap64 (Int.tmod a0 9)))) ji19 x13_2 x655000_2 x655001_2 x661000_2 x661001_2 = some r) ∧ Aside0 (kq ≤ kj5) ∧ Aside0 (Kd.V (Kd.int .i64) 2 w' w.heap.size (fun k_ => k_ ≠ gb654 ∧ k_ ≠ gb660) u655001 x655001_2) ∧ Aside0 (Kd.V (Kd.int .i64) 2 w' w.heap.size (fun k_ => k_ ≠ gb654 ∧ k_ ≠ gb660) u661001 x661001_2) ∧ Aside0 (w'.heap[gb654]? = some (.cells #[.int .u64 x655000_2, u655001] 52 (0, 0))) ∧ Aside0 (w'.heap[gb660]? = some (.cells #[.int .u64 x661000_2, u661001] 52 (0, 0))) ∧ Aside0 (Below w.heap.size w w'))
        case atStart => exact ⟨(0), (t649), (t650), (t655), (t656), (.slice Ao10 t650.length co10), (.slice Ao15 t656.length co15), (by first | rfl | (simp; done) | (simp [*]; done)), H', ⟨Nat.le_refl _⟩, ⟨Kd.R_V (by (with_reducible repeat (first | apply Kd.R_alloc | apply Kd.R_drewN | apply Kd.R_drew)); exact Kd.R_mono (Kd.R_types (Kd.R_types HO_655001.out BK654.out (by decide)) BK660.out (by decide)) (fun _ hk => ⟨hk.1.2, hk.2⟩))⟩, ⟨Kd.R_V (by (with_reducible repeat (first | apply Kd.R_alloc | apply Kd.R_drewN | apply Kd.R_drew)); exact Kd.R_mono (Kd.R_types (Kd.R_types HO_661001.out BK654.out (by decide)) BK660.out (by decide)) (fun _ hk => ⟨hk.1.2, hk.2⟩))⟩, ⟨by (with_reducible repeat (first | refine blk_drewN ?_ _ | refine blk_drew ?_ | refine blk_alloc ?_ _)); exact BK654.out⟩, ⟨by (with_reducible repeat (first | refine blk_drewN ?_ _ | refine blk_drew ?_ | refine blk_alloc ?_ _)); exact BK660.out⟩, ⟨by repeat (first | (with_reducible first | exact HB.out | apply below_alloc | apply pw_below_drewN | apply below_drew1 | refine below_set ?_ GE654.out | refine below_set ?_ GE660.out) | exact HB.out)⟩⟩
        case round =>
          clear H'
          try clear c1
          try clear c2
          try clear p2
          try clear p6
          try clear c13
          try clear c16
          try clear c16b0
          try clear c16b1
          try clear c17
          try clear hcz14_0
          try clear hcz14_1
          try clear hcz9_0
          try clear hcz9_1
          try clear hfz14_0
          try clear hfz14_1
          try clear hfz9_0
          try clear hfz9_1
          try clear p2
          try clear p6
          obtain ⟨x13_2, x655000_2, x655001_2, x661000_2, x661001_2, u655001, u661001, rfl, HA, HK2, HO_655001, HO_661001, BK654, BK660, HB⟩ := hrel
          cases gk with
          | zero => exact absurd HA.out (by simp [tattlelaw18_LeadOnce.l0])
          | succ k2 =>
            have H := HA.out
            clear HA
            simp only [tattlelaw18_LeadOnce.l0] at H
            by_cases c20 : x13_2 < ji19
            · rw [if_pos c20] at H
              have c20b0 : decide (x13_2 < ji19) = true := decide_eq_true c20
              clear c20
              have H' := Aside0.mk H
              clear H
              go_wp2
              go_loopg [14] k2 (fun kq v14 w' => ∃ (x14_3 : Int) (x655000_3 : Int) (x655001_3 : List Int) (u655001 : Value), v14 = .int .i64 x14_3 ∧ Aside0 (tattlelaw18_LeadOnce.l1 kq l1 l2 (wrap64 (1 + (wrap64 (Int.tmod a0 9)))) ji19 x13_2 x14_3 x655000_3 x655001_3 x661000_2 x661001_2 = some r) ∧ Aside0 (kq ≤ k2) ∧ Aside0 (Kd.V (Kd.int .i64) 2 w' w.heap.size (fun k_ => k_ ≠ gb654 ∧ k_ ≠ gb660) u655001 x655001_3) ∧ Aside0 (Kd.V (Kd.int .i64) 2 w' w.heap.size (fun k_ => k_ ≠ gb654 ∧ k_ ≠ gb660) u661001 x661001_2) ∧ Aside0 (w'.heap[gb654]? = some (.cells #[.int .u64 x655000_3, u655001] 52 (0, 0))) ∧ Aside0 (w'.heap[gb660]? = some (.cells #[.int .u64 x661000_2, u661001] 52 (0, 0))) ∧ Aside0 (Below w.heap.size w w'))
              case atStart => exact ⟨(0), (x655000_2), (x655001_2), (u655001), (by first | rfl | (simp; done) | (simp [*]; done)), H', ⟨Nat.le_refl _⟩, ⟨by (with_reducible repeat (first | apply Kd.V_alloc | apply Kd.V_drewN | apply Kd.V_drew)); exact HO_655001.out⟩, ⟨by (with_reducible repeat (first | apply Kd.V_alloc | apply Kd.V_drewN | apply Kd.V_drew)); exact HO_661001.out⟩, ⟨by (with_reducible repeat (first | refine blk_drewN ?_ _ | refine blk_drew ?_ | refine blk_alloc ?_ _)); exact BK654.out⟩, ⟨by (with_reducible repeat (first | refine blk_drewN ?_ _ | refine blk_drew ?_ | refine blk_alloc ?_ _)); exact BK660.out⟩, ⟨by repeat (first | (with_reducible first | exact HB.out | apply below_alloc | apply pw_below_drewN | apply below_drew1 | refine below_set ?_ GE654.out | refine below_set ?_ GE660.out) | exact HB.out)⟩⟩
              case round =>
                clear H'
                try clear c1
                try clear c2
                try clear p2
                try clear p6
                try clear c13
                try clear c16
                try clear c16b0
                try clear c16b1
                try clear c17
                try clear c20
                try clear c20b0
                try clear hcz14_0
                try clear hcz14_1
                try clear hcz9_0
                try clear hcz9_1
                try clear hfz14_0
                try clear hfz14_1
                try clear hfz9_0
                try clear hfz9_1
                try clear p2
                try clear p6
                obtain ⟨x14_3, x655000_3, x655001_3, u655001, rfl, HA, HK3, HO_655001, HO_661001, BK654, BK660, HB⟩ := hrel
                cases gk with
                | zero => exact absurd HA.out (by simp [tattlelaw18_LeadOnce.l1])
                | succ k3 =>
                  have H := HA.out
                  clear HA
                  simp only [tattlelaw18_LeadOnce.l1] at H
                  by_cases c21 : x14_3 < 2
                  · rw [if_pos c21] at H
                    have c21b0 : decide (x14_3 < 2) = true := decide_eq_true c21
                    clear c21
                    by_cases c22 : 0 ≤ x13_2
                    · rw [if_pos c22] at H
                      have c22b0 : decide (0 ≤ x13_2) = true := decide_eq_true c22
                      clear c22
                      by_cases c23 : x13_2 < (l1.length : Int)
                      · rw [if_pos c23] at H
                        have c23b0 : decide (x13_2 < (l1.length : Int)) = true := decide_eq_true c23
                        clear c23
                        by_cases c24 : (wrap64 (1 + (wrap64 (Int.tmod a0 9)))) = 0
                        · rw [if_pos c24] at H
                          exact absurd H (by simp)
                        · rw [if_neg c24] at H
                          have c24b0 : ((wrap64 (1 + (wrap64 (Int.tmod a0 9)))) == 0) = false := beq_eq_false_iff_ne.mpr c24
                          have c24b1 : ((wrap64 (1 + (wrap64 (Int.tmod a0 9)))) != 0) = true := bne_iff_ne.mpr c24
                          by_cases c25 : x13_2 < (l2.length : Int)
                          · rw [if_pos c25] at H
                            have c25b0 : decide (x13_2 < (l2.length : Int)) = true := decide_eq_true c25
                            clear c25
                            replace H := Option.bind_eq_some_iff.mp H
                            obtain ⟨⟨t666, t667, t670⟩, A260, H⟩ := H
                            replace H : (if t670 = 0 then (tattlelaw18_LeadOnce.l1 k3 l1 l2 (wrap64 (1 + (wrap64 (Int.tmod a0 9)))) ji19 x13_2 (wrap64 (x14_3 + 1)) t666 t667 x661000_2 x661001_2) else (some false)) = some r := H
                            have A26 := Aside0.mk A260
                            clear A260
                            by_cases c27 : t670 = 0
                            · rw [if_pos c27] at H
                              have c27b0 : (t670 == 0) = true := beq_iff_eq.mpr c27
                              have c27b1 : (t670 != 0) = false := bne_eq_false_iff_eq.mpr c27
                              clear c27
                              have H' := Aside0.mk H
                              clear H
                              obtain ⟨Ao28, co28, eo28⟩ := Kd.V_slice HO_655001.out
                              subst eo28
                              try go_wp2
                              have n0_ := Aside0.mk (Kd.V_drew HO_655001.out)
                              have n1_ := Aside0.mk (Kd.V_drew HO_661001.out)
                              have n2_ := Aside0.mk (blk_drew BK654.out)
                              have n3_ := Aside0.mk (blk_drew BK660.out)
                              have n4_ := Aside0.mk (below_drew1 HB.out)
                              clear HO_655001
                              clear HO_661001
                              clear BK654
                              clear BK660
                              clear HB
                              have HO_655001 := n0_
                              have HO_661001 := n1_
                              have BK654 := n2_
                              have BK660 := n3_
                              have HB := n4_
                              clear n0_ n1_ n2_ n3_ n4_
                              have p664 : 0 ≤ (x13_2 : Int) := of_decide_eq_true (by first | (with_reducible assumption) | assumption)
                              have q664 : x13_2 < (l1.length : Int) := of_decide_eq_true (by first | (with_reducible assumption) | assumption)
                              obtain ⟨ad664, e664, hx664_0⟩ := Kd.at_int HR1.out x13_2 p664 q664
                              have hw664_0 := hx664_0
                              cases e664
                              replace hx664_0 := (HB.out.cell (World.block_lt_of_cell? w _ hx664_0)).trans hx664_0
                              replace p664 := eq_true p664
                              replace q664 := eq_true q664
                              have p665 : 0 ≤ (x13_2 : Int) := of_decide_eq_true (by first | (with_reducible assumption) | assumption)
                              have q665 : x13_2 < (l2.length : Int) := of_decide_eq_true (by first | (with_reducible assumption) | assumption)
                              obtain ⟨ad665, e665, hx665_0⟩ := Kd.at_int HR2.out x13_2 p665 q665
                              have hw665_0 := hx665_0
                              cases e665
                              replace hx665_0 := (HB.out.cell (World.block_lt_of_cell? w _ hx665_0)).trans hx665_0
                              replace p665 := eq_true p665
                              replace q665 := eq_true q665
                              refine start_ (n := 20) (S := fun w' => w'.cell? ⟨gb654, 0, none⟩ = some (.int .u64 x655000_3) ∧ w'.cell? ⟨gb654, 1, none⟩ = some (.slice Ao28 x655001_3.length co28) ∧ w'.cell? (ad664.add (x13_2).toNat) = some (.int .u8 (rd l1 x13_2)) ∧ w'.cell? (ad665.add (x13_2).toNat) = some (.int .u16 (rd l2 x13_2))) (ds := []) #[false, false, false, false, false, false, false, false, false, false, false, false, false, false, false, false, false, false, false, false] (by kernel_rfl) rfl rfl ⟨(blk_cell BK654.out 0).trans rfl, (blk_cell BK654.out 1).trans rfl, ((HB.out.cell (World.block_lt_of_cell? w _ hw664_0)).trans hw664_0), ((HB.out.cell (World.block_lt_of_cell? w _ hw665_0)).trans hw665_0)⟩ (fun hHeld => ?_); refine with_tabW tattlelaw18_LeadOnce.tab13 tattlelaw18_LeadOnce.bits13 (fun HT_ HW_ => ?_)
                              generalize wr.drew = w29 at HO_655001 HO_661001 BK654 BK660 HB hx664_0 hx665_0 hHeld ⊢
                              refine pure_ (i := 1) (N := some 55) (v := ?_) (a' := ?_) #[false, true, false, false, false, false, false, false, false, false, false, false, false, false, false, false, false, false, false, false] rfl rfl (any_of HT_.out (by kernel_rfl)) (fun _ _ _ h => h) (Or.inl ⟨by rfl, ?_⟩) ?_ ?_
                              rotate_left
                              · intro w'
                                go_simp
                                with_reducible rfl
                              rotate_left
                              · simp only [Act.put, List.setIfInBounds_toArray, List.set_cons_zero, List.set_cons_succ, i64_w, i32_w]
                                rfl
                              refine pure_ (i := 2) (N := some 56) (v := ?_) (a' := ?_) #[false, true, true, false, false, false, false, false, false, false, false, false, false, false, false, false, false, false, false, false] rfl rfl (any_of HT_.out (by kernel_rfl)) (fun _ _ _ h => h) (Or.inl ⟨by rfl, ?_⟩) ?_ ?_
                              rotate_left
                              · intro w'
                                go_simp
                                with_reducible rfl
                              rotate_left
                              · simp only [Act.put, List.setIfInBounds_toArray, List.set_cons_zero, List.set_cons_succ, i64_w, i32_w]
                                rfl
                              refine pure_ (i := 3) (N := some 57) (v := ?_) (a' := ?_) #[false, true, true, true, false, false, false, false, false, false, false, false, false, false, false, false, false, false, false, false] rfl rfl (any_of HT_.out (by kernel_rfl)) (fun _ _ _ h => h) (Or.inl ⟨by rfl, ?_⟩) ?_ ?_
                              rotate_left
                              · intro w'
                                go_simp
                                with_reducible rfl
                              rotate_left
                              · simp only [Act.put, List.setIfInBounds_toArray, List.set_cons_zero, List.set_cons_succ, i64_w, i32_w]
                                rfl
                              refine pure_ (i := 6) (N := some 60) (v := ?_) (a' := ?_) #[false, true, true, true, false, false, true, false, false, false, false, false, false, false, false, false, false, false, false, false] rfl rfl (any_of HT_.out (by kernel_rfl)) (fun _ _ _ h => h) (Or.inl ⟨by rfl, ?_⟩) ?_ ?_
                              rotate_left
                              · intro w'
                                go_simp
                                with_reducible rfl
                              rotate_left
                              · simp only [Act.put, List.setIfInBounds_toArray, List.set_cons_zero, List.set_cons_succ, i64_w, i32_w]
                                rfl
                              refine pure_ (i := 8) (N := some 62) (v := ?_) (a' := ?_) #[false, true, true, true, false, false, true, false, true, false, false, false, false, false, false, false, false, false, false, false] rfl rfl (any_of HT_.out (by kernel_rfl)) (fun _ _ _ h => h) (Or.inl ⟨by rfl, ?_⟩) ?_ ?_
                              rotate_left
                              · intro w'
                                go_simp
                                with_reducible rfl
                              rotate_left
                              · simp only [Act.put, List.setIfInBounds_toArray, List.set_cons_zero, List.set_cons_succ, i64_w, i32_w]
                                rfl
                              refine pure_ (i := 9) (N := some 63) (v := ?_) (a' := ?_) #[false, true, true, true, false, false, true, false, true, true, false, false, false, false, false, false, false, false, false, false] rfl rfl (any_of HT_.out (by kernel_rfl)) (fun _ _ _ h => h) (Or.inl ⟨by rfl, ?_⟩) ?_ ?_
                              rotate_left
                              · intro w'
                                go_simp
                                with_reducible rfl
                              rotate_left
                              · simp only [Act.put, List.setIfInBounds_toArray, List.set_cons_zero, List.set_cons_succ, i64_w, i32_w]
                                rfl
                              refine pure_ (i := 10) (N := some 64) (v := ?_) (a' := ?_) #[false, true, true, true, false, false, true, false, true, true, true, false, false, false, false, false, false, false, false, false] rfl rfl (any_of HT_.out (by kernel_rfl)) (fun _ _ _ h => h) (Or.inl ⟨by rfl, ?_⟩) ?_ ?_
                              rotate_left
                              · intro w'
                                go_simp
                                with_reducible rfl
                              rotate_left
                              · simp only [Act.put, List.setIfInBounds_toArray, List.set_cons_zero, List.set_cons_succ, i64_w, i32_w]
                                rfl
                              refine take_ (i := 0) (N := some 54) (v := ?_) (a' := ?_) #[true, true, true, true, false, false, true, false, true, true, true, false, false, false, false, false, false, false, false, false] rfl rfl (take_ofW HT_.out HW_.out (by kernel_rfl)) (fun _ _ _ h => h) (Or.inl ⟨by rfl, ?_⟩) hHeld ?_ ?_
                              rotate_left
                              · rintro w' ⟨s0, s1, s2, s3⟩
                                go_simp
                                with_reducible rfl
                              rotate_left
                              · simp only [Act.put, List.setIfInBounds_toArray, List.set_cons_zero, List.set_cons_succ, i64_w, i32_w]
                                rfl
                              refine take_ (i := 4) (N := some 58) (v := ?_) (a' := ?_) #[true, true, true, true, true, false, true, false, true, true, true, false, false, false, false, false, false, false, false, false] rfl rfl (take_ofW HT_.out HW_.out (by kernel_rfl)) (fun _ _ _ h => h) (Or.inl ⟨by rfl, ?_⟩) hHeld ?_ ?_
                              rotate_left
                              · rintro w' ⟨s0, s1, s2, s3⟩
                                go_simp
                                with_reducible rfl
                              rotate_left
                              · simp only [Act.put, List.setIfInBounds_toArray, List.set_cons_zero, List.set_cons_succ, i64_w, i32_w]
                                rfl
                              refine pure_ (i := 5) (N := some 59) (v := ?_) (a' := ?_) #[true, true, true, true, true, true, true, false, true, true, true, false, false, false, false, false, false, false, false, false] rfl rfl (any_of HT_.out (by kernel_rfl)) (fun _ _ _ h => h) (Or.inl ⟨by rfl, ?_⟩) ?_ ?_
                              rotate_left
                              · intro w'
                                go_simp
                                with_reducible rfl
                              rotate_left
                              · simp only [Act.put, List.setIfInBounds_toArray, List.set_cons_zero, List.set_cons_succ, i64_w, i32_w]
                                rfl
                              refine pure_ (i := 7) (N := some 61) (v := ?_) (a' := ?_) #[true, true, true, true, true, true, true, true, true, true, true, false, false, false, false, false, false, false, false, false] rfl rfl (any_of HT_.out (by kernel_rfl)) (fun _ _ _ h => h) (Or.inl ⟨by rfl, ?_⟩) ?_ ?_
                              rotate_left
                              · intro w'
                                go_simp
                                with_reducible rfl
                              rotate_left
                              · simp only [Act.put, List.setIfInBounds_toArray, List.set_cons_zero, List.set_cons_succ, i64_w, i32_w]
                                rfl
                              refine take_ (i := 11) (N := some 65) (v := ?_) (a' := ?_) #[true, true, true, true, true, true, true, true, true, true, true, true, false, false, false, false, false, false, false, false] rfl rfl (take_ofW HT_.out HW_.out (by kernel_rfl)) (fun _ _ _ h => h) (Or.inl ⟨by rfl, ?_⟩) hHeld ?_ ?_
                              rotate_left
                              · rintro w' ⟨s0, s1, s2, s3⟩
                                go_simp
                                with_reducible rfl
                              rotate_left
                              · simp only [Act.put, List.setIfInBounds_toArray, List.set_cons_zero, List.set_cons_succ, i64_w, i32_w]
                                rfl
                              refine pure_ (i := 12) (N := some 66) (v := ?_) (a' := ?_) #[true, true, true, true, true, true, true, true, true, true, true, true, true, false, false, false, false, false, false, false] rfl rfl (any_of HT_.out (by kernel_rfl)) (fun _ _ _ h => h) (Or.inl ⟨by rfl, ?_⟩) ?_ ?_
                              rotate_left
                              · intro w'
                                go_simp
                                with_reducible rfl
                              rotate_left
                              · simp only [Act.put, List.setIfInBounds_toArray, List.set_cons_zero, List.set_cons_succ, i64_w, i32_w]
                                rfl
                              refine join_ (σ := Value × Nat) 2 #[true, true, true, true, true, true, true, true, true, true, true, true, true, true, true, true, true, true, false, false] (fun s_ => [(67, .tuple #[.agg #[.int .u64 t666, s_.1], .int .i64 t670]), (15, .pointer (some ⟨s_.2, 0, none⟩)), (53, .tuple #[.agg #[.int .u64 t666, s_.1], .int .i64 t670]), (68, .agg #[.int .u64 t666, s_.1]), (69, .int .i64 t670)]) (fun s_ w' => (w'.cell? ⟨gb654, 0, none⟩ = some (.int .u64 x655000_3) ∧ w'.cell? ⟨gb654, 1, none⟩ = some (.slice Ao28 x655001_3.length co28) ∧ w'.cell? (ad664.add (x13_2).toNat) = some (.int .u8 (rd l1 x13_2)) ∧ w'.cell? (ad665.add (x13_2).toNat) = some (.int .u16 (rd l2 x13_2))) ∧ (Kd.V (Kd.int .i64) 2 w' w.heap.size (fun k_ => k_ ≠ gb654 ∧ k_ ≠ gb660 ∧ k_ ≠ s_.2) s_.1 t667) ∧ (Kd.V (Kd.int .i64) 2 w' w.heap.size (fun k_ => k_ ≠ gb654 ∧ k_ ≠ gb660 ∧ k_ ≠ s_.2) (.slice Ao28 x655001_3.length co28) x655001_3) ∧ (Kd.V (Kd.int .i64) 2 w' w.heap.size (fun k_ => k_ ≠ gb654 ∧ k_ ≠ gb660 ∧ k_ ≠ s_.2) u661001 x661001_2) ∧ (w'.heap[gb654]? = some (.cells #[.int .u64 x655000_3, .slice Ao28 x655001_3.length co28] 52 (0, 0))) ∧ (w'.heap[gb660]? = some (.cells #[.int .u64 x661000_2, u661001] 52 (0, 0))) ∧ (w'.heap[s_.2]? = some (.cells #[.int .u64 0, .slice none 0 0] 52 (0, 0))) ∧ (w.heap.size ≤ s_.2) ∧ (w.heap.size ≤ s_.2) ∧ (gb654 ≠ s_.2) ∧ (s_.2 ≠ gb654) ∧ (gb660 ≠ s_.2) ∧ (s_.2 ≠ gb660) ∧ (Below w.heap.size w w')) ?_ ?_
                              rotate_left
                              · intro hCont
                                refine two_ (i := 13) (j := 17) (Ni := some 67) (Nj := some 15) #[true, true, true, true, true, true, true, true, true, true, true, true, true, true, false, false, false, false, false, false] #[true, true, true, true, true, true, true, true, true, true, true, true, true, false, false, false, false, true, false, false] rfl rfl rfl rfl (two_of HT_.out (by kernel_rfl)) (by decide) (by decide) (fun K hK => ?_) (fun K hK => ?_)
                                · skip
                                  refine goes_ Try.func22 (by kernel_rfl) rfl #[.agg #[.int .u64 x655000_3, .slice Ao28 x655001_3.length co28], .int .i64 (Int.tmod (wrap64 (rd l1 x13_2)) (wrap64 (1 + (wrap64 (Int.tmod a0 9))))), .int .u64 0, .int .i64 (wrap64 (rd l2 x13_2))] (by rfl) rfl rfl (by (try simp only [List.map_toArray, List.map_cons, List.map_nil]); first | done | rfl | (simp only [List.length_drop, List.length_take]; rfl)) ?_
                                  with_reducible refine (lead_Granted.calls k3 x655000_3 (fun k_ => (k_ ≠ gb654 ∧ k_ ≠ gb660)) _ _ x655001_3 (Int.tmod (wrap64 (rd l1 x13_2)) (wrap64 (1 + (wrap64 (Int.tmod a0 9))))) 0 (wrap64 (rd l2 x13_2)) t666 t667 t670 _ ?side1 A26.out).mono ?_
                                  (case side1 => exact HO_655001.out)
                                  rintro e w30 ⟨v668, rfl, ho0, hb⟩
                                  refine ⟨_, rfl, ?_⟩
                                  have n0_ := Aside0.mk (Kd.V_below (by (with_reducible repeat (first | apply Kd.V_alloc | apply Kd.V_drewN | apply Kd.V_drew)); exact HO_655001.out) hb)
                                  have n1_ := Aside0.mk (Kd.V_below (by (with_reducible repeat (first | apply Kd.V_alloc | apply Kd.V_drewN | apply Kd.V_drew)); exact HO_661001.out) hb)
                                  have n2_ := Aside0.mk (Kd.V_lower (Kd.V_mono (ok' := fun k_ => k_ ≠ gb654 ∧ k_ ≠ gb660) ho0 (fun k_ hk_ => ⟨Or.elim hk_ (fun hs_ => hs_.1) (fun hn_ => (Kd.freshB (g := gb654) (o := .cells #[.int .u64 x655000_3, .slice Ao28 x655001_3.length co28] 52 (0, 0)) (by (with_reducible repeat (first | refine blk_drewN ?_ _ | refine blk_drew ?_ | refine blk_alloc ?_ _)); exact BK654.out) k_ hn_)), Or.elim hk_ (fun hs_ => hs_.2) (fun hn_ => (Kd.freshB (g := gb660) (o := .cells #[.int .u64 x661000_2, u661001] 52 (0, 0)) (by (with_reducible repeat (first | refine blk_drewN ?_ _ | refine blk_drew ?_ | refine blk_alloc ?_ _)); exact BK660.out) k_ hn_))⟩)) (below_size (by repeat (first | (with_reducible first | exact HB.out | apply below_alloc | apply pw_below_drewN | apply below_drew1 | refine below_set ?_ GE654.out | refine below_set ?_ GE660.out) | exact HB.out))))
                                  have n3_ := Aside0.mk (blk_below (g := gb654) (o := .cells #[.int .u64 x655000_3, .slice Ao28 x655001_3.length co28] 52 (0, 0)) (by (with_reducible repeat (first | refine blk_drewN ?_ _ | refine blk_drew ?_ | refine blk_alloc ?_ _)); exact BK654.out) hb)
                                  have n4_ := Aside0.mk (blk_below (g := gb660) (o := .cells #[.int .u64 x661000_2, u661001] 52 (0, 0)) (by (with_reducible repeat (first | refine blk_drewN ?_ _ | refine blk_drew ?_ | refine blk_alloc ?_ _)); exact BK660.out) hb)
                                  have n5_ := Aside0.mk (below_step (by repeat (first | (with_reducible first | exact HB.out | apply below_alloc | apply pw_below_drewN | apply below_drew1 | refine below_set ?_ GE654.out | refine below_set ?_ GE660.out) | exact HB.out)) hb)
                                  clear HO_655001
                                  clear HO_661001
                                  clear BK654
                                  clear BK660
                                  clear HB
                                  have HO_655001 := n0_
                                  have HO_661001 := n1_
                                  have HO669 := n2_
                                  have BK654 := n3_
                                  have BK660 := n4_
                                  have HB := n5_
                                  clear n0_ n1_ n2_ n3_ n4_ n5_
                                  (try clear hb)
                                  (try clear hb2)
                                  (try clear hk)
                                  (try clear hi)
                                  (try clear ho0)
                                  refine hK.out _ _ ⟨(blk_cell BK654.out 0).trans rfl, (blk_cell BK654.out 1).trans rfl, ((HB.out.cell (World.block_lt_of_cell? w _ hw664_0)).trans hw664_0), ((HB.out.cell (World.block_lt_of_cell? w _ hw665_0)).trans hw665_0)⟩ (fun hHeld => ?_)
                                  clear hK K
                                  refine norm_ (a' := ?_) ?_ ?_
                                  rotate_left
                                  · show Act.put _ (some 67) _ = _
                                    simp only [Act.put, List.setIfInBounds_toArray, List.set_cons_zero, List.set_cons_succ, i64_w, i32_w]
                                    rfl
                                  refine pure_ (i := 14) (N := some 53) (v := ?_) (a' := ?_) #[true, true, true, true, true, true, true, true, true, true, true, true, true, true, true, false, false, false, false, false] rfl rfl (any_of HT_.out (by kernel_rfl)) (fun _ _ _ h => h) (Or.inl ⟨by rfl, ?_⟩) ?_ ?_
                                  rotate_left
                                  · intro w'
                                    go_simp
                                    with_reducible rfl
                                  rotate_left
                                  · simp only [Act.put, List.setIfInBounds_toArray, List.set_cons_zero, List.set_cons_succ, i64_w, i32_w]
                                    rfl
                                  refine pure_ (i := 15) (N := some 68) (v := ?_) (a' := ?_) #[true, true, true, true, true, true, true, true, true, true, true, true, true, true, true, true, false, false, false, false] rfl rfl (any_of HT_.out (by kernel_rfl)) (fun _ _ _ h => h) (Or.inl ⟨by rfl, ?_⟩) ?_ ?_
                                  rotate_left
                                  · intro w'
                                    go_simp
                                    with_reducible rfl
                                  rotate_left
                                  · simp only [Act.put, List.setIfInBounds_toArray, List.set_cons_zero, List.set_cons_succ, i64_w, i32_w]
                                    rfl
                                  refine pure_ (i := 16) (N := some 69) (v := ?_) (a' := ?_) #[true, true, true, true, true, true, true, true, true, true, true, true, true, true, true, true, true, false, false, false] rfl rfl (any_of HT_.out (by kernel_rfl)) (fun _ _ _ h => h) (Or.inl ⟨by rfl, ?_⟩) ?_ ?_
                                  rotate_left
                                  · intro w'
                                    go_simp
                                    with_reducible rfl
                                  rotate_left
                                  · simp only [Act.put, List.setIfInBounds_toArray, List.set_cons_zero, List.set_cons_succ, i64_w, i32_w]
                                    rfl
                                  refine one_ (i := 17) (N := some 15) #[true, true, true, true, true, true, true, true, true, true, true, true, true, true, true, true, true, true, false, false] rfl rfl (one_of HT_.out (by kernel_rfl)) (by decide) (fun K hK => ?_)
                                  refine box_step ?hg (N := 15) ?hd (cs := #[.int .u64 0, .slice none 0 0]) (t := 52) ?hr ?_; (case hd => rfl); (case hg => rfl); (case hr => first | (go_simp; done) | (go_simp; rfl))
                                  intro gb671 hg w31 hbox hb
                                  have n0_ := Aside0.mk (Kd.V_below (Kd.V_elderB (by (with_reducible repeat (first | apply Kd.V_alloc | apply Kd.V_drewN | apply Kd.V_drew)); exact HO_655001.out) gb671 (Nat.le_of_eq hg.symm)) hb)
                                  have n1_ := Aside0.mk (Kd.V_below (Kd.V_elderB (by (with_reducible repeat (first | apply Kd.V_alloc | apply Kd.V_drewN | apply Kd.V_drew)); exact HO_661001.out) gb671 (Nat.le_of_eq hg.symm)) hb)
                                  have n2_ := Aside0.mk (Kd.V_below (Kd.V_elderB (by (with_reducible repeat (first | apply Kd.V_alloc | apply Kd.V_drewN | apply Kd.V_drew)); exact HO669.out) gb671 (Nat.le_of_eq hg.symm)) hb)
                                  have n3_ := Aside0.mk (blk_below (g := gb654) (o := .cells #[.int .u64 x655000_3, .slice Ao28 x655001_3.length co28] 52 (0, 0)) (by (with_reducible repeat (first | refine blk_drewN ?_ _ | refine blk_drew ?_ | refine blk_alloc ?_ _)); exact BK654.out) hb)
                                  have n4_ := Aside0.mk (blk_below (g := gb660) (o := .cells #[.int .u64 x661000_2, u661001] 52 (0, 0)) (by (with_reducible repeat (first | refine blk_drewN ?_ _ | refine blk_drew ?_ | refine blk_alloc ?_ _)); exact BK660.out) hb)
                                  have n5_ := Aside0.mk (below_step (by repeat (first | (with_reducible first | exact HB.out | apply below_alloc | apply pw_below_drewN | apply below_drew1 | refine below_set ?_ GE654.out | refine below_set ?_ GE660.out) | exact HB.out)) hb)
                                  have n6_ := Aside0.mk (hbox)
                                  have n7_ := Aside0.mk ((by rw [hg]; exact (below_size (by repeat (first | (with_reducible first | exact HB.out | apply below_alloc | apply pw_below_drewN | apply below_drew1 | refine below_set ?_ GE654.out | refine below_set ?_ GE660.out) | exact HB.out))) : w.heap.size ≤ gb671))
                                  have n8_ := Aside0.mk ((by rw [hg]; exact (below_size (by repeat (first | (with_reducible first | exact HB.out | apply below_alloc | apply pw_below_drewN | apply below_drew1 | refine below_set ?_ GE654.out | refine below_set ?_ GE660.out) | exact HB.out))) : w.heap.size ≤ gb671))
                                  have n9_ := Aside0.mk ((by rw [hg]; exact Nat.ne_of_lt (blk_lt (g := gb654) (o := .cells #[.int .u64 x655000_3, .slice Ao28 x655001_3.length co28] 52 (0, 0)) (by (with_reducible repeat (first | refine blk_drewN ?_ _ | refine blk_drew ?_ | refine blk_alloc ?_ _)); exact BK654.out)) : gb654 ≠ gb671))
                                  have n10_ := Aside0.mk ((by rw [hg]; exact Nat.ne_of_gt (blk_lt (g := gb654) (o := .cells #[.int .u64 x655000_3, .slice Ao28 x655001_3.length co28] 52 (0, 0)) (by (with_reducible repeat (first | refine blk_drewN ?_ _ | refine blk_drew ?_ | refine blk_alloc ?_ _)); exact BK654.out)) : gb671 ≠ gb654))
                                  have n11_ := Aside0.mk ((by rw [hg]; exact Nat.ne_of_lt (blk_lt (g := gb660) (o := .cells #[.int .u64 x661000_2, u661001] 52 (0, 0)) (by (with_reducible repeat (first | refine blk_drewN ?_ _ | refine blk_drew ?_ | refine blk_alloc ?_ _)); exact BK660.out)) : gb660 ≠ gb671))
                                  have n12_ := Aside0.mk ((by rw [hg]; exact Nat.ne_of_gt (blk_lt (g := gb660) (o := .cells #[.int .u64 x661000_2, u661001] 52 (0, 0)) (by (with_reducible repeat (first | refine blk_drewN ?_ _ | refine blk_drew ?_ | refine blk_alloc ?_ _)); exact BK660.out)) : gb671 ≠ gb660))
                                  clear HO_655001
                                  clear HO_661001
                                  clear HO669
                                  clear BK654
                                  clear BK660
                                  clear HB
                                  have HO_655001 := n0_
                                  have HO_661001 := n1_
                                  have HO669 := n2_
                                  have BK654 := n3_
                                  have BK660 := n4_
                                  have HB := n5_
                                  have BK671 := n6_
                                  have GW671 := n7_
                                  have GE671 := n8_
                                  have NB654_671 := n9_
                                  have NB671_654 := n10_
                                  have NB660_671 := n11_
                                  have NB671_660 := n12_
                                  clear n0_ n1_ n2_ n3_ n4_ n5_ n6_ n7_ n8_ n9_ n10_ n11_ n12_
                                  clear hb hbox hg
                                  refine hK.out _ _ ⟨(blk_cell BK654.out 0).trans rfl, (blk_cell BK654.out 1).trans rfl, ((HB.out.cell (World.block_lt_of_cell? w _ hw664_0)).trans hw664_0), ((HB.out.cell (World.block_lt_of_cell? w _ hw665_0)).trans hw665_0)⟩ (fun hHeld => ?_)
                                  clear hK K
                                  refine norm_ (a' := ?_) ?_ ?_
                                  rotate_left
                                  · show Act.put _ (some 15) _ = _
                                    simp only [Act.put, List.setIfInBounds_toArray, List.set_cons_zero, List.set_cons_succ, i64_w, i32_w]
                                    rfl
                                  exact norm_ (by simp only [putAll, Act.put, List.setIfInBounds_toArray, List.set_cons_zero, List.set_cons_succ]) (hCont (v668, gb671) _ ⟨hHeld, (by (with_reducible repeat (first | apply Kd.V_alloc | apply Kd.V_drewN | apply Kd.V_drew)); exact Kd.V_mono HO669.out (fun _ hk => ⟨hk.1.1, ⟨hk.1.2, hk.2⟩⟩)), (by (with_reducible repeat (first | apply Kd.V_alloc | apply Kd.V_drewN | apply Kd.V_drew)); exact Kd.V_mono HO_655001.out (fun _ hk => ⟨hk.1.1, ⟨hk.1.2, hk.2⟩⟩)), (by (with_reducible repeat (first | apply Kd.V_alloc | apply Kd.V_drewN | apply Kd.V_drew)); exact Kd.V_mono HO_661001.out (fun _ hk => ⟨hk.1.1, ⟨hk.1.2, hk.2⟩⟩)), (by (with_reducible repeat (first | refine blk_drewN ?_ _ | refine blk_drew ?_ | refine blk_alloc ?_ _)); exact BK654.out), (by (with_reducible repeat (first | refine blk_drewN ?_ _ | refine blk_drew ?_ | refine blk_alloc ?_ _)); exact BK660.out), (by (with_reducible repeat (first | refine blk_drewN ?_ _ | refine blk_drew ?_ | refine blk_alloc ?_ _)); exact BK671.out), GW671.out, GE671.out, NB654_671.out, NB671_654.out, NB660_671.out, NB671_660.out, (by repeat (first | (with_reducible first | exact HB.out | apply below_alloc | apply pw_below_drewN | apply below_drew1 | refine below_set ?_ GE654.out | refine below_set ?_ GE660.out | refine below_set ?_ GE671.out) | exact HB.out))⟩)
                                · skip
                                  refine box_step ?hg (N := 15) ?hd (cs := #[.int .u64 0, .slice none 0 0]) (t := 52) ?hr ?_; (case hd => rfl); (case hg => rfl); (case hr => first | (go_simp; done) | (go_simp; rfl))
                                  intro gb671 hg w30 hbox hb
                                  have n0_ := Aside0.mk (Kd.V_below (Kd.V_elderB (by (with_reducible repeat (first | apply Kd.V_alloc | apply Kd.V_drewN | apply Kd.V_drew)); exact HO_655001.out) gb671 (Nat.le_of_eq hg.symm)) hb)
                                  have n1_ := Aside0.mk (Kd.V_below (Kd.V_elderB (by (with_reducible repeat (first | apply Kd.V_alloc | apply Kd.V_drewN | apply Kd.V_drew)); exact HO_661001.out) gb671 (Nat.le_of_eq hg.symm)) hb)
                                  have n2_ := Aside0.mk (blk_below (g := gb654) (o := .cells #[.int .u64 x655000_3, .slice Ao28 x655001_3.length co28] 52 (0, 0)) (by (with_reducible repeat (first | refine blk_drewN ?_ _ | refine blk_drew ?_ | refine blk_alloc ?_ _)); exact BK654.out) hb)
                                  have n3_ := Aside0.mk (blk_below (g := gb660) (o := .cells #[.int .u64 x661000_2, u661001] 52 (0, 0)) (by (with_reducible repeat (first | refine blk_drewN ?_ _ | refine blk_drew ?_ | refine blk_alloc ?_ _)); exact BK660.out) hb)
                                  have n4_ := Aside0.mk (below_step (by repeat (first | (with_reducible first | exact HB.out | apply below_alloc | apply pw_below_drewN | apply below_drew1 | refine below_set ?_ GE654.out | refine below_set ?_ GE660.out) | exact HB.out)) hb)
                                  have n5_ := Aside0.mk (hbox)
                                  have n6_ := Aside0.mk ((by rw [hg]; exact (below_size (by repeat (first | (with_reducible first | exact HB.out | apply below_alloc | apply pw_below_drewN | apply below_drew1 | refine below_set ?_ GE654.out | refine below_set ?_ GE660.out) | exact HB.out))) : w.heap.size ≤ gb671))
                                  have n7_ := Aside0.mk ((by rw [hg]; exact (below_size (by repeat (first | (with_reducible first | exact HB.out | apply below_alloc | apply pw_below_drewN | apply below_drew1 | refine below_set ?_ GE654.out | refine below_set ?_ GE660.out) | exact HB.out))) : w.heap.size ≤ gb671))
                                  have n8_ := Aside0.mk ((by rw [hg]; exact Nat.ne_of_lt (blk_lt (g := gb654) (o := .cells #[.int .u64 x655000_3, .slice Ao28 x655001_3.length co28] 52 (0, 0)) (by (with_reducible repeat (first | refine blk_drewN ?_ _ | refine blk_drew ?_ | refine blk_alloc ?_ _)); exact BK654.out)) : gb654 ≠ gb671))
                                  have n9_ := Aside0.mk ((by rw [hg]; exact Nat.ne_of_gt (blk_lt (g := gb654) (o := .cells #[.int .u64 x655000_3, .slice Ao28 x655001_3.length co28] 52 (0, 0)) (by (with_reducible repeat (first | refine blk_drewN ?_ _ | refine blk_drew ?_ | refine blk_alloc ?_ _)); exact BK654.out)) : gb671 ≠ gb654))
                                  have n10_ := Aside0.mk ((by rw [hg]; exact Nat.ne_of_lt (blk_lt (g := gb660) (o := .cells #[.int .u64 x661000_2, u661001] 52 (0, 0)) (by (with_reducible repeat (first | refine blk_drewN ?_ _ | refine blk_drew ?_ | refine blk_alloc ?_ _)); exact BK660.out)) : gb660 ≠ gb671))
                                  have n11_ := Aside0.mk ((by rw [hg]; exact Nat.ne_of_gt (blk_lt (g := gb660) (o := .cells #[.int .u64 x661000_2, u661001] 52 (0, 0)) (by (with_reducible repeat (first | refine blk_drewN ?_ _ | refine blk_drew ?_ | refine blk_alloc ?_ _)); exact BK660.out)) : gb671 ≠ gb660))
                                  clear HO_655001
                                  clear HO_661001
                                  clear BK654
                                  clear BK660
                                  clear HB
                                  have HO_655001 := n0_
                                  have HO_661001 := n1_
                                  have BK654 := n2_
                                  have BK660 := n3_
                                  have HB := n4_
                                  have BK671 := n5_
                                  have GW671 := n6_
                                  have GE671 := n7_
                                  have NB654_671 := n8_
                                  have NB671_654 := n9_
                                  have NB660_671 := n10_
                                  have NB671_660 := n11_
                                  clear n0_ n1_ n2_ n3_ n4_ n5_ n6_ n7_ n8_ n9_ n10_ n11_
                                  clear hb hbox hg
                                  refine hK.out _ _ ⟨(blk_cell BK654.out 0).trans rfl, (blk_cell BK654.out 1).trans rfl, ((HB.out.cell (World.block_lt_of_cell? w _ hw664_0)).trans hw664_0), ((HB.out.cell (World.block_lt_of_cell? w _ hw665_0)).trans hw665_0)⟩ (fun hHeld => ?_)
                                  clear hK K
                                  refine norm_ (a' := ?_) ?_ ?_
                                  rotate_left
                                  · show Act.put _ (some 15) _ = _
                                    simp only [Act.put, List.setIfInBounds_toArray, List.set_cons_zero, List.set_cons_succ, i64_w, i32_w]
                                    rfl
                                  refine one_ (i := 13) (N := some 67) #[true, true, true, true, true, true, true, true, true, true, true, true, true, true, false, false, false, true, false, false] rfl rfl (one_of HT_.out (by kernel_rfl)) (by decide) (fun K hK => ?_)
                                  refine goes_ Try.func22 (by kernel_rfl) rfl #[.agg #[.int .u64 x655000_3, .slice Ao28 x655001_3.length co28], .int .i64 (Int.tmod (wrap64 (rd l1 x13_2)) (wrap64 (1 + (wrap64 (Int.tmod a0 9))))), .int .u64 0, .int .i64 (wrap64 (rd l2 x13_2))] (by rfl) rfl rfl (by (try simp only [List.map_toArray, List.map_cons, List.map_nil]); first | done | rfl | (simp only [List.length_drop, List.length_take]; rfl)) ?_
                                  with_reducible refine (lead_Granted.calls k3 x655000_3 (fun k_ => ((k_ ≠ gb654 ∧ k_ ≠ gb660) ∧ k_ ≠ gb671)) _ _ x655001_3 (Int.tmod (wrap64 (rd l1 x13_2)) (wrap64 (1 + (wrap64 (Int.tmod a0 9))))) 0 (wrap64 (rd l2 x13_2)) t666 t667 t670 _ ?side1 A26.out).mono ?_
                                  (case side1 => exact HO_655001.out)
                                  rintro e w31 ⟨v668, rfl, ho0, hb⟩
                                  refine ⟨_, rfl, ?_⟩
                                  have n0_ := Aside0.mk (Kd.V_below (by (with_reducible repeat (first | apply Kd.V_alloc | apply Kd.V_drewN | apply Kd.V_drew)); exact HO_655001.out) hb)
                                  have n1_ := Aside0.mk (Kd.V_below (by (with_reducible repeat (first | apply Kd.V_alloc | apply Kd.V_drewN | apply Kd.V_drew)); exact HO_661001.out) hb)
                                  have n2_ := Aside0.mk (Kd.V_lower (Kd.V_mono (ok' := fun k_ => k_ ≠ gb654 ∧ k_ ≠ gb660 ∧ k_ ≠ gb671) ho0 (fun k_ hk_ => ⟨Or.elim hk_ (fun hs_ => hs_.1.1) (fun hn_ => (Kd.freshB (g := gb654) (o := .cells #[.int .u64 x655000_3, .slice Ao28 x655001_3.length co28] 52 (0, 0)) (by (with_reducible repeat (first | refine blk_drewN ?_ _ | refine blk_drew ?_ | refine blk_alloc ?_ _)); exact BK654.out) k_ hn_)), Or.elim hk_ (fun hs_ => hs_.1.2) (fun hn_ => (Kd.freshB (g := gb660) (o := .cells #[.int .u64 x661000_2, u661001] 52 (0, 0)) (by (with_reducible repeat (first | refine blk_drewN ?_ _ | refine blk_drew ?_ | refine blk_alloc ?_ _)); exact BK660.out) k_ hn_)), Or.elim hk_ (fun hs_ => hs_.2) (fun hn_ => (Kd.freshB (g := gb671) (o := .cells #[.int .u64 0, .slice none 0 0] 52 (0, 0)) (by (with_reducible repeat (first | refine blk_drewN ?_ _ | refine blk_drew ?_ | refine blk_alloc ?_ _)); exact BK671.out) k_ hn_))⟩)) (below_size (by repeat (first | (with_reducible first | exact HB.out | apply below_alloc | apply pw_below_drewN | apply below_drew1 | refine below_set ?_ GE654.out | refine below_set ?_ GE660.out | refine below_set ?_ GE671.out) | exact HB.out))))
                                  have n3_ := Aside0.mk (blk_below (g := gb654) (o := .cells #[.int .u64 x655000_3, .slice Ao28 x655001_3.length co28] 52 (0, 0)) (by (with_reducible repeat (first | refine blk_drewN ?_ _ | refine blk_drew ?_ | refine blk_alloc ?_ _)); exact BK654.out) hb)
                                  have n4_ := Aside0.mk (blk_below (g := gb660) (o := .cells #[.int .u64 x661000_2, u661001] 52 (0, 0)) (by (with_reducible repeat (first | refine blk_drewN ?_ _ | refine blk_drew ?_ | refine blk_alloc ?_ _)); exact BK660.out) hb)
                                  have n5_ := Aside0.mk (blk_below (g := gb671) (o := .cells #[.int .u64 0, .slice none 0 0] 52 (0, 0)) (by (with_reducible repeat (first | refine blk_drewN ?_ _ | refine blk_drew ?_ | refine blk_alloc ?_ _)); exact BK671.out) hb)
                                  have n6_ := Aside0.mk (below_step (by repeat (first | (with_reducible first | exact HB.out | apply below_alloc | apply pw_below_drewN | apply below_drew1 | refine below_set ?_ GE654.out | refine below_set ?_ GE660.out | refine below_set ?_ GE671.out) | exact HB.out)) hb)
                                  clear HO_655001
                                  clear HO_661001
                                  clear BK654
                                  clear BK660
                                  clear BK671
                                  clear HB
                                  have HO_655001 := n0_
                                  have HO_661001 := n1_
                                  have HO669 := n2_
                                  have BK654 := n3_
                                  have BK660 := n4_
                                  have BK671 := n5_
                                  have HB := n6_
                                  clear n0_ n1_ n2_ n3_ n4_ n5_ n6_
                                  (try clear hb)
                                  (try clear hb2)
                                  (try clear hk)
                                  (try clear hi)
                                  (try clear ho0)
                                  refine hK.out _ _ ⟨(blk_cell BK654.out 0).trans rfl, (blk_cell BK654.out 1).trans rfl, ((HB.out.cell (World.block_lt_of_cell? w _ hw664_0)).trans hw664_0), ((HB.out.cell (World.block_lt_of_cell? w _ hw665_0)).trans hw665_0)⟩ (fun hHeld => ?_)
                                  clear hK K
                                  refine norm_ (a' := ?_) ?_ ?_
                                  rotate_left
                                  · show Act.put _ (some 67) _ = _
                                    simp only [Act.put, List.setIfInBounds_toArray, List.set_cons_zero, List.set_cons_succ, i64_w, i32_w]
                                    rfl
                                  refine pure_ (i := 14) (N := some 53) (v := ?_) (a' := ?_) #[true, true, true, true, true, true, true, true, true, true, true, true, true, true, true, false, false, true, false, false] rfl rfl (any_of HT_.out (by kernel_rfl)) (fun _ _ _ h => h) (Or.inl ⟨by rfl, ?_⟩) ?_ ?_
                                  rotate_left
                                  · intro w'
                                    go_simp
                                    with_reducible rfl
                                  rotate_left
                                  · simp only [Act.put, List.setIfInBounds_toArray, List.set_cons_zero, List.set_cons_succ, i64_w, i32_w]
                                    rfl
                                  refine pure_ (i := 15) (N := some 68) (v := ?_) (a' := ?_) #[true, true, true, true, true, true, true, true, true, true, true, true, true, true, true, true, false, true, false, false] rfl rfl (any_of HT_.out (by kernel_rfl)) (fun _ _ _ h => h) (Or.inl ⟨by rfl, ?_⟩) ?_ ?_
                                  rotate_left
                                  · intro w'
                                    go_simp
                                    with_reducible rfl
                                  rotate_left
                                  · simp only [Act.put, List.setIfInBounds_toArray, List.set_cons_zero, List.set_cons_succ, i64_w, i32_w]
                                    rfl
                                  refine pure_ (i := 16) (N := some 69) (v := ?_) (a' := ?_) #[true, true, true, true, true, true, true, true, true, true, true, true, true, true, true, true, true, true, false, false] rfl rfl (any_of HT_.out (by kernel_rfl)) (fun _ _ _ h => h) (Or.inl ⟨by rfl, ?_⟩) ?_ ?_
                                  rotate_left
                                  · intro w'
                                    go_simp
                                    with_reducible rfl
                                  rotate_left
                                  · simp only [Act.put, List.setIfInBounds_toArray, List.set_cons_zero, List.set_cons_succ, i64_w, i32_w]
                                    rfl
                                  exact norm_ (by simp only [putAll, Act.put, List.setIfInBounds_toArray, List.set_cons_zero, List.set_cons_succ]) (hCont (v668, gb671) _ ⟨hHeld, (by (with_reducible repeat (first | apply Kd.V_alloc | apply Kd.V_drewN | apply Kd.V_drew)); exact HO669.out), (by (with_reducible repeat (first | apply Kd.V_alloc | apply Kd.V_drewN | apply Kd.V_drew)); exact Kd.V_mono HO_655001.out (fun _ hk => ⟨hk.1.1, ⟨hk.1.2, hk.2⟩⟩)), (by (with_reducible repeat (first | apply Kd.V_alloc | apply Kd.V_drewN | apply Kd.V_drew)); exact Kd.V_mono HO_661001.out (fun _ hk => ⟨hk.1.1, ⟨hk.1.2, hk.2⟩⟩)), (by (with_reducible repeat (first | refine blk_drewN ?_ _ | refine blk_drew ?_ | refine blk_alloc ?_ _)); exact BK654.out), (by (with_reducible repeat (first | refine blk_drewN ?_ _ | refine blk_drew ?_ | refine blk_alloc ?_ _)); exact BK660.out), (by (with_reducible repeat (first | refine blk_drewN ?_ _ | refine blk_drew ?_ | refine blk_alloc ?_ _)); exact BK671.out), GW671.out, GE671.out, NB654_671.out, NB671_654.out, NB660_671.out, NB671_660.out, (by repeat (first | (with_reducible first | exact HB.out | apply below_alloc | apply pw_below_drewN | apply below_drew1 | refine below_set ?_ GE654.out | refine below_set ?_ GE660.out | refine below_set ?_ GE671.out) | exact HB.out))⟩)
                              rintro ⟨v668, gb671⟩ w32 ⟨hS_, h0_, h1_, h2_, h3_, h4_, h5_, h6_, h7_, h8_, h9_, h10_, h11_, h12_⟩
                              have n0_ : Aside0 (Kd.V (Kd.int .i64) 2 w32 w.heap.size (fun k_ => k_ ≠ gb654 ∧ k_ ≠ gb660 ∧ k_ ≠ gb671) v668 t667) := ⟨h0_⟩
                              have n1_ : Aside0 (Kd.V (Kd.int .i64) 2 w32 w.heap.size (fun k_ => k_ ≠ gb654 ∧ k_ ≠ gb660 ∧ k_ ≠ gb671) (.slice Ao28 x655001_3.length co28) x655001_3) := ⟨h1_⟩
                              have n2_ : Aside0 (Kd.V (Kd.int .i64) 2 w32 w.heap.size (fun k_ => k_ ≠ gb654 ∧ k_ ≠ gb660 ∧ k_ ≠ gb671) u661001 x661001_2) := ⟨h2_⟩
                              have n3_ : Aside0 (w32.heap[gb654]? = some (.cells #[.int .u64 x655000_3, .slice Ao28 x655001_3.length co28] 52 (0, 0))) := ⟨h3_⟩
                              have n4_ : Aside0 (w32.heap[gb660]? = some (.cells #[.int .u64 x661000_2, u661001] 52 (0, 0))) := ⟨h4_⟩
                              have n5_ : Aside0 (w32.heap[gb671]? = some (.cells #[.int .u64 0, .slice none 0 0] 52 (0, 0))) := ⟨h5_⟩
                              have n6_ : Aside0 (w.heap.size ≤ gb671) := ⟨h6_⟩
                              have n7_ : Aside0 (w.heap.size ≤ gb671) := ⟨h7_⟩
                              have n8_ : Aside0 (gb654 ≠ gb671) := ⟨h8_⟩
                              have n9_ : Aside0 (gb671 ≠ gb654) := ⟨h9_⟩
                              have n10_ : Aside0 (gb660 ≠ gb671) := ⟨h10_⟩
                              have n11_ : Aside0 (gb671 ≠ gb660) := ⟨h11_⟩
                              have n12_ : Aside0 (Below w.heap.size w w32) := ⟨h12_⟩
                              clear HO_655001
                              clear HO_661001
                              clear BK654
                              clear BK660
                              clear HB
                              clear h0_ h1_ h2_ h3_ h4_ h5_ h6_ h7_ h8_ h9_ h10_ h11_ h12_
                              have HO669 := n0_
                              have HO_655001 := n1_
                              have HO_661001 := n2_
                              have BK654 := n3_
                              have BK660 := n4_
                              have BK671 := n5_
                              have GW671 := n6_
                              have GE671 := n7_
                              have NB654_671 := n8_
                              have NB671_654 := n9_
                              have NB660_671 := n10_
                              have NB671_660 := n11_
                              have HB := n12_
                              clear n0_ n1_ n2_ n3_ n4_ n5_ n6_ n7_ n8_ n9_ n10_ n11_ n12_
                              have hHeld : w32.cell? ⟨gb654, 0, none⟩ = some (.int .u64 x655000_3) ∧ w32.cell? ⟨gb654, 1, none⟩ = some (.slice Ao28 x655001_3.length co28) ∧ w32.cell? (ad664.add (x13_2).toNat) = some (.int .u8 (rd l1 x13_2)) ∧ w32.cell? (ad665.add (x13_2).toNat) = some (.int .u16 (rd l2 x13_2)) := hS_
                              obtain ⟨Ao34, co34, eo34⟩ := Kd.V_slice HO669.out
                              (first | subst eo34 | (injection eo34 with f1_ f2_ f3_; have f4_ := f1_.symm; have f5_ := f3_.symm; clear f1_ f2_ f3_; subst f4_; subst f5_))
                              refine norm_ (a' := ?_) ?_ ?_
                              rotate_left
                              · simp only [putAll, Act.put, List.setIfInBounds_toArray, List.set_cons_zero, List.set_cons_succ]
                                rfl
                              refine one_ (i := 18) (N := none) #[true, true, true, true, true, true, true, true, true, true, true, true, true, true, true, true, true, true, true, false] rfl rfl (one_of HT_.out (by kernel_rfl)) (by decide) (fun K hK => ?_)
                              have hs33 : w32.cell? ⟨gb671, 0, none⟩ = some (.int .u64 0) := (blk_cell BK671.out 0).trans rfl
                              have hfs33 := blk_frozen BK671.out 0
                              have hns33_0 := NB654_671.out
                              have hns33_1 := NB660_671.out
                              have hms33_0 := NB671_654.out
                              have hms33_1 := NB671_660.out
                              have hs35 : w32.cell? ⟨gb671, 1, none⟩ = some (.slice none 0 0) := (blk_cell BK671.out 1).trans rfl
                              have hfs35 := blk_frozen BK671.out 1
                              have hns35_0 := NB654_671.out
                              have hns35_1 := NB660_671.out
                              have hms35_0 := NB671_654.out
                              have hms35_1 := NB671_660.out
                              refine skip_ (w1 := ?_) (by rfl) rfl ?_ ?_
                              rotate_left
                              · go_simp
                                rfl
                              refine hK.out _ _ ⟨((cell_far (p := ⟨gb671, _, none⟩) NB654_671.out _).trans (((cell_far (p := ⟨gb671, _, none⟩) NB654_671.out _).trans (hHeld.1)))), ((cell_far (p := ⟨gb671, _, none⟩) NB654_671.out _).trans (((cell_far (p := ⟨gb671, _, none⟩) NB654_671.out _).trans (hHeld.2.1)))), ((cell_far (p := ⟨gb671, _, none⟩) (by first | exact Nat.ne_of_lt (Nat.lt_of_lt_of_le (by have := World.block_lt_of_cell? _ _ hw664_0; first | rwa [add_block] at this | exact this) GW671.out) | (rw [add_block]; exact Nat.ne_of_lt (Nat.lt_of_lt_of_le (by have := World.block_lt_of_cell? _ _ hw664_0; first | rwa [add_block] at this | exact this) GW671.out)) | (show (Addr.add _ _).block ≠ _; rw [add_block]; exact Nat.ne_of_lt (Nat.lt_of_lt_of_le (by have := World.block_lt_of_cell? _ _ hw664_0; first | rwa [add_block] at this | exact this) GW671.out)) | (dsimp only; exact Nat.ne_of_lt (Nat.lt_of_lt_of_le (by have := World.block_lt_of_cell? _ _ hw664_0; first | rwa [add_block] at this | exact this) GW671.out))) _).trans (((cell_far (p := ⟨gb671, _, none⟩) (by first | exact Nat.ne_of_lt (Nat.lt_of_lt_of_le (by have := World.block_lt_of_cell? _ _ hw664_0; first | rwa [add_block] at this | exact this) GW671.out) | (rw [add_block]; exact Nat.ne_of_lt (Nat.lt_of_lt_of_le (by have := World.block_lt_of_cell? _ _ hw664_0; first | rwa [add_block] at this | exact this) GW671.out)) | (show (Addr.add _ _).block ≠ _; rw [add_block]; exact Nat.ne_of_lt (Nat.lt_of_lt_of_le (by have := World.block_lt_of_cell? _ _ hw664_0; first | rwa [add_block] at this | exact this) GW671.out)) | (dsimp only; exact Nat.ne_of_lt (Nat.lt_of_lt_of_le (by have := World.block_lt_of_cell? _ _ hw664_0; first | rwa [add_block] at this | exact this) GW671.out))) _).trans (hHeld.2.2.1)))), ((cell_far (p := ⟨gb671, _, none⟩) (by first | exact Nat.ne_of_lt (Nat.lt_of_lt_of_le (by have := World.block_lt_of_cell? _ _ hw665_0; first | rwa [add_block] at this | exact this) GW671.out) | (rw [add_block]; exact Nat.ne_of_lt (Nat.lt_of_lt_of_le (by have := World.block_lt_of_cell? _ _ hw665_0; first | rwa [add_block] at this | exact this) GW671.out)) | (show (Addr.add _ _).block ≠ _; rw [add_block]; exact Nat.ne_of_lt (Nat.lt_of_lt_of_le (by have := World.block_lt_of_cell? _ _ hw665_0; first | rwa [add_block] at this | exact this) GW671.out)) | (dsimp only; exact Nat.ne_of_lt (Nat.lt_of_lt_of_le (by have := World.block_lt_of_cell? _ _ hw665_0; first | rwa [add_block] at this | exact this) GW671.out))) _).trans (((cell_far (p := ⟨gb671, _, none⟩) (by first | exact Nat.ne_of_lt (Nat.lt_of_lt_of_le (by have := World.block_lt_of_cell? _ _ hw665_0; first | rwa [add_block] at this | exact this) GW671.out) | (rw [add_block]; exact Nat.ne_of_lt (Nat.lt_of_lt_of_le (by have := World.block_lt_of_cell? _ _ hw665_0; first | rwa [add_block] at this | exact this) GW671.out)) | (show (Addr.add _ _).block ≠ _; rw [add_block]; exact Nat.ne_of_lt (Nat.lt_of_lt_of_le (by have := World.block_lt_of_cell? _ _ hw665_0; first | rwa [add_block] at this | exact this) GW671.out)) | (dsimp only; exact Nat.ne_of_lt (Nat.lt_of_lt_of_le (by have := World.block_lt_of_cell? _ _ hw665_0; first | rwa [add_block] at this | exact this) GW671.out))) _).trans (hHeld.2.2.2))))⟩ (fun hHeld => ?_)
                              clear hK K
                              refine pure_ (i := 19) (N := some 16) (v := ?_) (a' := ?_) #[true, true, true, true, true, true, true, true, true, true, true, true, true, true, true, true, true, true, true, true] rfl rfl (any_of HT_.out (by kernel_rfl)) (fun _ _ _ h => h) (Or.inl ⟨by rfl, ?_⟩) ?_ ?_
                              rotate_left
                              · intro w'
                                go_simp
                                with_reducible rfl
                              rotate_left
                              · simp only [Act.put, List.setIfInBounds_toArray, List.set_cons_zero, List.set_cons_succ, i64_w, i32_w]
                                rfl
                              refine done_ (done_of HT_.out (by kernel_rfl)) ?_
                              have hnb36 := NB671_654.out
                              have hnc36 := NB654_671.out
                              have hnb37 := NB671_660.out
                              have hnc37 := NB660_671.out
                              have hcz38_0 : w32.cell? ⟨gb671, 0, none⟩ = some (.int .u64 0) := (blk_cell BK671.out 0).trans rfl
                              have hcz38_1 : w32.cell? ⟨gb671, 1, none⟩ = some (.slice none 0 0) := (blk_cell BK671.out 1).trans rfl
                              have hfz38_0 := blk_frozen BK671.out 0
                              have hfz38_1 := blk_frozen BK671.out 1
                              have hnb39 := NB654_660.out
                              have hnc39 := NB660_654.out
                              have hcz40_0 : w32.cell? ⟨gb654, 0, none⟩ = some (.int .u64 x655000_3) := (blk_cell BK654.out 0).trans rfl
                              have hcz40_1 : w32.cell? ⟨gb654, 1, none⟩ = some (.slice Ao28 x655001_3.length co28) := (blk_cell BK654.out 1).trans rfl
                              have hfz40_0 := blk_frozen BK654.out 0
                              have hfz40_1 := blk_frozen BK654.out 1
                              try go_wp2
                              go_roundg k3
                              case measure => have := HJ5.out; have := HK2.out; have := HK3.out; omega
                              case rel => exact ⟨(wrap64 (x14_3 + 1)), (t666), (t667), (.slice Ao34 t667.length co34), (by first | rfl | (simp; done) | (simp [*]; done)), H', ⟨by have := HJ5.out; have := HK2.out; have := HK3.out; omega⟩, ⟨by (with_reducible repeat (first | apply Kd.V_alloc | apply Kd.V_drewN | apply Kd.V_drew)); exact Kd.V_mono (Kd.V_far (p := ⟨gb654, 1, none⟩) (Kd.V_far (p := ⟨gb654, 0, none⟩) (Kd.V_far (p := ⟨gb671, 1, none⟩) (Kd.V_far (p := ⟨gb671, 0, none⟩) (Kd.V_mono (Kd.V_mono HO669.out (fun k_ hk => (⟨hk, hk.2.2⟩ : _ ∧ k_ ≠ gb671))) (fun k_ hk => (⟨hk, hk.1.1⟩ : _ ∧ k_ ≠ gb654))) (fun _ hk => hk.1.2) (.int .u64 t666)) (fun _ hk => hk.1.2) (.slice Ao34 t667.length co34)) (fun _ hk => hk.2) (.int .u64 t666)) (fun _ hk => hk.2) (.slice Ao34 t667.length co34)) (fun _ hk => ⟨hk.1.1.1, hk.1.1.2.1⟩)⟩, ⟨by (with_reducible repeat (first | apply Kd.V_alloc | apply Kd.V_drewN | apply Kd.V_drew)); exact Kd.V_mono (Kd.V_far (p := ⟨gb654, 1, none⟩) (Kd.V_far (p := ⟨gb654, 0, none⟩) (Kd.V_far (p := ⟨gb671, 1, none⟩) (Kd.V_far (p := ⟨gb671, 0, none⟩) (Kd.V_mono (Kd.V_mono HO_661001.out (fun k_ hk => (⟨hk, hk.2.2⟩ : _ ∧ k_ ≠ gb671))) (fun k_ hk => (⟨hk, hk.1.1⟩ : _ ∧ k_ ≠ gb654))) (fun _ hk => hk.1.2) (.int .u64 t666)) (fun _ hk => hk.1.2) (.slice Ao34 t667.length co34)) (fun _ hk => hk.2) (.int .u64 t666)) (fun _ hk => hk.2) (.slice Ao34 t667.length co34)) (fun _ hk => ⟨hk.1.1.1, hk.1.1.2.1⟩)⟩, ⟨by (with_reducible repeat (first | refine blk_drewN ?_ _ | refine blk_drew ?_ | refine blk_alloc ?_ _)); refine blk_put (cs := #[.int .u64 t666, .slice Ao28 x655001_3.length co28]) ?_ 1 _ rfl; (with_reducible repeat (first | refine blk_drewN ?_ _ | refine blk_drew ?_ | refine blk_alloc ?_ _)); refine blk_put (cs := #[.int .u64 x655000_3, .slice Ao28 x655001_3.length co28]) ?_ 0 _ rfl; (with_reducible repeat (first | refine blk_drewN ?_ _ | refine blk_drew ?_ | refine blk_alloc ?_ _)); refine blk_far ?_ NB654_671.out _; (with_reducible repeat (first | refine blk_drewN ?_ _ | refine blk_drew ?_ | refine blk_alloc ?_ _)); refine blk_far ?_ NB654_671.out _; (with_reducible repeat (first | refine blk_drewN ?_ _ | refine blk_drew ?_ | refine blk_alloc ?_ _)); exact BK654.out⟩, ⟨by (with_reducible repeat (first | refine blk_drewN ?_ _ | refine blk_drew ?_ | refine blk_alloc ?_ _)); refine blk_far ?_ NB660_654.out _; (with_reducible repeat (first | refine blk_drewN ?_ _ | refine blk_drew ?_ | refine blk_alloc ?_ _)); refine blk_far ?_ NB660_654.out _; (with_reducible repeat (first | refine blk_drewN ?_ _ | refine blk_drew ?_ | refine blk_alloc ?_ _)); refine blk_far ?_ NB660_671.out _; (with_reducible repeat (first | refine blk_drewN ?_ _ | refine blk_drew ?_ | refine blk_alloc ?_ _)); refine blk_far ?_ NB660_671.out _; (with_reducible repeat (first | refine blk_drewN ?_ _ | refine blk_drew ?_ | refine blk_alloc ?_ _)); exact BK660.out⟩, ⟨by repeat (first | (with_reducible first | exact HB.out | apply below_alloc | apply pw_below_drewN | apply below_drew1 | refine below_set ?_ GE654.out | refine below_set ?_ GE660.out | refine below_set ?_ GE671.out) | exact HB.out)⟩⟩
                            · rw [if_neg c27] at H
                              have c27b0 : (t670 == 0) = false := beq_eq_false_iff_ne.mpr c27
                              have c27b1 : (t670 != 0) = true := bne_iff_ne.mpr c27
                              exact absurd ((Option.some.inj H).trans hrt.out) (by decide)
                          · rw [if_neg c25] at H
                            exact absurd H (by simp)
                      · rw [if_neg c23] at H
                        exact absurd H (by simp)
                    · rw [if_neg c22] at H
                      exact absurd H (by simp)
                  · rw [if_neg c21] at H
                    have c21b0 : decide (x14_3 < 2) = false := decide_eq_false c21
                    clear c21
                    obtain ⟨ji41, hji41⟩ : ∃ j_ : Int, (wrap64 ((wrap64 (ji19 - 1)) - x13_2)) = j_ := ⟨_, rfl⟩
                    replace H : (if 0 ≤ (ji41) then (if (ji41) < (l1.length : Int) then (if (wrap64 (1 + (wrap64 (Int.tmod a0 9)))) = 0 then (none) else (if (ji41) < (l2.length : Int) then ((lead_Granted.f k3 x661000_2 x661001_2 (Int.tmod (wrap64 (rd l1 (ji41))) (wrap64 (1 + (wrap64 (Int.tmod a0 9))))) 0 (wrap64 (rd l2 (ji41)))).bind fun bt674 => (if bt674.2.2 = 0 then (tattlelaw18_LeadOnce.l0 k3 l1 l2 (wrap64 (1 + (wrap64 (Int.tmod a0 9)))) ji19 (wrap64 (x13_2 + 1)) x655000_3 x655001_3 bt674.1 bt674.2.1) else (some false))) else (none))) else (none)) else (none)) = some r := by first | (rw [hji41] at H; exact H) | (simp only [hji41] at H ⊢; exact H)
                    have hji41w : (IntKind.i64.wrap ((wrap64 (ji19 - 1)) - x13_2)) = ji41 := (i64_w _).trans hji41
                    by_cases c42 : 0 ≤ (ji41)
                    · rw [if_pos c42] at H
                      have c42b0 : decide (0 ≤ (ji41)) = true := decide_eq_true c42
                      clear c42
                      by_cases c43 : (ji41) < (l1.length : Int)
                      · rw [if_pos c43] at H
                        have c43b0 : decide ((ji41) < (l1.length : Int)) = true := decide_eq_true c43
                        clear c43
                        by_cases c44 : (wrap64 (1 + (wrap64 (Int.tmod a0 9)))) = 0
                        · rw [if_pos c44] at H
                          exact absurd H (by simp)
                        · rw [if_neg c44] at H
                          have c44b0 : ((wrap64 (1 + (wrap64 (Int.tmod a0 9)))) == 0) = false := beq_eq_false_iff_ne.mpr c44
                          have c44b1 : ((wrap64 (1 + (wrap64 (Int.tmod a0 9)))) != 0) = true := bne_iff_ne.mpr c44
                          by_cases c45 : (ji41) < (l2.length : Int)
                          · rw [if_pos c45] at H
                            have c45b0 : decide ((ji41) < (l2.length : Int)) = true := decide_eq_true c45
                            clear c45
                            replace H := Option.bind_eq_some_iff.mp H
                            obtain ⟨⟨t674, t675, t678⟩, A460, H⟩ := H
                            replace H : (if t678 = 0 then (tattlelaw18_LeadOnce.l0 k3 l1 l2 (wrap64 (1 + (wrap64 (Int.tmod a0 9)))) ji19 (wrap64 (x13_2 + 1)) x655000_3 x655001_3 t674 t675) else (some false)) = some r := H
                            have A46 := Aside0.mk A460
                            clear A460
                            by_cases c47 : t678 = 0
                            · rw [if_pos c47] at H
                              have c47b0 : (t678 == 0) = true := beq_iff_eq.mpr c47
                              have c47b1 : (t678 != 0) = false := bne_eq_false_iff_eq.mpr c47
                              clear c47
                              have H' := Aside0.mk H
                              clear H
                              obtain ⟨Ao48, co48, eo48⟩ := Kd.V_slice HO_661001.out
                              subst eo48
                              try go_wp2
                              have n0_ := Aside0.mk (Kd.V_drew HO_655001.out)
                              have n1_ := Aside0.mk (Kd.V_drew HO_661001.out)
                              have n2_ := Aside0.mk (blk_drew BK654.out)
                              have n3_ := Aside0.mk (blk_drew BK660.out)
                              have n4_ := Aside0.mk (below_drew1 HB.out)
                              clear HO_655001
                              clear HO_661001
                              clear BK654
                              clear BK660
                              clear HB
                              have HO_655001 := n0_
                              have HO_661001 := n1_
                              have BK654 := n2_
                              have BK660 := n3_
                              have HB := n4_
                              clear n0_ n1_ n2_ n3_ n4_
                              have p672 : 0 ≤ ((ji41) : Int) := of_decide_eq_true (by first | (with_reducible assumption) | assumption)
                              have q672 : (ji41) < (l1.length : Int) := of_decide_eq_true (by first | (with_reducible assumption) | assumption)
                              obtain ⟨ad672, e672, hx672_0⟩ := Kd.at_int HR1.out (ji41) p672 q672
                              have hw672_0 := hx672_0
                              cases e672
                              replace hx672_0 := (HB.out.cell (World.block_lt_of_cell? w _ hx672_0)).trans hx672_0
                              replace p672 := eq_true p672
                              replace q672 := eq_true q672
                              have p673 : 0 ≤ ((ji41) : Int) := of_decide_eq_true (by first | (with_reducible assumption) | assumption)
                              have q673 : (ji41) < (l2.length : Int) := of_decide_eq_true (by first | (with_reducible assumption) | assumption)
                              obtain ⟨ad673, e673, hx673_0⟩ := Kd.at_int HR2.out (ji41) p673 q673
                              have hw673_0 := hx673_0
                              cases e673
                              replace hx673_0 := (HB.out.cell (World.block_lt_of_cell? w _ hx673_0)).trans hx673_0
                              replace p673 := eq_true p673
                              replace q673 := eq_true q673
                              refine start_ (n := 26) (S := fun w' => w'.cell? ⟨gb660, 0, none⟩ = some (.int .u64 x661000_2) ∧ w'.cell? ⟨gb660, 1, none⟩ = some (.slice Ao48 x661001_2.length co48) ∧ w'.cell? (ad672.add ((ji41)).toNat) = some (.int .u8 (rd l1 (ji41))) ∧ w'.cell? (ad673.add ((ji41)).toNat) = some (.int .u16 (rd l2 (ji41)))) (ds := []) #[false, false, false, false, false, false, false, false, false, false, false, false, false, false, false, false, false, false, false, false, false, false, false, false, false, false] (by kernel_rfl) rfl rfl ⟨(blk_cell BK660.out 0).trans rfl, (blk_cell BK660.out 1).trans rfl, ((HB.out.cell (World.block_lt_of_cell? w _ hw672_0)).trans hw672_0), ((HB.out.cell (World.block_lt_of_cell? w _ hw673_0)).trans hw673_0)⟩ (fun hHeld => ?_); refine with_tabW tattlelaw18_LeadOnce.tab17 tattlelaw18_LeadOnce.bits17 (fun HT_ HW_ => ?_)
                              generalize wr.drew = w49 at HO_655001 HO_661001 BK654 BK660 HB hx672_0 hx673_0 hHeld ⊢
                              refine pure_ (i := 1) (N := some 75) (v := ?_) (a' := ?_) #[false, true, false, false, false, false, false, false, false, false, false, false, false, false, false, false, false, false, false, false, false, false, false, false, false, false] rfl rfl (any_of HT_.out (by kernel_rfl)) (fun _ _ _ h => h) (Or.inl ⟨by rfl, ?_⟩) ?_ ?_
                              rotate_left
                              · intro w'
                                go_simp
                                with_reducible rfl
                              rotate_left
                              · simp only [Act.put, List.setIfInBounds_toArray, List.set_cons_zero, List.set_cons_succ, i64_w, i32_w]
                                rfl
                              refine pure_ (i := 2) (N := some 76) (v := ?_) (a' := ?_) #[false, true, true, false, false, false, false, false, false, false, false, false, false, false, false, false, false, false, false, false, false, false, false, false, false, false] rfl rfl (any_of HT_.out (by kernel_rfl)) (fun _ _ _ h => h) (Or.inl ⟨by rfl, ?_⟩) ?_ ?_
                              rotate_left
                              · intro w'
                                go_simp
                                with_reducible rfl
                              rotate_left
                              · simp only [Act.put, List.setIfInBounds_toArray, List.set_cons_zero, List.set_cons_succ, i64_w, i32_w]
                                rfl
                              refine pure_ (i := 3) (N := some 77) (v := ?_) (a' := ?_) #[false, true, true, true, false, false, false, false, false, false, false, false, false, false, false, false, false, false, false, false, false, false, false, false, false, false] rfl rfl (any_of HT_.out (by kernel_rfl)) (fun _ _ _ h => h) (Or.inl ⟨by rfl, ?_⟩) ?_ ?_
                              rotate_left
                              · intro w'
                                go_simp
                                with_reducible rfl
                              rotate_left
                              · simp only [Act.put, List.setIfInBounds_toArray, List.set_cons_zero, List.set_cons_succ, i64_w, i32_w]
                                rfl
                              refine pure_ (i := 4) (N := some 78) (v := ?_) (a' := ?_) #[false, true, true, true, true, false, false, false, false, false, false, false, false, false, false, false, false, false, false, false, false, false, false, false, false, false] rfl rfl (any_of HT_.out (by kernel_rfl)) (fun _ _ _ h => h) (Or.inl ⟨by rfl, ?_⟩) ?_ ?_
                              rotate_left
                              · intro w'
                                go_simp
                                with_reducible rfl
                              rotate_left
                              · simp only [Act.put, List.setIfInBounds_toArray, List.set_cons_zero, List.set_cons_succ, i64_w, i32_w]
                                rfl
                              refine pure_ (i := 5) (N := some 79) (v := ?_) (a' := ?_) #[false, true, true, true, true, true, false, false, false, false, false, false, false, false, false, false, false, false, false, false, false, false, false, false, false, false] rfl rfl (any_of HT_.out (by kernel_rfl)) (fun _ _ _ h => h) (Or.inl ⟨by rfl, ?_⟩) ?_ ?_
                              rotate_left
                              · intro w'
                                go_simp
                                with_reducible rfl
                              rotate_left
                              · simp only [Act.put, List.setIfInBounds_toArray, List.set_cons_zero, List.set_cons_succ, i64_w, i32_w]
                                rfl
                              refine pure_ (i := 6) (N := some 80) (v := ?_) (a' := ?_) #[false, true, true, true, true, true, true, false, false, false, false, false, false, false, false, false, false, false, false, false, false, false, false, false, false, false] rfl rfl (any_of HT_.out (by kernel_rfl)) (fun _ _ _ h => h) (Or.inl ⟨by rfl, ?_⟩) ?_ ?_
                              rotate_left
                              · intro w'
                                go_simp
                                with_reducible rfl
                              rotate_left
                              · simp only [Act.put, List.setIfInBounds_toArray, List.set_cons_zero, List.set_cons_succ, i64_w, i32_w]
                                rfl
                              refine pure_ (i := 9) (N := some 83) (v := ?_) (a' := ?_) #[false, true, true, true, true, true, true, false, false, true, false, false, false, false, false, false, false, false, false, false, false, false, false, false, false, false] rfl rfl (any_of HT_.out (by kernel_rfl)) (fun _ _ _ h => h) (Or.inl ⟨by rfl, ?_⟩) ?_ ?_
                              rotate_left
                              · intro w'
                                go_simp
                                with_reducible rfl
                              rotate_left
                              · simp only [Act.put, List.setIfInBounds_toArray, List.set_cons_zero, List.set_cons_succ, i64_w, i32_w]
                                rfl
                              refine pure_ (i := 11) (N := some 85) (v := ?_) (a' := ?_) #[false, true, true, true, true, true, true, false, false, true, false, true, false, false, false, false, false, false, false, false, false, false, false, false, false, false] rfl rfl (any_of HT_.out (by kernel_rfl)) (fun _ _ _ h => h) (Or.inl ⟨by rfl, ?_⟩) ?_ ?_
                              rotate_left
                              · intro w'
                                go_simp
                                with_reducible rfl
                              rotate_left
                              · simp only [Act.put, List.setIfInBounds_toArray, List.set_cons_zero, List.set_cons_succ, i64_w, i32_w]
                                rfl
                              refine pure_ (i := 12) (N := some 86) (v := ?_) (a' := ?_) #[false, true, true, true, true, true, true, false, false, true, false, true, true, false, false, false, false, false, false, false, false, false, false, false, false, false] rfl rfl (any_of HT_.out (by kernel_rfl)) (fun _ _ _ h => h) (Or.inl ⟨by rfl, ?_⟩) ?_ ?_
                              rotate_left
                              · intro w'
                                go_simp
                                with_reducible rfl
                              rotate_left
                              · simp only [Act.put, List.setIfInBounds_toArray, List.set_cons_zero, List.set_cons_succ, i64_w, i32_w]
                                rfl
                              refine pure_ (i := 13) (N := some 87) (v := ?_) (a' := ?_) #[false, true, true, true, true, true, true, false, false, true, false, true, true, true, false, false, false, false, false, false, false, false, false, false, false, false] rfl rfl (any_of HT_.out (by kernel_rfl)) (fun _ _ _ h => h) (Or.inl ⟨by rfl, ?_⟩) ?_ ?_
                              rotate_left
                              · intro w'
                                go_simp
                                with_reducible rfl
                              rotate_left
                              · simp only [Act.put, List.setIfInBounds_toArray, List.set_cons_zero, List.set_cons_succ, i64_w, i32_w]
                                rfl
                              refine pure_ (i := 14) (N := some 88) (v := ?_) (a' := ?_) #[false, true, true, true, true, true, true, false, false, true, false, true, true, true, true, false, false, false, false, false, false, false, false, false, false, false] rfl rfl (any_of HT_.out (by kernel_rfl)) (fun _ _ _ h => h) (Or.inl ⟨by rfl, ?_⟩) ?_ ?_
                              rotate_left
                              · intro w'
                                go_simp
                                with_reducible rfl
                              rotate_left
                              · simp only [Act.put, List.setIfInBounds_toArray, List.set_cons_zero, List.set_cons_succ, i64_w, i32_w]
                                rfl
                              refine pure_ (i := 15) (N := some 89) (v := ?_) (a' := ?_) #[false, true, true, true, true, true, true, false, false, true, false, true, true, true, true, true, false, false, false, false, false, false, false, false, false, false] rfl rfl (any_of HT_.out (by kernel_rfl)) (fun _ _ _ h => h) (Or.inl ⟨by rfl, ?_⟩) ?_ ?_
                              rotate_left
                              · intro w'
                                go_simp
                                with_reducible rfl
                              rotate_left
                              · simp only [Act.put, List.setIfInBounds_toArray, List.set_cons_zero, List.set_cons_succ, i64_w, i32_w]
                                rfl
                              refine pure_ (i := 16) (N := some 90) (v := ?_) (a' := ?_) #[false, true, true, true, true, true, true, false, false, true, false, true, true, true, true, true, true, false, false, false, false, false, false, false, false, false] rfl rfl (any_of HT_.out (by kernel_rfl)) (fun _ _ _ h => h) (Or.inl ⟨by rfl, ?_⟩) ?_ ?_
                              rotate_left
                              · intro w'
                                go_simp
                                with_reducible rfl
                              rotate_left
                              · simp only [Act.put, List.setIfInBounds_toArray, List.set_cons_zero, List.set_cons_succ, i64_w, i32_w]
                                rfl
                              refine take_ (i := 0) (N := some 74) (v := ?_) (a' := ?_) #[true, true, true, true, true, true, true, false, false, true, false, true, true, true, true, true, true, false, false, false, false, false, false, false, false, false] rfl rfl (take_ofW HT_.out HW_.out (by kernel_rfl)) (fun _ _ _ h => h) (Or.inl ⟨by rfl, ?_⟩) hHeld ?_ ?_
                              rotate_left
                              · rintro w' ⟨s0, s1, s2, s3⟩
                                go_simp
                                with_reducible rfl
                              rotate_left
                              · simp only [Act.put, List.setIfInBounds_toArray, List.set_cons_zero, List.set_cons_succ, i64_w, i32_w]
                                rfl
                              refine take_ (i := 7) (N := some 81) (v := ?_) (a' := ?_) #[true, true, true, true, true, true, true, true, false, true, false, true, true, true, true, true, true, false, false, false, false, false, false, false, false, false] rfl rfl (take_ofW HT_.out HW_.out (by kernel_rfl)) (fun _ _ _ h => h) (Or.inl ⟨by rfl, ?_⟩) hHeld ?_ ?_
                              rotate_left
                              · rintro w' ⟨s0, s1, s2, s3⟩
                                go_simp
                                with_reducible rfl
                              rotate_left
                              · simp only [Act.put, List.setIfInBounds_toArray, List.set_cons_zero, List.set_cons_succ, i64_w, i32_w]
                                rfl
                              refine pure_ (i := 8) (N := some 82) (v := ?_) (a' := ?_) #[true, true, true, true, true, true, true, true, true, true, false, true, true, true, true, true, true, false, false, false, false, false, false, false, false, false] rfl rfl (any_of HT_.out (by kernel_rfl)) (fun _ _ _ h => h) (Or.inl ⟨by rfl, ?_⟩) ?_ ?_
                              rotate_left
                              · intro w'
                                go_simp
                                with_reducible rfl
                              rotate_left
                              · simp only [Act.put, List.setIfInBounds_toArray, List.set_cons_zero, List.set_cons_succ, i64_w, i32_w]
                                rfl
                              refine pure_ (i := 10) (N := some 84) (v := ?_) (a' := ?_) #[true, true, true, true, true, true, true, true, true, true, true, true, true, true, true, true, true, false, false, false, false, false, false, false, false, false] rfl rfl (any_of HT_.out (by kernel_rfl)) (fun _ _ _ h => h) (Or.inl ⟨by rfl, ?_⟩) ?_ ?_
                              rotate_left
                              · intro w'
                                go_simp
                                with_reducible rfl
                              rotate_left
                              · simp only [Act.put, List.setIfInBounds_toArray, List.set_cons_zero, List.set_cons_succ, i64_w, i32_w]
                                rfl
                              refine take_ (i := 17) (N := some 91) (v := ?_) (a' := ?_) #[true, true, true, true, true, true, true, true, true, true, true, true, true, true, true, true, true, true, false, false, false, false, false, false, false, false] rfl rfl (take_ofW HT_.out HW_.out (by kernel_rfl)) (fun _ _ _ h => h) (Or.inl ⟨by rfl, ?_⟩) hHeld ?_ ?_
                              rotate_left
                              · rintro w' ⟨s0, s1, s2, s3⟩
                                go_simp
                                with_reducible rfl
                              rotate_left
                              · simp only [Act.put, List.setIfInBounds_toArray, List.set_cons_zero, List.set_cons_succ, i64_w, i32_w]
                                rfl
                              refine pure_ (i := 18) (N := some 92) (v := ?_) (a' := ?_) #[true, true, true, true, true, true, true, true, true, true, true, true, true, true, true, true, true, true, true, false, false, false, false, false, false, false] rfl rfl (any_of HT_.out (by kernel_rfl)) (fun _ _ _ h => h) (Or.inl ⟨by rfl, ?_⟩) ?_ ?_
                              rotate_left
                              · intro w'
                                go_simp
                                with_reducible rfl
                              rotate_left
                              · simp only [Act.put, List.setIfInBounds_toArray, List.set_cons_zero, List.set_cons_succ, i64_w, i32_w]
                                rfl
                              refine join_ (σ := Value × Nat) 2 #[true, true, true, true, true, true, true, true, true, true, true, true, true, true, true, true, true, true, true, true, true, true, true, true, false, false] (fun s_ => [(93, .tuple #[.agg #[.int .u64 t674, s_.1], .int .i64 t678]), (17, .pointer (some ⟨s_.2, 0, none⟩)), (73, .tuple #[.agg #[.int .u64 t674, s_.1], .int .i64 t678]), (94, .agg #[.int .u64 t674, s_.1]), (95, .int .i64 t678)]) (fun s_ w' => (w'.cell? ⟨gb660, 0, none⟩ = some (.int .u64 x661000_2) ∧ w'.cell? ⟨gb660, 1, none⟩ = some (.slice Ao48 x661001_2.length co48) ∧ w'.cell? (ad672.add ((ji41)).toNat) = some (.int .u8 (rd l1 (ji41))) ∧ w'.cell? (ad673.add ((ji41)).toNat) = some (.int .u16 (rd l2 (ji41)))) ∧ (Kd.V (Kd.int .i64) 2 w' w.heap.size (fun k_ => k_ ≠ gb654 ∧ k_ ≠ gb660 ∧ k_ ≠ s_.2) s_.1 t675) ∧ (Kd.V (Kd.int .i64) 2 w' w.heap.size (fun k_ => k_ ≠ gb654 ∧ k_ ≠ gb660 ∧ k_ ≠ s_.2) u655001 x655001_3) ∧ (Kd.V (Kd.int .i64) 2 w' w.heap.size (fun k_ => k_ ≠ gb654 ∧ k_ ≠ gb660 ∧ k_ ≠ s_.2) (.slice Ao48 x661001_2.length co48) x661001_2) ∧ (w'.heap[gb654]? = some (.cells #[.int .u64 x655000_3, u655001] 52 (0, 0))) ∧ (w'.heap[gb660]? = some (.cells #[.int .u64 x661000_2, .slice Ao48 x661001_2.length co48] 52 (0, 0))) ∧ (w'.heap[s_.2]? = some (.cells #[.int .u64 0, .slice none 0 0] 52 (0, 0))) ∧ (w.heap.size ≤ s_.2) ∧ (w.heap.size ≤ s_.2) ∧ (gb654 ≠ s_.2) ∧ (s_.2 ≠ gb654) ∧ (gb660 ≠ s_.2) ∧ (s_.2 ≠ gb660) ∧ (Below w.heap.size w w')) ?_ ?_
                              rotate_left
                              · intro hCont
                                refine two_ (i := 19) (j := 23) (Ni := some 93) (Nj := some 17) #[true, true, true, true, true, true, true, true, true, true, true, true, true, true, true, true, true, true, true, true, false, false, false, false, false, false] #[true, true, true, true, true, true, true, true, true, true, true, true, true, true, true, true, true, true, true, false, false, false, false, true, false, false] rfl rfl rfl rfl (two_of HT_.out (by kernel_rfl)) (by decide) (by decide) (fun K hK => ?_) (fun K hK => ?_)
                                · skip
                                  refine goes_ Try.func22 (by kernel_rfl) rfl #[.agg #[.int .u64 x661000_2, .slice Ao48 x661001_2.length co48], .int .i64 (Int.tmod (wrap64 (rd l1 (ji41))) (wrap64 (1 + (wrap64 (Int.tmod a0 9))))), .int .u64 0, .int .i64 (wrap64 (rd l2 (ji41)))] (by rfl) rfl rfl (by (try simp only [List.map_toArray, List.map_cons, List.map_nil]); first | done | (simp only [hji41]; rfl) | rfl | (simp only [List.length_drop, List.length_take]; rfl)) ?_
                                  with_reducible refine (lead_Granted.calls k3 x661000_2 (fun k_ => (k_ ≠ gb654 ∧ k_ ≠ gb660)) _ _ x661001_2 (Int.tmod (wrap64 (rd l1 (ji41))) (wrap64 (1 + (wrap64 (Int.tmod a0 9))))) 0 (wrap64 (rd l2 (ji41))) t674 t675 t678 _ ?side1 A46.out).mono ?_
                                  (case side1 => exact HO_661001.out)
                                  rintro e w50 ⟨v676, rfl, ho0, hb⟩
                                  refine ⟨_, rfl, ?_⟩
                                  have n0_ := Aside0.mk (Kd.V_below (by (with_reducible repeat (first | apply Kd.V_alloc | apply Kd.V_drewN | apply Kd.V_drew)); exact HO_655001.out) hb)
                                  have n1_ := Aside0.mk (Kd.V_below (by (with_reducible repeat (first | apply Kd.V_alloc | apply Kd.V_drewN | apply Kd.V_drew)); exact HO_661001.out) hb)
                                  have n2_ := Aside0.mk (Kd.V_lower (Kd.V_mono (ok' := fun k_ => k_ ≠ gb654 ∧ k_ ≠ gb660) ho0 (fun k_ hk_ => ⟨Or.elim hk_ (fun hs_ => hs_.1) (fun hn_ => (Kd.freshB (g := gb654) (o := .cells #[.int .u64 x655000_3, u655001] 52 (0, 0)) (by (with_reducible repeat (first | refine blk_drewN ?_ _ | refine blk_drew ?_ | refine blk_alloc ?_ _)); exact BK654.out) k_ hn_)), Or.elim hk_ (fun hs_ => hs_.2) (fun hn_ => (Kd.freshB (g := gb660) (o := .cells #[.int .u64 x661000_2, .slice Ao48 x661001_2.length co48] 52 (0, 0)) (by (with_reducible repeat (first | refine blk_drewN ?_ _ | refine blk_drew ?_ | refine blk_alloc ?_ _)); exact BK660.out) k_ hn_))⟩)) (below_size (by repeat (first | (with_reducible first | exact HB.out | apply below_alloc | apply pw_below_drewN | apply below_drew1 | refine below_set ?_ GE654.out | refine below_set ?_ GE660.out) | exact HB.out))))
                                  have n3_ := Aside0.mk (blk_below (g := gb654) (o := .cells #[.int .u64 x655000_3, u655001] 52 (0, 0)) (by (with_reducible repeat (first | refine blk_drewN ?_ _ | refine blk_drew ?_ | refine blk_alloc ?_ _)); exact BK654.out) hb)
                                  have n4_ := Aside0.mk (blk_below (g := gb660) (o := .cells #[.int .u64 x661000_2, .slice Ao48 x661001_2.length co48] 52 (0, 0)) (by (with_reducible repeat (first | refine blk_drewN ?_ _ | refine blk_drew ?_ | refine blk_alloc ?_ _)); exact BK660.out) hb)
                                  have n5_ := Aside0.mk (below_step (by repeat (first | (with_reducible first | exact HB.out | apply below_alloc | apply pw_below_drewN | apply below_drew1 | refine below_set ?_ GE654.out | refine below_set ?_ GE660.out) | exact HB.out)) hb)
                                  clear HO_655001
                                  clear HO_661001
                                  clear BK654
                                  clear BK660
                                  clear HB
                                  have HO_655001 := n0_
                                  have HO_661001 := n1_
                                  have HO677 := n2_
                                  have BK654 := n3_
                                  have BK660 := n4_
                                  have HB := n5_
                                  clear n0_ n1_ n2_ n3_ n4_ n5_
                                  (try clear hb)
                                  (try clear hb2)
                                  (try clear hk)
                                  (try clear hi)
                                  (try clear ho0)
                                  refine hK.out _ _ ⟨(blk_cell BK660.out 0).trans rfl, (blk_cell BK660.out 1).trans rfl, ((HB.out.cell (World.block_lt_of_cell? w _ hw672_0)).trans hw672_0), ((HB.out.cell (World.block_lt_of_cell? w _ hw673_0)).trans hw673_0)⟩ (fun hHeld => ?_)
                                  clear hK K
                                  refine norm_ (a' := ?_) ?_ ?_
                                  rotate_left
                                  · show Act.put _ (some 93) _ = _
                                    simp only [Act.put, List.setIfInBounds_toArray, List.set_cons_zero, List.set_cons_succ, i64_w, i32_w]
                                    rfl
                                  refine pure_ (i := 20) (N := some 73) (v := ?_) (a' := ?_) #[true, true, true, true, true, true, true, true, true, true, true, true, true, true, true, true, true, true, true, true, true, false, false, false, false, false] rfl rfl (any_of HT_.out (by kernel_rfl)) (fun _ _ _ h => h) (Or.inl ⟨by rfl, ?_⟩) ?_ ?_
                                  rotate_left
                                  · intro w'
                                    go_simp
                                    with_reducible rfl
                                  rotate_left
                                  · simp only [Act.put, List.setIfInBounds_toArray, List.set_cons_zero, List.set_cons_succ, i64_w, i32_w]
                                    rfl
                                  refine pure_ (i := 21) (N := some 94) (v := ?_) (a' := ?_) #[true, true, true, true, true, true, true, true, true, true, true, true, true, true, true, true, true, true, true, true, true, true, false, false, false, false] rfl rfl (any_of HT_.out (by kernel_rfl)) (fun _ _ _ h => h) (Or.inl ⟨by rfl, ?_⟩) ?_ ?_
                                  rotate_left
                                  · intro w'
                                    go_simp
                                    with_reducible rfl
                                  rotate_left
                                  · simp only [Act.put, List.setIfInBounds_toArray, List.set_cons_zero, List.set_cons_succ, i64_w, i32_w]
                                    rfl
                                  refine pure_ (i := 22) (N := some 95) (v := ?_) (a' := ?_) #[true, true, true, true, true, true, true, true, true, true, true, true, true, true, true, true, true, true, true, true, true, true, true, false, false, false] rfl rfl (any_of HT_.out (by kernel_rfl)) (fun _ _ _ h => h) (Or.inl ⟨by rfl, ?_⟩) ?_ ?_
                                  rotate_left
                                  · intro w'
                                    go_simp
                                    with_reducible rfl
                                  rotate_left
                                  · simp only [Act.put, List.setIfInBounds_toArray, List.set_cons_zero, List.set_cons_succ, i64_w, i32_w]
                                    rfl
                                  refine one_ (i := 23) (N := some 17) #[true, true, true, true, true, true, true, true, true, true, true, true, true, true, true, true, true, true, true, true, true, true, true, true, false, false] rfl rfl (one_of HT_.out (by kernel_rfl)) (by decide) (fun K hK => ?_)
                                  refine box_step ?hg (N := 17) ?hd (cs := #[.int .u64 0, .slice none 0 0]) (t := 52) ?hr ?_; (case hd => rfl); (case hg => rfl); (case hr => first | (go_simp; done) | (go_simp; rfl))
                                  intro gb679 hg w51 hbox hb
                                  have n0_ := Aside0.mk (Kd.V_below (Kd.V_elderB (by (with_reducible repeat (first | apply Kd.V_alloc | apply Kd.V_drewN | apply Kd.V_drew)); exact HO_655001.out) gb679 (Nat.le_of_eq hg.symm)) hb)
                                  have n1_ := Aside0.mk (Kd.V_below (Kd.V_elderB (by (with_reducible repeat (first | apply Kd.V_alloc | apply Kd.V_drewN | apply Kd.V_drew)); exact HO_661001.out) gb679 (Nat.le_of_eq hg.symm)) hb)
                                  have n2_ := Aside0.mk (Kd.V_below (Kd.V_elderB (by (with_reducible repeat (first | apply Kd.V_alloc | apply Kd.V_drewN | apply Kd.V_drew)); exact HO677.out) gb679 (Nat.le_of_eq hg.symm)) hb)
                                  have n3_ := Aside0.mk (blk_below (g := gb654) (o := .cells #[.int .u64 x655000_3, u655001] 52 (0, 0)) (by (with_reducible repeat (first | refine blk_drewN ?_ _ | refine blk_drew ?_ | refine blk_alloc ?_ _)); exact BK654.out) hb)
                                  have n4_ := Aside0.mk (blk_below (g := gb660) (o := .cells #[.int .u64 x661000_2, .slice Ao48 x661001_2.length co48] 52 (0, 0)) (by (with_reducible repeat (first | refine blk_drewN ?_ _ | refine blk_drew ?_ | refine blk_alloc ?_ _)); exact BK660.out) hb)
                                  have n5_ := Aside0.mk (below_step (by repeat (first | (with_reducible first | exact HB.out | apply below_alloc | apply pw_below_drewN | apply below_drew1 | refine below_set ?_ GE654.out | refine below_set ?_ GE660.out) | exact HB.out)) hb)
                                  have n6_ := Aside0.mk (hbox)
                                  have n7_ := Aside0.mk ((by rw [hg]; exact (below_size (by repeat (first | (with_reducible first | exact HB.out | apply below_alloc | apply pw_below_drewN | apply below_drew1 | refine below_set ?_ GE654.out | refine below_set ?_ GE660.out) | exact HB.out))) : w.heap.size ≤ gb679))
                                  have n8_ := Aside0.mk ((by rw [hg]; exact (below_size (by repeat (first | (with_reducible first | exact HB.out | apply below_alloc | apply pw_below_drewN | apply below_drew1 | refine below_set ?_ GE654.out | refine below_set ?_ GE660.out) | exact HB.out))) : w.heap.size ≤ gb679))
                                  have n9_ := Aside0.mk ((by rw [hg]; exact Nat.ne_of_lt (blk_lt (g := gb654) (o := .cells #[.int .u64 x655000_3, u655001] 52 (0, 0)) (by (with_reducible repeat (first | refine blk_drewN ?_ _ | refine blk_drew ?_ | refine blk_alloc ?_ _)); exact BK654.out)) : gb654 ≠ gb679))
                                  have n10_ := Aside0.mk ((by rw [hg]; exact Nat.ne_of_gt (blk_lt (g := gb654) (o := .cells #[.int .u64 x655000_3, u655001] 52 (0, 0)) (by (with_reducible repeat (first | refine blk_drewN ?_ _ | refine blk_drew ?_ | refine blk_alloc ?_ _)); exact BK654.out)) : gb679 ≠ gb654))
                                  have n11_ := Aside0.mk ((by rw [hg]; exact Nat.ne_of_lt (blk_lt (g := gb660) (o := .cells #[.int .u64 x661000_2, .slice Ao48 x661001_2.length co48] 52 (0, 0)) (by (with_reducible repeat (first | refine blk_drewN ?_ _ | refine blk_drew ?_ | refine blk_alloc ?_ _)); exact BK660.out)) : gb660 ≠ gb679))
                                  have n12_ := Aside0.mk ((by rw [hg]; exact Nat.ne_of_gt (blk_lt (g := gb660) (o := .cells #[.int .u64 x661000_2, .slice Ao48 x661001_2.length co48] 52 (0, 0)) (by (with_reducible repeat (first | refine blk_drewN ?_ _ | refine blk_drew ?_ | refine blk_alloc ?_ _)); exact BK660.out)) : gb679 ≠ gb660))
                                  clear HO_655001
                                  clear HO_661001
                                  clear HO677
                                  clear BK654
                                  clear BK660
                                  clear HB
                                  have HO_655001 := n0_
                                  have HO_661001 := n1_
                                  have HO677 := n2_
                                  have BK654 := n3_
                                  have BK660 := n4_
                                  have HB := n5_
                                  have BK679 := n6_
                                  have GW679 := n7_
                                  have GE679 := n8_
                                  have NB654_679 := n9_
                                  have NB679_654 := n10_
                                  have NB660_679 := n11_
                                  have NB679_660 := n12_
                                  clear n0_ n1_ n2_ n3_ n4_ n5_ n6_ n7_ n8_ n9_ n10_ n11_ n12_
                                  clear hb hbox hg
                                  refine hK.out _ _ ⟨(blk_cell BK660.out 0).trans rfl, (blk_cell BK660.out 1).trans rfl, ((HB.out.cell (World.block_lt_of_cell? w _ hw672_0)).trans hw672_0), ((HB.out.cell (World.block_lt_of_cell? w _ hw673_0)).trans hw673_0)⟩ (fun hHeld => ?_)
                                  clear hK K
                                  refine norm_ (a' := ?_) ?_ ?_
                                  rotate_left
                                  · show Act.put _ (some 17) _ = _
                                    simp only [Act.put, List.setIfInBounds_toArray, List.set_cons_zero, List.set_cons_succ, i64_w, i32_w]
                                    rfl
                                  exact norm_ (by simp only [putAll, Act.put, List.setIfInBounds_toArray, List.set_cons_zero, List.set_cons_succ]) (hCont (v676, gb679) _ ⟨hHeld, (by (with_reducible repeat (first | apply Kd.V_alloc | apply Kd.V_drewN | apply Kd.V_drew)); exact Kd.V_mono HO677.out (fun _ hk => ⟨hk.1.1, ⟨hk.1.2, hk.2⟩⟩)), (by (with_reducible repeat (first | apply Kd.V_alloc | apply Kd.V_drewN | apply Kd.V_drew)); exact Kd.V_mono HO_655001.out (fun _ hk => ⟨hk.1.1, ⟨hk.1.2, hk.2⟩⟩)), (by (with_reducible repeat (first | apply Kd.V_alloc | apply Kd.V_drewN | apply Kd.V_drew)); exact Kd.V_mono HO_661001.out (fun _ hk => ⟨hk.1.1, ⟨hk.1.2, hk.2⟩⟩)), (by (with_reducible repeat (first | refine blk_drewN ?_ _ | refine blk_drew ?_ | refine blk_alloc ?_ _)); exact BK654.out), (by (with_reducible repeat (first | refine blk_drewN ?_ _ | refine blk_drew ?_ | refine blk_alloc ?_ _)); exact BK660.out), (by (with_reducible repeat (first | refine blk_drewN ?_ _ | refine blk_drew ?_ | refine blk_alloc ?_ _)); exact BK679.out), GW679.out, GE679.out, NB654_679.out, NB679_654.out, NB660_679.out, NB679_660.out, (by repeat (first | (with_reducible first | exact HB.out | apply below_alloc | apply pw_below_drewN | apply below_drew1 | refine below_set ?_ GE654.out | refine below_set ?_ GE660.out | refine below_set ?_ GE679.out) | exact HB.out))⟩)
                                · skip
                                  refine box_step ?hg (N := 17) ?hd (cs := #[.int .u64 0, .slice none 0 0]) (t := 52) ?hr ?_; (case hd => rfl); (case hg => rfl); (case hr => first | (go_simp; done) | (go_simp; rfl))
                                  intro gb679 hg w50 hbox hb
                                  have n0_ := Aside0.mk (Kd.V_below (Kd.V_elderB (by (with_reducible repeat (first | apply Kd.V_alloc | apply Kd.V_drewN | apply Kd.V_drew)); exact HO_655001.out) gb679 (Nat.le_of_eq hg.symm)) hb)
                                  have n1_ := Aside0.mk (Kd.V_below (Kd.V_elderB (by (with_reducible repeat (first | apply Kd.V_alloc | apply Kd.V_drewN | apply Kd.V_drew)); exact HO_661001.out) gb679 (Nat.le_of_eq hg.symm)) hb)
                                  have n2_ := Aside0.mk (blk_below (g := gb654) (o := .cells #[.int .u64 x655000_3, u655001] 52 (0, 0)) (by (with_reducible repeat (first | refine blk_drewN ?_ _ | refine blk_drew ?_ | refine blk_alloc ?_ _)); exact BK654.out) hb)
                                  have n3_ := Aside0.mk (blk_below (g := gb660) (o := .cells #[.int .u64 x661000_2, .slice Ao48 x661001_2.length co48] 52 (0, 0)) (by (with_reducible repeat (first | refine blk_drewN ?_ _ | refine blk_drew ?_ | refine blk_alloc ?_ _)); exact BK660.out) hb)
                                  have n4_ := Aside0.mk (below_step (by repeat (first | (with_reducible first | exact HB.out | apply below_alloc | apply pw_below_drewN | apply below_drew1 | refine below_set ?_ GE654.out | refine below_set ?_ GE660.out) | exact HB.out)) hb)
                                  have n5_ := Aside0.mk (hbox)
                                  have n6_ := Aside0.mk ((by rw [hg]; exact (below_size (by repeat (first | (with_reducible first | exact HB.out | apply below_alloc | apply pw_below_drewN | apply below_drew1 | refine below_set ?_ GE654.out | refine below_set ?_ GE660.out) | exact HB.out))) : w.heap.size ≤ gb679))
                                  have n7_ := Aside0.mk ((by rw [hg]; exact (below_size (by repeat (first | (with_reducible first | exact HB.out | apply below_alloc | apply pw_below_drewN | apply below_drew1 | refine below_set ?_ GE654.out | refine below_set ?_ GE660.out) | exact HB.out))) : w.heap.size ≤ gb679))
                                  have n8_ := Aside0.mk ((by rw [hg]; exact Nat.ne_of_lt (blk_lt (g := gb654) (o := .cells #[.int .u64 x655000_3, u655001] 52 (0, 0)) (by (with_reducible repeat (first | refine blk_drewN ?_ _ | refine blk_drew ?_ | refine blk_alloc ?_ _)); exact BK654.out)) : gb654 ≠ gb679))
                                  have n9_ := Aside0.mk ((by rw [hg]; exact Nat.ne_of_gt (blk_lt (g := gb654) (o := .cells #[.int .u64 x655000_3, u655001] 52 (0, 0)) (by (with_reducible repeat (first | refine blk_drewN ?_ _ | refine blk_drew ?_ | refine blk_alloc ?_ _)); exact BK654.out)) : gb679 ≠ gb654))
                                  have n10_ := Aside0.mk ((by rw [hg]; exact Nat.ne_of_lt (blk_lt (g := gb660) (o := .cells #[.int .u64 x661000_2, .slice Ao48 x661001_2.length co48] 52 (0, 0)) (by (with_reducible repeat (first | refine blk_drewN ?_ _ | refine blk_drew ?_ | refine blk_alloc ?_ _)); exact BK660.out)) : gb660 ≠ gb679))
                                  have n11_ := Aside0.mk ((by rw [hg]; exact Nat.ne_of_gt (blk_lt (g := gb660) (o := .cells #[.int .u64 x661000_2, .slice Ao48 x661001_2.length co48] 52 (0, 0)) (by (with_reducible repeat (first | refine blk_drewN ?_ _ | refine blk_drew ?_ | refine blk_alloc ?_ _)); exact BK660.out)) : gb679 ≠ gb660))
                                  clear HO_655001
                                  clear HO_661001
                                  clear BK654
                                  clear BK660
                                  clear HB
                                  have HO_655001 := n0_
                                  have HO_661001 := n1_
                                  have BK654 := n2_
                                  have BK660 := n3_
                                  have HB := n4_
                                  have BK679 := n5_
                                  have GW679 := n6_
                                  have GE679 := n7_
                                  have NB654_679 := n8_
                                  have NB679_654 := n9_
                                  have NB660_679 := n10_
                                  have NB679_660 := n11_
                                  clear n0_ n1_ n2_ n3_ n4_ n5_ n6_ n7_ n8_ n9_ n10_ n11_
                                  clear hb hbox hg
                                  refine hK.out _ _ ⟨(blk_cell BK660.out 0).trans rfl, (blk_cell BK660.out 1).trans rfl, ((HB.out.cell (World.block_lt_of_cell? w _ hw672_0)).trans hw672_0), ((HB.out.cell (World.block_lt_of_cell? w _ hw673_0)).trans hw673_0)⟩ (fun hHeld => ?_)
                                  clear hK K
                                  refine norm_ (a' := ?_) ?_ ?_
                                  rotate_left
                                  · show Act.put _ (some 17) _ = _
                                    simp only [Act.put, List.setIfInBounds_toArray, List.set_cons_zero, List.set_cons_succ, i64_w, i32_w]
                                    rfl
                                  refine one_ (i := 19) (N := some 93) #[true, true, true, true, true, true, true, true, true, true, true, true, true, true, true, true, true, true, true, true, false, false, false, true, false, false] rfl rfl (one_of HT_.out (by kernel_rfl)) (by decide) (fun K hK => ?_)
                                  refine goes_ Try.func22 (by kernel_rfl) rfl #[.agg #[.int .u64 x661000_2, .slice Ao48 x661001_2.length co48], .int .i64 (Int.tmod (wrap64 (rd l1 (ji41))) (wrap64 (1 + (wrap64 (Int.tmod a0 9))))), .int .u64 0, .int .i64 (wrap64 (rd l2 (ji41)))] (by rfl) rfl rfl (by (try simp only [List.map_toArray, List.map_cons, List.map_nil]); first | done | (simp only [hji41]; rfl) | rfl | (simp only [List.length_drop, List.length_take]; rfl)) ?_
                                  with_reducible refine (lead_Granted.calls k3 x661000_2 (fun k_ => ((k_ ≠ gb654 ∧ k_ ≠ gb660) ∧ k_ ≠ gb679)) _ _ x661001_2 (Int.tmod (wrap64 (rd l1 (ji41))) (wrap64 (1 + (wrap64 (Int.tmod a0 9))))) 0 (wrap64 (rd l2 (ji41))) t674 t675 t678 _ ?side1 A46.out).mono ?_
                                  (case side1 => exact HO_661001.out)
                                  rintro e w51 ⟨v676, rfl, ho0, hb⟩
                                  refine ⟨_, rfl, ?_⟩
                                  have n0_ := Aside0.mk (Kd.V_below (by (with_reducible repeat (first | apply Kd.V_alloc | apply Kd.V_drewN | apply Kd.V_drew)); exact HO_655001.out) hb)
                                  have n1_ := Aside0.mk (Kd.V_below (by (with_reducible repeat (first | apply Kd.V_alloc | apply Kd.V_drewN | apply Kd.V_drew)); exact HO_661001.out) hb)
                                  have n2_ := Aside0.mk (Kd.V_lower (Kd.V_mono (ok' := fun k_ => k_ ≠ gb654 ∧ k_ ≠ gb660 ∧ k_ ≠ gb679) ho0 (fun k_ hk_ => ⟨Or.elim hk_ (fun hs_ => hs_.1.1) (fun hn_ => (Kd.freshB (g := gb654) (o := .cells #[.int .u64 x655000_3, u655001] 52 (0, 0)) (by (with_reducible repeat (first | refine blk_drewN ?_ _ | refine blk_drew ?_ | refine blk_alloc ?_ _)); exact BK654.out) k_ hn_)), Or.elim hk_ (fun hs_ => hs_.1.2) (fun hn_ => (Kd.freshB (g := gb660) (o := .cells #[.int .u64 x661000_2, .slice Ao48 x661001_2.length co48] 52 (0, 0)) (by (with_reducible repeat (first | refine blk_drewN ?_ _ | refine blk_drew ?_ | refine blk_alloc ?_ _)); exact BK660.out) k_ hn_)), Or.elim hk_ (fun hs_ => hs_.2) (fun hn_ => (Kd.freshB (g := gb679) (o := .cells #[.int .u64 0, .slice none 0 0] 52 (0, 0)) (by (with_reducible repeat (first | refine blk_drewN ?_ _ | refine blk_drew ?_ | refine blk_alloc ?_ _)); exact BK679.out) k_ hn_))⟩)) (below_size (by repeat (first | (with_reducible first | exact HB.out | apply below_alloc | apply pw_below_drewN | apply below_drew1 | refine below_set ?_ GE654.out | refine below_set ?_ GE660.out | refine below_set ?_ GE679.out) | exact HB.out))))
                                  have n3_ := Aside0.mk (blk_below (g := gb654) (o := .cells #[.int .u64 x655000_3, u655001] 52 (0, 0)) (by (with_reducible repeat (first | refine blk_drewN ?_ _ | refine blk_drew ?_ | refine blk_alloc ?_ _)); exact BK654.out) hb)
                                  have n4_ := Aside0.mk (blk_below (g := gb660) (o := .cells #[.int .u64 x661000_2, .slice Ao48 x661001_2.length co48] 52 (0, 0)) (by (with_reducible repeat (first | refine blk_drewN ?_ _ | refine blk_drew ?_ | refine blk_alloc ?_ _)); exact BK660.out) hb)
                                  have n5_ := Aside0.mk (blk_below (g := gb679) (o := .cells #[.int .u64 0, .slice none 0 0] 52 (0, 0)) (by (with_reducible repeat (first | refine blk_drewN ?_ _ | refine blk_drew ?_ | refine blk_alloc ?_ _)); exact BK679.out) hb)
                                  have n6_ := Aside0.mk (below_step (by repeat (first | (with_reducible first | exact HB.out | apply below_alloc | apply pw_below_drewN | apply below_drew1 | refine below_set ?_ GE654.out | refine below_set ?_ GE660.out | refine below_set ?_ GE679.out) | exact HB.out)) hb)
                                  clear HO_655001
                                  clear HO_661001
                                  clear BK654
                                  clear BK660
                                  clear BK679
                                  clear HB
                                  have HO_655001 := n0_
                                  have HO_661001 := n1_
                                  have HO677 := n2_
                                  have BK654 := n3_
                                  have BK660 := n4_
                                  have BK679 := n5_
                                  have HB := n6_
                                  clear n0_ n1_ n2_ n3_ n4_ n5_ n6_
                                  (try clear hb)
                                  (try clear hb2)
                                  (try clear hk)
                                  (try clear hi)
                                  (try clear ho0)
                                  refine hK.out _ _ ⟨(blk_cell BK660.out 0).trans rfl, (blk_cell BK660.out 1).trans rfl, ((HB.out.cell (World.block_lt_of_cell? w _ hw672_0)).trans hw672_0), ((HB.out.cell (World.block_lt_of_cell? w _ hw673_0)).trans hw673_0)⟩ (fun hHeld => ?_)
                                  clear hK K
                                  refine norm_ (a' := ?_) ?_ ?_
                                  rotate_left
                                  · show Act.put _ (some 93) _ = _
                                    simp only [Act.put, List.setIfInBounds_toArray, List.set_cons_zero, List.set_cons_succ, i64_w, i32_w]
                                    rfl
                                  refine pure_ (i := 20) (N := some 73) (v := ?_) (a' := ?_) #[true, true, true, true, true, true, true, true, true, true, true, true, true, true, true, true, true, true, true, true, true, false, false, true, false, false] rfl rfl (any_of HT_.out (by kernel_rfl)) (fun _ _ _ h => h) (Or.inl ⟨by rfl, ?_⟩) ?_ ?_
                                  rotate_left
                                  · intro w'
                                    go_simp
                                    with_reducible rfl
                                  rotate_left
                                  · simp only [Act.put, List.setIfInBounds_toArray, List.set_cons_zero, List.set_cons_succ, i64_w, i32_w]
                                    rfl
                                  refine pure_ (i := 21) (N := some 94) (v := ?_) (a' := ?_) #[true, true, true, true, true, true, true, true, true, true, true, true, true, true, true, true, true, true, true, true, true, true, false, true, false, false] rfl rfl (any_of HT_.out (by kernel_rfl)) (fun _ _ _ h => h) (Or.inl ⟨by rfl, ?_⟩) ?_ ?_
                                  rotate_left
                                  · intro w'
                                    go_simp
                                    with_reducible rfl
                                  rotate_left
                                  · simp only [Act.put, List.setIfInBounds_toArray, List.set_cons_zero, List.set_cons_succ, i64_w, i32_w]
                                    rfl
                                  refine pure_ (i := 22) (N := some 95) (v := ?_) (a' := ?_) #[true, true, true, true, true, true, true, true, true, true, true, true, true, true, true, true, true, true, true, true, true, true, true, true, false, false] rfl rfl (any_of HT_.out (by kernel_rfl)) (fun _ _ _ h => h) (Or.inl ⟨by rfl, ?_⟩) ?_ ?_
                                  rotate_left
                                  · intro w'
                                    go_simp
                                    with_reducible rfl
                                  rotate_left
                                  · simp only [Act.put, List.setIfInBounds_toArray, List.set_cons_zero, List.set_cons_succ, i64_w, i32_w]
                                    rfl
                                  exact norm_ (by simp only [putAll, Act.put, List.setIfInBounds_toArray, List.set_cons_zero, List.set_cons_succ]) (hCont (v676, gb679) _ ⟨hHeld, (by (with_reducible repeat (first | apply Kd.V_alloc | apply Kd.V_drewN | apply Kd.V_drew)); exact HO677.out), (by (with_reducible repeat (first | apply Kd.V_alloc | apply Kd.V_drewN | apply Kd.V_drew)); exact Kd.V_mono HO_655001.out (fun _ hk => ⟨hk.1.1, ⟨hk.1.2, hk.2⟩⟩)), (by (with_reducible repeat (first | apply Kd.V_alloc | apply Kd.V_drewN | apply Kd.V_drew)); exact Kd.V_mono HO_661001.out (fun _ hk => ⟨hk.1.1, ⟨hk.1.2, hk.2⟩⟩)), (by (with_reducible repeat (first | refine blk_drewN ?_ _ | refine blk_drew ?_ | refine blk_alloc ?_ _)); exact BK654.out), (by (with_reducible repeat (first | refine blk_drewN ?_ _ | refine blk_drew ?_ | refine blk_alloc ?_ _)); exact BK660.out), (by (with_reducible repeat (first | refine blk_drewN ?_ _ | refine blk_drew ?_ | refine blk_alloc ?_ _)); exact BK679.out), GW679.out, GE679.out, NB654_679.out, NB679_654.out, NB660_679.out, NB679_660.out, (by repeat (first | (with_reducible first | exact HB.out | apply below_alloc | apply pw_below_drewN | apply below_drew1 | refine below_set ?_ GE654.out | refine below_set ?_ GE660.out | refine below_set ?_ GE679.out) | exact HB.out))⟩)
                              rintro ⟨v676, gb679⟩ w52 ⟨hS_, h0_, h1_, h2_, h3_, h4_, h5_, h6_, h7_, h8_, h9_, h10_, h11_, h12_⟩
                              have n0_ : Aside0 (Kd.V (Kd.int .i64) 2 w52 w.heap.size (fun k_ => k_ ≠ gb654 ∧ k_ ≠ gb660 ∧ k_ ≠ gb679) v676 t675) := ⟨h0_⟩
                              have n1_ : Aside0 (Kd.V (Kd.int .i64) 2 w52 w.heap.size (fun k_ => k_ ≠ gb654 ∧ k_ ≠ gb660 ∧ k_ ≠ gb679) u655001 x655001_3) := ⟨h1_⟩
                              have n2_ : Aside0 (Kd.V (Kd.int .i64) 2 w52 w.heap.size (fun k_ => k_ ≠ gb654 ∧ k_ ≠ gb660 ∧ k_ ≠ gb679) (.slice Ao48 x661001_2.length co48) x661001_2) := ⟨h2_⟩
                              have n3_ : Aside0 (w52.heap[gb654]? = some (.cells #[.int .u64 x655000_3, u655001] 52 (0, 0))) := ⟨h3_⟩
                              have n4_ : Aside0 (w52.heap[gb660]? = some (.cells #[.int .u64 x661000_2, .slice Ao48 x661001_2.length co48] 52 (0, 0))) := ⟨h4_⟩
                              have n5_ : Aside0 (w52.heap[gb679]? = some (.cells #[.int .u64 0, .slice none 0 0] 52 (0, 0))) := ⟨h5_⟩
                              have n6_ : Aside0 (w.heap.size ≤ gb679) := ⟨h6_⟩
                              have n7_ : Aside0 (w.heap.size ≤ gb679) := ⟨h7_⟩
                              have n8_ : Aside0 (gb654 ≠ gb679) := ⟨h8_⟩
                              have n9_ : Aside0 (gb679 ≠ gb654) := ⟨h9_⟩
                              have n10_ : Aside0 (gb660 ≠ gb679) := ⟨h10_⟩
                              have n11_ : Aside0 (gb679 ≠ gb660) := ⟨h11_⟩
                              have n12_ : Aside0 (Below w.heap.size w w52) := ⟨h12_⟩
                              clear HO_655001
                              clear HO_661001
                              clear BK654
                              clear BK660
                              clear HB
                              clear h0_ h1_ h2_ h3_ h4_ h5_ h6_ h7_ h8_ h9_ h10_ h11_ h12_
                              have HO677 := n0_
                              have HO_655001 := n1_
                              have HO_661001 := n2_
                              have BK654 := n3_
                              have BK660 := n4_
                              have BK679 := n5_
                              have GW679 := n6_
                              have GE679 := n7_
                              have NB654_679 := n8_
                              have NB679_654 := n9_
                              have NB660_679 := n10_
                              have NB679_660 := n11_
                              have HB := n12_
                              clear n0_ n1_ n2_ n3_ n4_ n5_ n6_ n7_ n8_ n9_ n10_ n11_ n12_
                              have hHeld : w52.cell? ⟨gb660, 0, none⟩ = some (.int .u64 x661000_2) ∧ w52.cell? ⟨gb660, 1, none⟩ = some (.slice Ao48 x661001_2.length co48) ∧ w52.cell? (ad672.add ((ji41)).toNat) = some (.int .u8 (rd l1 (ji41))) ∧ w52.cell? (ad673.add ((ji41)).toNat) = some (.int .u16 (rd l2 (ji41))) := hS_
                              obtain ⟨Ao54, co54, eo54⟩ := Kd.V_slice HO677.out
                              (first | subst eo54 | (injection eo54 with f1_ f2_ f3_; have f4_ := f1_.symm; have f5_ := f3_.symm; clear f1_ f2_ f3_; subst f4_; subst f5_))
                              refine norm_ (a' := ?_) ?_ ?_
                              rotate_left
                              · simp only [putAll, Act.put, List.setIfInBounds_toArray, List.set_cons_zero, List.set_cons_succ]
                                rfl
                              refine one_ (i := 24) (N := none) #[true, true, true, true, true, true, true, true, true, true, true, true, true, true, true, true, true, true, true, true, true, true, true, true, true, false] rfl rfl (one_of HT_.out (by kernel_rfl)) (by decide) (fun K hK => ?_)
                              have hs53 : w52.cell? ⟨gb679, 0, none⟩ = some (.int .u64 0) := (blk_cell BK679.out 0).trans rfl
                              have hfs53 := blk_frozen BK679.out 0
                              have hns53_0 := NB654_679.out
                              have hns53_1 := NB660_679.out
                              have hms53_0 := NB679_654.out
                              have hms53_1 := NB679_660.out
                              have hs55 : w52.cell? ⟨gb679, 1, none⟩ = some (.slice none 0 0) := (blk_cell BK679.out 1).trans rfl
                              have hfs55 := blk_frozen BK679.out 1
                              have hns55_0 := NB654_679.out
                              have hns55_1 := NB660_679.out
                              have hms55_0 := NB679_654.out
                              have hms55_1 := NB679_660.out
                              refine skip_ (w1 := ?_) (by rfl) rfl ?_ ?_
                              rotate_left
                              · go_simp
                                rfl
                              refine hK.out _ _ ⟨((cell_far (p := ⟨gb679, _, none⟩) NB660_679.out _).trans (((cell_far (p := ⟨gb679, _, none⟩) NB660_679.out _).trans (hHeld.1)))), ((cell_far (p := ⟨gb679, _, none⟩) NB660_679.out _).trans (((cell_far (p := ⟨gb679, _, none⟩) NB660_679.out _).trans (hHeld.2.1)))), ((cell_far (p := ⟨gb679, _, none⟩) (by first | exact Nat.ne_of_lt (Nat.lt_of_lt_of_le (by have := World.block_lt_of_cell? _ _ hw672_0; first | rwa [add_block] at this | exact this) GW679.out) | (rw [add_block]; exact Nat.ne_of_lt (Nat.lt_of_lt_of_le (by have := World.block_lt_of_cell? _ _ hw672_0; first | rwa [add_block] at this | exact this) GW679.out)) | (show (Addr.add _ _).block ≠ _; rw [add_block]; exact Nat.ne_of_lt (Nat.lt_of_lt_of_le (by have := World.block_lt_of_cell? _ _ hw672_0; first | rwa [add_block] at this | exact this) GW679.out)) | (dsimp only; exact Nat.ne_of_lt (Nat.lt_of_lt_of_le (by have := World.block_lt_of_cell? _ _ hw672_0; first | rwa [add_block] at this | exact this) GW679.out))) _).trans (((cell_far (p := ⟨gb679, _, none⟩) (by first | exact Nat.ne_of_lt (Nat.lt_of_lt_of_le (by have := World.block_lt_of_cell? _ _ hw672_0; first | rwa [add_block] at this | exact this) GW679.out) | (rw [add_block]; exact Nat.ne_of_lt (Nat.lt_of_lt_of_le (by have := World.block_lt_of_cell? _ _ hw672_0; first | rwa [add_block] at this | exact this) GW679.out)) | (show (Addr.add _ _).block ≠ _; rw [add_block]; exact Nat.ne_of_lt (Nat.lt_of_lt_of_le (by have := World.block_lt_of_cell? _ _ hw672_0; first | rwa [add_block] at this | exact this) GW679.out)) | (dsimp only; exact Nat.ne_of_lt (Nat.lt_of_lt_of_le (by have := World.block_lt_of_cell? _ _ hw672_0; first | rwa [add_block] at this | exact this) GW679.out))) _).trans (hHeld.2.2.1)))), ((cell_far (p := ⟨gb679, _, none⟩) (by first | exact Nat.ne_of_lt (Nat.lt_of_lt_of_le (by have := World.block_lt_of_cell? _ _ hw673_0; first | rwa [add_block] at this | exact this) GW679.out) | (rw [add_block]; exact Nat.ne_of_lt (Nat.lt_of_lt_of_le (by have := World.block_lt_of_cell? _ _ hw673_0; first | rwa [add_block] at this | exact this) GW679.out)) | (show (Addr.add _ _).block ≠ _; rw [add_block]; exact Nat.ne_of_lt (Nat.lt_of_lt_of_le (by have := World.block_lt_of_cell? _ _ hw673_0; first | rwa [add_block] at this | exact this) GW679.out)) | (dsimp only; exact Nat.ne_of_lt (Nat.lt_of_lt_of_le (by have := World.block_lt_of_cell? _ _ hw673_0; first | rwa [add_block] at this | exact this) GW679.out))) _).trans (((cell_far (p := ⟨gb679, _, none⟩) (by first | exact Nat.ne_of_lt (Nat.lt_of_lt_of_le (by have := World.block_lt_of_cell? _ _ hw673_0; first | rwa [add_block] at this | exact this) GW679.out) | (rw [add_block]; exact Nat.ne_of_lt (Nat.lt_of_lt_of_le (by have := World.block_lt_of_cell? _ _ hw673_0; first | rwa [add_block] at this | exact this) GW679.out)) | (show (Addr.add _ _).block ≠ _; rw [add_block]; exact Nat.ne_of_lt (Nat.lt_of_lt_of_le (by have := World.block_lt_of_cell? _ _ hw673_0; first | rwa [add_block] at this | exact this) GW679.out)) | (dsimp only; exact Nat.ne_of_lt (Nat.lt_of_lt_of_le (by have := World.block_lt_of_cell? _ _ hw673_0; first | rwa [add_block] at this | exact this) GW679.out))) _).trans (hHeld.2.2.2))))⟩ (fun hHeld => ?_)
                              clear hK K
                              refine pure_ (i := 25) (N := some 18) (v := ?_) (a' := ?_) #[true, true, true, true, true, true, true, true, true, true, true, true, true, true, true, true, true, true, true, true, true, true, true, true, true, true] rfl rfl (any_of HT_.out (by kernel_rfl)) (fun _ _ _ h => h) (Or.inl ⟨by rfl, ?_⟩) ?_ ?_
                              rotate_left
                              · intro w'
                                go_simp
                                with_reducible rfl
                              rotate_left
                              · simp only [Act.put, List.setIfInBounds_toArray, List.set_cons_zero, List.set_cons_succ, i64_w, i32_w]
                                rfl
                              refine done_ (done_of HT_.out (by kernel_rfl)) ?_
                              have hnb56 := NB679_654.out
                              have hnc56 := NB654_679.out
                              have hnb57 := NB679_660.out
                              have hnc57 := NB660_679.out
                              have hcz58_0 : w52.cell? ⟨gb679, 0, none⟩ = some (.int .u64 0) := (blk_cell BK679.out 0).trans rfl
                              have hcz58_1 : w52.cell? ⟨gb679, 1, none⟩ = some (.slice none 0 0) := (blk_cell BK679.out 1).trans rfl
                              have hfz58_0 := blk_frozen BK679.out 0
                              have hfz58_1 := blk_frozen BK679.out 1
                              have hnb59 := NB660_654.out
                              have hnc59 := NB654_660.out
                              have hcz60_0 : w52.cell? ⟨gb660, 0, none⟩ = some (.int .u64 x661000_2) := (blk_cell BK660.out 0).trans rfl
                              have hcz60_1 : w52.cell? ⟨gb660, 1, none⟩ = some (.slice Ao48 x661001_2.length co48) := (blk_cell BK660.out 1).trans rfl
                              have hfz60_0 := blk_frozen BK660.out 0
                              have hfz60_1 := blk_frozen BK660.out 1
                              try go_wp2
                              go_roundg k3
                              case measure => have := HJ5.out; have := HK2.out; have := HK3.out; omega
                              case rel => exact ⟨(wrap64 (x13_2 + 1)), (x655000_3), (x655001_3), (t674), (t675), (u655001), (.slice Ao54 t675.length co54), (by first | rfl | (simp; done) | (simp [*]; done)), H', ⟨by have := HJ5.out; have := HK2.out; have := HK3.out; omega⟩, ⟨by (with_reducible repeat (first | apply Kd.V_alloc | apply Kd.V_drewN | apply Kd.V_drew)); exact Kd.V_mono (Kd.V_far (p := ⟨gb660, 1, none⟩) (Kd.V_far (p := ⟨gb660, 0, none⟩) (Kd.V_far (p := ⟨gb679, 1, none⟩) (Kd.V_far (p := ⟨gb679, 0, none⟩) (Kd.V_mono (Kd.V_mono HO_655001.out (fun k_ hk => (⟨hk, hk.2.2⟩ : _ ∧ k_ ≠ gb679))) (fun k_ hk => (⟨hk, hk.1.2.1⟩ : _ ∧ k_ ≠ gb660))) (fun _ hk => hk.1.2) (.int .u64 t674)) (fun _ hk => hk.1.2) (.slice Ao54 t675.length co54)) (fun _ hk => hk.2) (.int .u64 t674)) (fun _ hk => hk.2) (.slice Ao54 t675.length co54)) (fun _ hk => ⟨hk.1.1.1, hk.1.1.2.1⟩)⟩, ⟨by (with_reducible repeat (first | apply Kd.V_alloc | apply Kd.V_drewN | apply Kd.V_drew)); exact Kd.V_mono (Kd.V_far (p := ⟨gb660, 1, none⟩) (Kd.V_far (p := ⟨gb660, 0, none⟩) (Kd.V_far (p := ⟨gb679, 1, none⟩) (Kd.V_far (p := ⟨gb679, 0, none⟩) (Kd.V_mono (Kd.V_mono HO677.out (fun k_ hk => (⟨hk, hk.2.2⟩ : _ ∧ k_ ≠ gb679))) (fun k_ hk => (⟨hk, hk.1.2.1⟩ : _ ∧ k_ ≠ gb660))) (fun _ hk => hk.1.2) (.int .u64 t674)) (fun _ hk => hk.1.2) (.slice Ao54 t675.length co54)) (fun _ hk => hk.2) (.int .u64 t674)) (fun _ hk => hk.2) (.slice Ao54 t675.length co54)) (fun _ hk => ⟨hk.1.1.1, hk.1.1.2.1⟩)⟩, ⟨by (with_reducible repeat (first | refine blk_drewN ?_ _ | refine blk_drew ?_ | refine blk_alloc ?_ _)); refine blk_far ?_ NB654_660.out _; (with_reducible repeat (first | refine blk_drewN ?_ _ | refine blk_drew ?_ | refine blk_alloc ?_ _)); refine blk_far ?_ NB654_660.out _; (with_reducible repeat (first | refine blk_drewN ?_ _ | refine blk_drew ?_ | refine blk_alloc ?_ _)); refine blk_far ?_ NB654_679.out _; (with_reducible repeat (first | refine blk_drewN ?_ _ | refine blk_drew ?_ | refine blk_alloc ?_ _)); refine blk_far ?_ NB654_679.out _; (with_reducible repeat (first | refine blk_drewN ?_ _ | refine blk_drew ?_ | refine blk_alloc ?_ _)); exact BK654.out⟩, ⟨by (with_reducible repeat (first | refine blk_drewN ?_ _ | refine blk_drew ?_ | refine blk_alloc ?_ _)); refine blk_put (cs := #[.int .u64 t674, .slice Ao48 x661001_2.length co48]) ?_ 1 _ rfl; (with_reducible repeat (first | refine blk_drewN ?_ _ | refine blk_drew ?_ | refine blk_alloc ?_ _)); refine blk_put (cs := #[.int .u64 x661000_2, .slice Ao48 x661001_2.length co48]) ?_ 0 _ rfl; (with_reducible repeat (first | refine blk_drewN ?_ _ | refine blk_drew ?_ | refine blk_alloc ?_ _)); refine blk_far ?_ NB660_679.out _; (with_reducible repeat (first | refine blk_drewN ?_ _ | refine blk_drew ?_ | refine blk_alloc ?_ _)); refine blk_far ?_ NB660_679.out _; (with_reducible repeat (first | refine blk_drewN ?_ _ | refine blk_drew ?_ | refine blk_alloc ?_ _)); exact BK660.out⟩, ⟨by repeat (first | (with_reducible first | exact HB.out | apply below_alloc | apply pw_below_drewN | apply below_drew1 | refine below_set ?_ GE654.out | refine below_set ?_ GE660.out | refine below_set ?_ GE679.out) | exact HB.out)⟩⟩
                            · rw [if_neg c47] at H
                              have c47b0 : (t678 == 0) = false := beq_eq_false_iff_ne.mpr c47
                              have c47b1 : (t678 != 0) = true := bne_iff_ne.mpr c47
                              exact absurd ((Option.some.inj H).trans hrt.out) (by decide)
                          · rw [if_neg c45] at H
                            exact absurd H (by simp)
                      · rw [if_neg c43] at H
                        exact absurd H (by simp)
                    · rw [if_neg c42] at H
                      exact absurd H (by simp)
            · rw [if_neg c20] at H
              have c20b0 : decide (x13_2 < ji19) = false := decide_eq_false c20
              clear c20
              replace H := Option.bind_eq_some_iff.mp H
              obtain ⟨t661, A610, H⟩ := H
              replace H : (if t661 = true then ((lead_Same.f k2 x655000_2 x655001_2 x661000_2 x661001_2).bind fun t662 => (if t662 = true then ((tattlelaw18_awakeT.f).bind fun t663 => (some t663)) else (some false))) else (some false)) = some r := H
              have A61 := Aside0.mk A610
              clear A610
              by_cases c62 : t661 = true
              · subst c62
                have H1 : ((lead_Same.f k2 x655000_2 x655001_2 x661000_2 x661001_2).bind fun t662 => (if t662 = true then ((tattlelaw18_awakeT.f).bind fun t663 => (some t663)) else (some false))) = some r := by rw [if_pos rfl] at H; exact H
                clear H
                have H := H1
                clear H1
                replace H := Option.bind_eq_some_iff.mp H
                obtain ⟨t662, A630, H⟩ := H
                replace H : (if t662 = true then ((tattlelaw18_awakeT.f).bind fun t663 => (some t663)) else (some false)) = some r := H
                have A63 := Aside0.mk A630
                clear A630
                by_cases c64 : t662 = true
                · subst c64
                  have H1 : ((tattlelaw18_awakeT.f).bind fun t663 => (some t663)) = some r := by rw [if_pos rfl] at H; exact H
                  clear H
                  have H := H1
                  clear H1
                  replace H := Option.bind_eq_some_iff.mp H
                  obtain ⟨t663, A650, H⟩ := H
                  replace H : (some t663) = some r := H
                  have A65 := Aside0.mk A650
                  clear A650
                  obtain rfl := Option.some.inj H
                  have hnb66 := NB654_660.out
                  have hnc66 := NB660_654.out
                  have hcz67_0 : wr.cell? ⟨gb654, 0, none⟩ = some (.int .u64 x655000_2) := (blk_cell BK654.out 0).trans rfl
                  have hcz67_1 : wr.cell? ⟨gb654, 1, none⟩ = some (u655001) := (blk_cell BK654.out 1).trans rfl
                  have hfz67_0 := blk_frozen BK654.out 0
                  have hfz67_1 := blk_frozen BK654.out 1
                  have hcz68_0 : wr.cell? ⟨gb660, 0, none⟩ = some (.int .u64 x661000_2) := (blk_cell BK660.out 0).trans rfl
                  have hcz68_1 : wr.cell? ⟨gb660, 1, none⟩ = some (u661001) := (blk_cell BK660.out 1).trans rfl
                  have hfz68_0 := blk_frozen BK660.out 0
                  have hfz68_1 := blk_frozen BK660.out 1
                  obtain ⟨Ao69, co69, eo69⟩ := Kd.V_slice HO_655001.out
                  subst eo69
                  obtain ⟨Ao70, co70, eo70⟩ := Kd.V_slice HO_661001.out
                  subst eo70
                  go_wp2_with (first | ((with_reducible refine gate_callee (f := 31) rfl ?_); refine goesL_ (some 101) rfl rfl Try.func31 (by kernel_rfl) rfl #[.agg #[.int .u64 x655000_2, .slice Ao69 x655001_2.length co69], .agg #[.int .u64 x661000_2, .slice Ao70 x661001_2.length co70]] rfl (by (try simp only [List.map_toArray, List.map_cons, List.map_nil]); first | done | rfl | (simp only [List.length_drop, List.length_take]; rfl)) ?_; (with_reducible refine (tattleref18_Same.calls k2 x655000_2 _ _ x655001_2 x661000_2 _ _ x661001_2 true _ ?side1 ?side2 ?side3 ?side4 A61.out).mono ?_); (case side1 => repeat (first | exact (Kd.V_reads' HO_655001.out).2.2 | (with_reducible refine Kd.C_alloc ?_ _) | (with_reducible refine Kd.C_drewN ?_ _) | (with_reducible refine Kd.C_drew ?_))); (case side2 => exact (Kd.V_reads' HO_655001.out).2.1); (case side3 => repeat (first | exact (Kd.V_reads' HO_661001.out).2.2 | (with_reducible refine Kd.C_alloc ?_ _) | (with_reducible refine Kd.C_drewN ?_ _) | (with_reducible refine Kd.C_drew ?_))); (case side4 => exact (Kd.V_reads' HO_661001.out).2.1); rintro e w71 ⟨rfl, hb⟩; refine ⟨_, rfl, ?_⟩; have n0_ := Aside0.mk (Kd.V_below (by (with_reducible repeat (first | apply Kd.V_alloc | apply Kd.V_drewN | apply Kd.V_drew)); exact HO_655001.out) hb); have n1_ := Aside0.mk (Kd.V_below (by (with_reducible repeat (first | apply Kd.V_alloc | apply Kd.V_drewN | apply Kd.V_drew)); exact HO_661001.out) hb); have n2_ := Aside0.mk (blk_below (g := gb654) (o := .cells #[.int .u64 x655000_2, .slice Ao69 x655001_2.length co69] 52 (0, 0)) (by (with_reducible repeat (first | refine blk_drewN ?_ _ | refine blk_drew ?_ | refine blk_alloc ?_ _)); exact BK654.out) hb); have n3_ := Aside0.mk (blk_below (g := gb660) (o := .cells #[.int .u64 x661000_2, .slice Ao70 x661001_2.length co70] 52 (0, 0)) (by (with_reducible repeat (first | refine blk_drewN ?_ _ | refine blk_drew ?_ | refine blk_alloc ?_ _)); exact BK660.out) hb); have n4_ := Aside0.mk (below_step (by repeat (first | (with_reducible first | exact HB.out | apply below_alloc | apply pw_below_drewN | apply below_drew1 | refine below_set ?_ GE654.out | refine below_set ?_ GE660.out) | exact HB.out)) hb); clear HO_655001; clear HO_661001; clear BK654; clear BK660; clear HB; have HO_655001 := n0_; have HO_661001 := n1_; have BK654 := n2_; have BK660 := n3_; have HB := n4_; clear n0_ n1_ n2_ n3_ n4_; (try clear hb); (try clear hb2); (try clear hk); (try clear hi); have hcz72_0 : w71.cell? ⟨gb654, 0, none⟩ = some (.int .u64 x655000_2) := (blk_cell BK654.out 0).trans rfl; have hcz72_1 : w71.cell? ⟨gb654, 1, none⟩ = some (.slice Ao69 x655001_2.length co69) := (blk_cell BK654.out 1).trans rfl; have hfz72_0 := blk_frozen BK654.out 0; have hfz72_1 := blk_frozen BK654.out 1; have hcz73_0 : w71.cell? ⟨gb660, 0, none⟩ = some (.int .u64 x661000_2) := (blk_cell BK660.out 0).trans rfl; have hcz73_1 : w71.cell? ⟨gb660, 1, none⟩ = some (.slice Ao70 x661001_2.length co70) := (blk_cell BK660.out 1).trans rfl; have hfz73_0 := blk_frozen BK660.out 0; have hfz73_1 := blk_frozen BK660.out 1) | (go_at_call 33; (with_reducible refine (lead_Same.calls k2 x655000_2 _ _ x655001_2 x661000_2 _ _ x661001_2 true _ ?side1 ?side2 ?side3 ?side4 A63.out).mono ?_); (case side1 => repeat (first | exact (Kd.V_reads' HO_655001.out).2.2 | (with_reducible refine Kd.C_alloc ?_ _) | (with_reducible refine Kd.C_drewN ?_ _) | (with_reducible refine Kd.C_drew ?_))); (case side2 => exact (Kd.V_reads' HO_655001.out).2.1); (case side3 => repeat (first | exact (Kd.V_reads' HO_661001.out).2.2 | (with_reducible refine Kd.C_alloc ?_ _) | (with_reducible refine Kd.C_drewN ?_ _) | (with_reducible refine Kd.C_drew ?_))); (case side4 => exact (Kd.V_reads' HO_661001.out).2.1); rintro e w74 ⟨rfl, hb⟩; have n0_ := Aside0.mk (Kd.V_below (by (with_reducible repeat (first | apply Kd.V_alloc | apply Kd.V_drewN | apply Kd.V_drew)); exact HO_655001.out) hb); have n1_ := Aside0.mk (Kd.V_below (by (with_reducible repeat (first | apply Kd.V_alloc | apply Kd.V_drewN | apply Kd.V_drew)); exact HO_661001.out) hb); have n2_ := Aside0.mk (blk_below (g := gb654) (o := .cells #[.int .u64 x655000_2, .slice Ao69 x655001_2.length co69] 52 (0, 0)) (by (with_reducible repeat (first | refine blk_drewN ?_ _ | refine blk_drew ?_ | refine blk_alloc ?_ _)); exact BK654.out) hb); have n3_ := Aside0.mk (blk_below (g := gb660) (o := .cells #[.int .u64 x661000_2, .slice Ao70 x661001_2.length co70] 52 (0, 0)) (by (with_reducible repeat (first | refine blk_drewN ?_ _ | refine blk_drew ?_ | refine blk_alloc ?_ _)); exact BK660.out) hb); have n4_ := Aside0.mk (below_step (by repeat (first | (with_reducible first | exact HB.out | apply below_alloc | apply pw_below_drewN | apply below_drew1 | refine below_set ?_ GE654.out | refine below_set ?_ GE660.out) | exact HB.out)) hb); clear HO_655001; clear HO_661001; clear BK654; clear BK660; clear HB; have HO_655001 := n0_; have HO_661001 := n1_; have BK654 := n2_; have BK660 := n3_; have HB := n4_; clear n0_ n1_ n2_ n3_ n4_; (try clear hb); (try clear hb2); (try clear hk); (try clear hi)) | (go_at_call 24; (with_reducible refine (tattlelaw18_awakeT.calls  t663 _ A65.out).mono ?_); rintro e w75 ⟨rfl, hb⟩; have n0_ := Aside0.mk (Kd.V_below (by (with_reducible repeat (first | apply Kd.V_alloc | apply Kd.V_drewN | apply Kd.V_drew)); exact HO_655001.out) hb); have n1_ := Aside0.mk (Kd.V_below (by (with_reducible repeat (first | apply Kd.V_alloc | apply Kd.V_drewN | apply Kd.V_drew)); exact HO_661001.out) hb); have n2_ := Aside0.mk (blk_below (g := gb654) (o := .cells #[.int .u64 x655000_2, .slice Ao69 x655001_2.length co69] 52 (0, 0)) (by (with_reducible repeat (first | refine blk_drewN ?_ _ | refine blk_drew ?_ | refine blk_alloc ?_ _)); exact BK654.out) hb); have n3_ := Aside0.mk (blk_below (g := gb660) (o := .cells #[.int .u64 x661000_2, .slice Ao70 x661001_2.length co70] 52 (0, 0)) (by (with_reducible repeat (first | refine blk_drewN ?_ _ | refine blk_drew ?_ | refine blk_alloc ?_ _)); exact BK660.out) hb); have n4_ := Aside0.mk (below_step (by repeat (first | (with_reducible first | exact HB.out | apply below_alloc | apply pw_below_drewN | apply below_drew1 | refine below_set ?_ GE654.out | refine below_set ?_ GE660.out) | exact HB.out)) hb); clear HO_655001; clear HO_661001; clear BK654; clear BK660; clear HB; have HO_655001 := n0_; have HO_661001 := n1_; have BK654 := n2_; have BK660 := n3_; have HB := n4_; clear n0_ n1_ n2_ n3_ n4_; (try clear hb); (try clear hb2); (try clear hk); (try clear hi)))
                  go_ret
                  exact ⟨by first | rfl | (simp [errW_none, errW_some] <;> rfl) | (simp only [← hji18, ← hji19]; first | rfl | (simp [errW_none, errW_some] <;> rfl)) | (simp [*, errW_none, errW_some] <;> rfl), by repeat (first | (with_reducible first | exact HB.out | apply below_alloc | apply pw_below_drewN | apply below_drew1 | refine below_set ?_ GE654.out | refine below_set ?_ GE660.out) | exact HB.out)⟩
                · replace c64 := Bool.eq_false_iff.mpr c64
                  subst c64
                  have H1 : (some false) = some r := by rw [if_neg (show ¬ (false = true) by decide)] at H; exact H
                  clear H
                  have H := H1
                  clear H1
                  exact absurd ((Option.some.inj H).trans hrt.out) (by decide)
              · replace c62 := Bool.eq_false_iff.mpr c62
                subst c62
                have H1 : (some false) = some r := by rw [if_neg (show ¬ (false = true) by decide)] at H; exact H
                clear H
                have H := H1
                clear H1
                exact absurd ((Option.some.inj H).trans hrt.out) (by decide)

end Go.Proofs.Ytgfblogneggpmaa.Fn
