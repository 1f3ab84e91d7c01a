-- Written by program (a turned copy of the kit's print) for this seat: functions, contracts. Lean checks it.
import Derived.Test.YtgfblogneggpmaaFnx0
import Derived.Test.YtgfblogneggpmaaFnx16
import Derived.Test.YtgfblogneggpmaaFnx27
import Derived.Test.YtgfblogneggpmaaExNew
import Derived.Test.YtgfblogneggpmaaExUntil
namespace Go.Proofs.Ytgfblogneggpmaa.Fn
open Go.RowKit Go.Proofs.YtgfblogneggpmaaW.PrintWords Go.Proofs.YtgfblogneggpmaaW.PrintLast Go.Proofs.YtgfblogneggpmaaW.PrintMore
attribute [local go_sem] max2_int min2_int max_two min_two max_three min_three max_four min_four   -- for this text's walks alone
set_option linter.unusedVariables false
set_option linter.unusedSimpArgs false

/-! ### tattlelaw18_awake: function 24 -/
def tattlelaw18_awake.f (k : Nat)  : Option (Bool) := (lead_New.f 3).bind fun bt473 => ((lead_Start.f bt473.1 bt473.2.1 2).bind fun bt479 => ((lead_Granted.f k bt479.1 bt479.2.1 0 2 5).bind fun bt484 => ((lead_Granted.f k bt484.1 bt484.2.1 2 2 9).bind fun bt490 => ((tattlelaw18_ten.f).bind fun bt496 => ((lead_Until.f bt496.1 bt496.2.1 bt496.2.2 bt484.1 bt484.2.1).bind fun bt499 => ((tattlelaw18_ten.f).bind fun bt502 => ((lead_Until.f bt502.1 bt502.2.1 bt502.2.2 bt490.1 bt490.2.1).bind fun bt505 => ((lead_Granted.f k bt490.1 bt490.2.1 1 3 9).bind fun bt508 => (if (bt479.2.1.length : Int) = 3 then (if bt473.2.2 = 0 then (if bt479.2.2 = 0 then (if bt484.2.2 = 0 then (if bt490.2.2 = 0 then (if bt499.2.1 = true then (some false) else (if bt505.2.1 = true then (if bt505.1 = 12 then (if bt505.2.2 = 0 then (some (bt508.2.2 == 8)) else (some false)) else (some false)) else (some false))) else (some false)) else (some false)) else (some false)) else (some false)) else (some false))))))))))
theorem tattlelaw18_awake.mono : ∀ k, LeO (tattlelaw18_awake.f k ) (tattlelaw18_awake.f (k + 1) ) := by
  intro  k
  unfold tattlelaw18_awake.f
  repeat' first
      | (with_reducible exact lead_Granted.mono _ _ _ _ _ _)
      | (with_reducible exact LeO.refl _)
      | (with_reducible exact LeO.none _)
      | (with_reducible refine LeO.ite ?_ ?_)
      | (with_reducible refine LeO.bind ?_ (fun _ => ?_))
      | exact lead_Granted.mono _ _ _ _ _ _
      | exact LeO.none _
      | refine LeO.ite ?_ ?_
      | refine LeO.bind ?_ (fun _ => ?_)
def tattlelaw18_awake.T5 : Bool × List (List Nat × List Nat) := (true, [([], []), ([], []), ([0, 1, 0], [0, 1]), ([2], [2]), ([3], [3]), ([3], [3]), ([3], [3]), ([4, 2, 0, 1, 2, 3, 4], [4]), ([5, 7, 0, 1, 2, 3, 4, 5, 7], [5]), ([6, 8, 0, 1, 2, 3, 4, 5, 6, 7, 8], [6])])
def tattlelaw18_awake.B5 : List Nat := [0, 0, 3, 7, 15, 15, 15, 31, 191, 511]
theorem tattlelaw18_awake.tab5 : rtab .any (opsOf Try.f24 5) = tattlelaw18_awake.T5 := by kernel_rfl
theorem tattlelaw18_awake.bits5 : waitsOk tattlelaw18_awake.T5.2 tattlelaw18_awake.B5 = true := by kernel_rfl
def tattlelaw18_awake.T6 : Bool × List (List Nat × List Nat) := (true, [([], []), ([], []), ([0, 1, 0], [0, 1]), ([2], [2]), ([3], [3]), ([3], [3]), ([3], [3]), ([4, 2, 0, 1, 2, 3, 4], [4]), ([5, 7, 0, 1, 2, 3, 4, 5, 7], [5]), ([6, 8, 0, 1, 2, 3, 4, 5, 6, 7, 8], [6])])
def tattlelaw18_awake.B6 : List Nat := [0, 0, 3, 7, 15, 15, 15, 31, 191, 511]
theorem tattlelaw18_awake.tab6 : rtab .any (opsOf Try.f24 6) = tattlelaw18_awake.T6 := by kernel_rfl
theorem tattlelaw18_awake.bits6 : waitsOk tattlelaw18_awake.T6.2 tattlelaw18_awake.B6 = true := by kernel_rfl
set_option maxHeartbeats 8000000 in
set_option maxRecDepth 100000 in
theorem tattlelaw18_awake.calls (k : Nat)  (r : Bool) (w : World) (hrt : Aside0 (r = true)) (h : tattlelaw18_awake.f k  = some r) :
    Calls Try.prog 24 #[] w fun e w' => e = .returned (.bool r) ∧ Below w.heap.size w w' := by
  have hu52 := Try.underlying52
  have HB := Aside0.mk (Below.refl w.heap.size w)
  have H : ((lead_New.f 3).bind fun bt473 => ((lead_Start.f bt473.1 bt473.2.1 2).bind fun bt479 => ((lead_Granted.f k bt479.1 bt479.2.1 0 2 5).bind fun bt484 => ((lead_Granted.f k bt484.1 bt484.2.1 2 2 9).bind fun bt490 => ((tattlelaw18_ten.f).bind fun bt496 => ((lead_Until.f bt496.1 bt496.2.1 bt496.2.2 bt484.1 bt484.2.1).bind fun bt499 => ((tattlelaw18_ten.f).bind fun bt502 => ((lead_Until.f bt502.1 bt502.2.1 bt502.2.2 bt490.1 bt490.2.1).bind fun bt505 => ((lead_Granted.f k bt490.1 bt490.2.1 1 3 9).bind fun bt508 => (if (bt479.2.1.length : Int) = 3 then (if bt473.2.2 = 0 then (if bt479.2.2 = 0 then (if bt484.2.2 = 0 then (if bt490.2.2 = 0 then (if bt499.2.1 = true then (some false) else (if bt505.2.1 = true then (if bt505.1 = 12 then (if bt505.2.2 = 0 then (some (bt508.2.2 == 8)) else (some false)) else (some false)) else (some false))) else (some false)) else (some false)) else (some false)) else (some false)) else (some false))))))))))) = some r := h
  clear h
  replace H := Option.bind_eq_some_iff.mp H
  obtain ⟨⟨t473, t474, t477⟩, A10, H⟩ := H
  replace H : ((lead_Start.f t473 t474 2).bind fun bt479 => ((lead_Granted.f k bt479.1 bt479.2.1 0 2 5).bind fun bt484 => ((lead_Granted.f k bt484.1 bt484.2.1 2 2 9).bind fun bt490 => ((tattlelaw18_ten.f).bind fun bt496 => ((lead_Until.f bt496.1 bt496.2.1 bt496.2.2 bt484.1 bt484.2.1).bind fun bt499 => ((tattlelaw18_ten.f).bind fun bt502 => ((lead_Until.f bt502.1 bt502.2.1 bt502.2.2 bt490.1 bt490.2.1).bind fun bt505 => ((lead_Granted.f k bt490.1 bt490.2.1 1 3 9).bind fun bt508 => (if (bt479.2.1.length : Int) = 3 then (if t477 = 0 then (if bt479.2.2 = 0 then (if bt484.2.2 = 0 then (if bt490.2.2 = 0 then (if bt499.2.1 = true then (some false) else (if bt505.2.1 = true then (if bt505.1 = 12 then (if bt505.2.2 = 0 then (some (bt508.2.2 == 8)) else (some false)) else (some false)) else (some false))) else (some false)) else (some false)) else (some false)) else (some false)) else (some false)))))))))) = some r := H
  have A1 := Aside0.mk A10
  clear A10
  replace H := Option.bind_eq_some_iff.mp H
  obtain ⟨⟨t479, t480, t483⟩, A20, H⟩ := H
  replace H : ((lead_Granted.f k t479 t480 0 2 5).bind fun bt484 => ((lead_Granted.f k bt484.1 bt484.2.1 2 2 9).bind fun bt490 => ((tattlelaw18_ten.f).bind fun bt496 => ((lead_Until.f bt496.1 bt496.2.1 bt496.2.2 bt484.1 bt484.2.1).bind fun bt499 => ((tattlelaw18_ten.f).bind fun bt502 => ((lead_Until.f bt502.1 bt502.2.1 bt502.2.2 bt490.1 bt490.2.1).bind fun bt505 => ((lead_Granted.f k bt490.1 bt490.2.1 1 3 9).bind fun bt508 => (if (t480.length : Int) = 3 then (if t477 = 0 then (if t483 = 0 then (if bt484.2.2 = 0 then (if bt490.2.2 = 0 then (if bt499.2.1 = true then (some false) else (if bt505.2.1 = true then (if bt505.1 = 12 then (if bt505.2.2 = 0 then (some (bt508.2.2 == 8)) else (some false)) else (some false)) else (some false))) else (some false)) else (some false)) else (some false)) else (some false)) else (some false))))))))) = some r := H
  have A2 := Aside0.mk A20
  clear A20
  replace H := Option.bind_eq_some_iff.mp H
  obtain ⟨⟨t484, t485, t488⟩, A30, H⟩ := H
  replace H : ((lead_Granted.f k t484 t485 2 2 9).bind fun bt490 => ((tattlelaw18_ten.f).bind fun bt496 => ((lead_Until.f bt496.1 bt496.2.1 bt496.2.2 t484 t485).bind fun bt499 => ((tattlelaw18_ten.f).bind fun bt502 => ((lead_Until.f bt502.1 bt502.2.1 bt502.2.2 bt490.1 bt490.2.1).bind fun bt505 => ((lead_Granted.f k bt490.1 bt490.2.1 1 3 9).bind fun bt508 => (if (t480.length : Int) = 3 then (if t477 = 0 then (if t483 = 0 then (if t488 = 0 then (if bt490.2.2 = 0 then (if bt499.2.1 = true then (some false) else (if bt505.2.1 = true then (if bt505.1 = 12 then (if bt505.2.2 = 0 then (some (bt508.2.2 == 8)) else (some false)) else (some false)) else (some false))) else (some false)) else (some false)) else (some false)) else (some false)) else (some false)))))))) = some r := H
  have A3 := Aside0.mk A30
  clear A30
  replace H := Option.bind_eq_some_iff.mp H
  obtain ⟨⟨t490, t491, t494⟩, A40, H⟩ := H
  replace H : ((tattlelaw18_ten.f).bind fun bt496 => ((lead_Until.f bt496.1 bt496.2.1 bt496.2.2 t484 t485).bind fun bt499 => ((tattlelaw18_ten.f).bind fun bt502 => ((lead_Until.f bt502.1 bt502.2.1 bt502.2.2 t490 t491).bind fun bt505 => ((lead_Granted.f k t490 t491 1 3 9).bind fun bt508 => (if (t480.length : Int) = 3 then (if t477 = 0 then (if t483 = 0 then (if t488 = 0 then (if t494 = 0 then (if bt499.2.1 = true then (some false) else (if bt505.2.1 = true then (if bt505.1 = 12 then (if bt505.2.2 = 0 then (some (bt508.2.2 == 8)) else (some false)) else (some false)) else (some false))) else (some false)) else (some false)) else (some false)) else (some false)) else (some false))))))) = some r := H
  have A4 := Aside0.mk A40
  clear A40
  replace H := Option.bind_eq_some_iff.mp H
  obtain ⟨⟨t496, t497, t498⟩, A50, H⟩ := H
  replace H : ((lead_Until.f t496 t497 t498 t484 t485).bind fun bt499 => ((tattlelaw18_ten.f).bind fun bt502 => ((lead_Until.f bt502.1 bt502.2.1 bt502.2.2 t490 t491).bind fun bt505 => ((lead_Granted.f k t490 t491 1 3 9).bind fun bt508 => (if (t480.length : Int) = 3 then (if t477 = 0 then (if t483 = 0 then (if t488 = 0 then (if t494 = 0 then (if bt499.2.1 = true then (some false) else (if bt505.2.1 = true then (if bt505.1 = 12 then (if bt505.2.2 = 0 then (some (bt508.2.2 == 8)) else (some false)) else (some false)) else (some false))) else (some false)) else (some false)) else (some false)) else (some false)) else (some false)))))) = some r := H
  have A5 := Aside0.mk A50
  clear A50
  replace H := Option.bind_eq_some_iff.mp H
  obtain ⟨⟨t499, t500, t501⟩, A60, H⟩ := H
  replace H : ((tattlelaw18_ten.f).bind fun bt502 => ((lead_Until.f bt502.1 bt502.2.1 bt502.2.2 t490 t491).bind fun bt505 => ((lead_Granted.f k t490 t491 1 3 9).bind fun bt508 => (if (t480.length : Int) = 3 then (if t477 = 0 then (if t483 = 0 then (if t488 = 0 then (if t494 = 0 then (if t500 = true then (some false) else (if bt505.2.1 = true then (if bt505.1 = 12 then (if bt505.2.2 = 0 then (some (bt508.2.2 == 8)) else (some false)) else (some false)) else (some false))) else (some false)) else (some false)) else (some false)) else (some false)) else (some false))))) = some r := H
  have A6 := Aside0.mk A60
  clear A60
  replace H := Option.bind_eq_some_iff.mp H
  obtain ⟨⟨t502, t503, t504⟩, A70, H⟩ := H
  replace H : ((lead_Until.f t502 t503 t504 t490 t491).bind fun bt505 => ((lead_Granted.f k t490 t491 1 3 9).bind fun bt508 => (if (t480.length : Int) = 3 then (if t477 = 0 then (if t483 = 0 then (if t488 = 0 then (if t494 = 0 then (if t500 = true then (some false) else (if bt505.2.1 = true then (if bt505.1 = 12 then (if bt505.2.2 = 0 then (some (bt508.2.2 == 8)) else (some false)) else (some false)) else (some false))) else (some false)) else (some false)) else (some false)) else (some false)) else (some false)))) = some r := H
  have A7 := Aside0.mk A70
  clear A70
  replace H := Option.bind_eq_some_iff.mp H
  obtain ⟨⟨t505, t506, t507⟩, A80, H⟩ := H
  replace H : ((lead_Granted.f k t490 t491 1 3 9).bind fun bt508 => (if (t480.length : Int) = 3 then (if t477 = 0 then (if t483 = 0 then (if t488 = 0 then (if t494 = 0 then (if t500 = true then (some false) else (if t506 = true then (if t505 = 12 then (if t507 = 0 then (some (bt508.2.2 == 8)) else (some false)) else (some false)) else (some false))) else (some false)) else (some false)) else (some false)) else (some false)) else (some false))) = some r := H
  have A8 := Aside0.mk A80
  clear A80
  replace H := Option.bind_eq_some_iff.mp H
  obtain ⟨⟨t508, t509, t512⟩, A90, H⟩ := H
  replace H : (if (t480.length : Int) = 3 then (if t477 = 0 then (if t483 = 0 then (if t488 = 0 then (if t494 = 0 then (if t500 = true then (some false) else (if t506 = true then (if t505 = 12 then (if t507 = 0 then (some (t512 == 8)) else (some false)) else (some false)) else (some false))) else (some false)) else (some false)) else (some false)) else (some false)) else (some false)) = some r := H
  have A9 := Aside0.mk A90
  clear A90
  by_cases c10 : (t480.length : Int) = 3
  · rw [if_pos c10] at H
    have c10b0 : ((t480.length : Int) == 3) = true := beq_iff_eq.mpr c10
    have c10b1 : ((t480.length : Int) != 3) = false := bne_eq_false_iff_eq.mpr c10
    clear c10
    by_cases c11 : t477 = 0
    · rw [if_pos c11] at H
      have c11b0 : (t477 == 0) = true := beq_iff_eq.mpr c11
      have c11b1 : (t477 != 0) = false := bne_eq_false_iff_eq.mpr c11
      clear c11
      by_cases c12 : t483 = 0
      · rw [if_pos c12] at H
        have c12b0 : (t483 == 0) = true := beq_iff_eq.mpr c12
        have c12b1 : (t483 != 0) = false := bne_eq_false_iff_eq.mpr c12
        clear c12
        by_cases c13 : t488 = 0
        · rw [if_pos c13] at H
          have c13b0 : (t488 == 0) = true := beq_iff_eq.mpr c13
          have c13b1 : (t488 != 0) = false := bne_eq_false_iff_eq.mpr c13
          clear c13
          by_cases c14 : t494 = 0
          · rw [if_pos c14] at H
            have c14b0 : (t494 == 0) = true := beq_iff_eq.mpr c14
            have c14b1 : (t494 != 0) = false := bne_eq_false_iff_eq.mpr c14
            clear c14
            by_cases c15 : t500 = true
            · subst c15
              have H1 : (some false) = some r := by rw [if_pos rfl] at H; exact H
              clear H
              have H := H1
              clear H1
              exact absurd ((Option.some.inj H).trans hrt.out) (by decide)
            · replace c15 := Bool.eq_false_iff.mpr c15
              subst c15
              have H1 : (if t506 = true then (if t505 = 12 then (if t507 = 0 then (some (t512 == 8)) else (some false)) else (some false)) else (some false)) = some r := by rw [if_neg (show ¬ (false = true) by decide)] at H; exact H
              clear H
              have H := H1
              clear H1
              by_cases c16 : t506 = true
              · subst c16
                have H1 : (if t505 = 12 then (if t507 = 0 then (some (t512 == 8)) else (some false)) else (some false)) = some r := by rw [if_pos rfl] at H; exact H
                clear H
                have H := H1
                clear H1
                by_cases c17 : t505 = 12
                · rw [if_pos c17] at H
                  have c17b0 : (t505 == 12) = true := beq_iff_eq.mpr c17
                  have c17b1 : (t505 != 12) = false := bne_eq_false_iff_eq.mpr c17
                  clear c17
                  by_cases c18 : t507 = 0
                  · rw [if_pos c18] at H
                    have c18b0 : (t507 == 0) = true := beq_iff_eq.mpr c18
                    have c18b1 : (t507 != 0) = false := bne_eq_false_iff_eq.mpr c18
                    clear c18
                    obtain rfl := Option.some.inj H
                    go_enter Try.func24, Try.ntmps24
                    try go_wp2_with (first | ((with_reducible refine gate_callee (f := 25) rfl ?_); refine goesL_ (some 17) rfl rfl Try.func25 (by kernel_rfl) rfl #[.int .i64 3] rfl (by (try simp only [List.map_toArray, List.map_cons, List.map_nil]); first | done | rfl | (simp only [List.length_drop, List.length_take]; rfl)) ?_; (with_reducible refine (lead_New.calls 3 t473 t474 t477 _ A1.out).mono ?_); rintro e w19 ⟨v475, rfl, ho0, hb⟩; refine ⟨_, rfl, ?_⟩; have n0_ := Aside0.mk (Kd.R_lower ho0 (below_size (by repeat (first | (with_reducible first | exact HB.out | apply below_alloc | apply pw_below_drewN | apply below_drew1) | exact HB.out)))); have n1_ := Aside0.mk (below_step (by repeat (first | (with_reducible first | exact HB.out | apply below_alloc | apply pw_below_drewN | apply below_drew1) | exact HB.out)) hb); clear HB; have HO476 := n0_; have HB := n1_; clear n0_ n1_; (try clear hb); (try clear hb2); (try clear hk); (try clear hi); (try clear ho0)) | ((with_reducible refine gate_dst (N := 1) rfl ?_); refine box_event ?hg (N := 1) ?hd (cs := #[.int .u64 0, .slice none 0 0]) (t := 52) ?hr ?_; (case hd => rfl); (case hg => rfl); (case hr => first | (go_simp; done) | (go_simp; rfl)); intro gb478 hg w20 hbox hb; have n0_ := Aside0.mk (Kd.R_below (by (with_reducible repeat (first | apply Kd.R_alloc | apply Kd.R_drewN | apply Kd.R_drew)); exact HO476.out) hb); have n1_ := Aside0.mk (below_step (by repeat (first | (with_reducible first | exact HB.out | apply below_alloc | apply pw_below_drewN | apply below_drew1) | exact HB.out)) hb); have n2_ := Aside0.mk (hbox); have n3_ := Aside0.mk ((by rw [hg]; exact (below_size (by repeat (first | (with_reducible first | exact HB.out | apply below_alloc | apply pw_below_drewN | apply below_drew1) | exact HB.out))) : w.heap.size ≤ gb478)); have n4_ := Aside0.mk ((by rw [hg]; exact (below_size (by repeat (first | (with_reducible first | exact HB.out | apply below_alloc | apply pw_below_drewN | apply below_drew1) | exact HB.out))) : w.heap.size ≤ gb478)); clear HO476; clear HB; have HO476 := n0_; have HB := n1_; have BK478 := n2_; have GW478 := n3_; have GE478 := n4_; clear n0_ n1_ n2_ n3_ n4_; clear hb hbox hg; have hcz21_0 : w20.cell? ⟨gb478, 0, none⟩ = some (.int .u64 0) := (blk_cell BK478.out 0).trans rfl; have hcz21_1 : w20.cell? ⟨gb478, 1, none⟩ = some (.slice none 0 0) := (blk_cell BK478.out 1).trans rfl; have hfz21_0 := blk_frozen BK478.out 0; have hfz21_1 := blk_frozen BK478.out 1; obtain ⟨Ao22, co22, eo22⟩ := Kd.R_slice HO476.out; subst eo22) | ((with_reducible refine gate_store (t := 52) (p := 1) rfl ?_); refine store_event (t := 52) (p := 1) (v := ?vo_w23) (w1 := ((w20.setCell ⟨gb478, 0, none⟩ (.int .u64 t473)).setCell ⟨gb478, 1, none⟩ (.slice Ao22 t474.length co22))) ?hg ?ho ?hn ?hr ?_; (case ho => rfl); (case hg => rfl); (case hn => rfl); (case hr => first | (go_simp; done) | (go_simp; rfl)); intro w23 hw; have n0_ : Aside0 (Kd.R (Kd.int .i64) 2 w23 w.heap.size (fun _ => True) (.slice Ao22 t474.length co22) t474) := ⟨(by rw [hw]; exact (by (with_reducible repeat (first | apply Kd.R_alloc | apply Kd.R_drewN | apply Kd.R_drew)); exact Kd.R_mono (Kd.R_far (p := ⟨gb478, 1, none⟩) (Kd.R_far (p := ⟨gb478, 0, none⟩) (Kd.R_types HO476.out BK478.out (by decide)) (fun _ hk => hk.2) (.int .u64 t473)) (fun _ hk => hk.2) (.slice Ao22 t474.length co22)) (fun _ hk => trivial)))⟩; have n1_ : Aside0 (w23.heap[gb478]? = some (.cells #[.int .u64 t473, .slice Ao22 t474.length co22] 52 (0, 0))) := ⟨(by rw [hw]; exact (by (with_reducible repeat (first | refine blk_drewN ?_ _ | refine blk_drew ?_ | refine blk_alloc ?_ _)); refine blk_put (cs := #[.int .u64 t473, .slice none 0 0]) ?_ 1 _ rfl; (with_reducible repeat (first | refine blk_drewN ?_ _ | refine blk_drew ?_ | refine blk_alloc ?_ _)); refine blk_put (cs := #[.int .u64 0, .slice none 0 0]) ?_ 0 _ rfl; (with_reducible repeat (first | refine blk_drewN ?_ _ | refine blk_drew ?_ | refine blk_alloc ?_ _)); exact BK478.out))⟩; have n2_ : Aside0 (Below w.heap.size w w23) := ⟨(by rw [hw]; exact (by repeat (first | (with_reducible first | exact HB.out | apply below_alloc | apply pw_below_drewN | apply below_drew1 | refine below_set ?_ GE478.out) | exact HB.out)))⟩; clear hw; clear HO476; clear BK478; clear HB; have HO476 := n0_; have BK478 := n1_; have HB := n2_; clear n0_ n1_ n2_; have hcz24_0 : w23.cell? ⟨gb478, 0, none⟩ = some (.int .u64 t473) := (blk_cell BK478.out 0).trans rfl; have hcz24_1 : w23.cell? ⟨gb478, 1, none⟩ = some (.slice Ao22 t474.length co22) := (blk_cell BK478.out 1).trans rfl; have hfz24_0 := blk_frozen BK478.out 0; have hfz24_1 := blk_frozen BK478.out 1) | ((with_reducible refine gate_callee (f := 29) rfl ?_); refine goesL_ (some 22) rfl rfl Try.func29 (by kernel_rfl) rfl #[.agg #[.int .u64 t473, .slice Ao22 t474.length co22], .int .u64 2] rfl (by (try simp only [List.map_toArray, List.map_cons, List.map_nil]); first | done | rfl | (simp only [List.length_drop, List.length_take]; rfl)) ?_; (with_reducible refine (lead_Start.calls t473 (fun k_ => some k_ = (.slice Ao22 t474.length co22 : Value).ownBlock) _ _ t474 2 t479 t480 t483 _ ?side1 A2.out).mono ?_); (case side1 => exact Kd.R_V (Kd.R_tight rfl (Kd.R_types (HO476.out) BK478.out (by decide)))); rintro e w25 ⟨v481, rfl, ho0, hb⟩; refine ⟨_, rfl, ?_⟩; have n0_ := Aside0.mk (Kd.R_below (by (with_reducible repeat (first | apply Kd.R_alloc | apply Kd.R_drewN | apply Kd.R_drew)); exact HO476.out) hb); have n1_ := Aside0.mk (Kd.V_lower (Kd.V_mono (ok' := fun k_ => k_ ≠ gb478) ho0 (fun k_ hk_ => Or.elim hk_ (fun hs_ => ((Kd.R_types (HO476.out) BK478.out (by decide)).1 k_ hs_.symm).2) (fun hn_ => (Kd.freshB (g := gb478) (o := .cells #[.int .u64 t473, .slice Ao22 t474.length co22] 52 (0, 0)) (by (with_reducible repeat (first | refine blk_drewN ?_ _ | refine blk_drew ?_ | refine blk_alloc ?_ _)); exact BK478.out) k_ hn_)))) (below_size (by repeat (first | (with_reducible first | exact HB.out | apply below_alloc | apply pw_below_drewN | apply below_drew1 | refine below_set ?_ GE478.out) | exact HB.out)))); have n2_ := Aside0.mk (blk_below (g := gb478) (o := .cells #[.int .u64 t473, .slice Ao22 t474.length co22] 52 (0, 0)) (by (with_reducible repeat (first | refine blk_drewN ?_ _ | refine blk_drew ?_ | refine blk_alloc ?_ _)); exact BK478.out) hb); have n3_ := Aside0.mk (below_step (by repeat (first | (with_reducible first | exact HB.out | apply below_alloc | apply pw_below_drewN | apply below_drew1 | refine below_set ?_ GE478.out) | exact HB.out)) hb); clear HO476; clear BK478; clear HB; have HO476 := n0_; have HO482 := n1_; have BK478 := n2_; have HB := n3_; clear n0_ n1_ n2_ n3_; (try clear hb); (try clear hb2); (try clear hk); (try clear hi); (try clear ho0); have hcz26_0 : w25.cell? ⟨gb478, 0, none⟩ = some (.int .u64 t473) := (blk_cell BK478.out 0).trans rfl; have hcz26_1 : w25.cell? ⟨gb478, 1, none⟩ = some (.slice Ao22 t474.length co22) := (blk_cell BK478.out 1).trans rfl; have hfz26_0 := blk_frozen BK478.out 0; have hfz26_1 := blk_frozen BK478.out 1; obtain ⟨Ao27, co27, eo27⟩ := Kd.V_slice HO482.out; subst eo27) | ((with_reducible refine gate_store (t := 52) (p := 1) rfl ?_); refine store_event (t := 52) (p := 1) (v := ?vo_w28) (w1 := ((w25.setCell ⟨gb478, 0, none⟩ (.int .u64 t479)).setCell ⟨gb478, 1, none⟩ (.slice Ao27 t480.length co27))) ?hg ?ho ?hn ?hr ?_; (case ho => rfl); (case hg => rfl); (case hn => rfl); (case hr => first | (go_simp; done) | (go_simp; rfl)); intro w28 hw; have n0_ : Aside0 (Kd.R (Kd.int .i64) 2 w28 w.heap.size (fun _ => True) (.slice Ao22 t474.length co22) t474) := ⟨(by rw [hw]; exact (by (with_reducible repeat (first | apply Kd.R_alloc | apply Kd.R_drewN | apply Kd.R_drew)); exact Kd.R_mono (Kd.R_far (p := ⟨gb478, 1, none⟩) (Kd.R_far (p := ⟨gb478, 0, none⟩) (Kd.R_types HO476.out BK478.out (by decide)) (fun _ hk => hk.2) (.int .u64 t479)) (fun _ hk => hk.2) (.slice Ao27 t480.length co27)) (fun _ hk => trivial)))⟩; have n1_ : Aside0 (Kd.V (Kd.int .i64) 2 w28 w.heap.size (fun k_ => k_ ≠ gb478) (.slice Ao27 t480.length co27) t480) := ⟨(by rw [hw]; exact (by (with_reducible repeat (first | apply Kd.V_alloc | apply Kd.V_drewN | apply Kd.V_drew)); exact Kd.V_mono (Kd.V_far (p := ⟨gb478, 1, none⟩) (Kd.V_far (p := ⟨gb478, 0, none⟩) (Kd.V_mono HO482.out (fun k_ hk => (⟨hk, hk⟩ : _ ∧ k_ ≠ gb478))) (fun _ hk => hk.2) (.int .u64 t479)) (fun _ hk => hk.2) (.slice Ao27 t480.length co27)) (fun _ hk => hk.1)))⟩; have n2_ : Aside0 (w28.heap[gb478]? = some (.cells #[.int .u64 t479, .slice Ao27 t480.length co27] 52 (0, 0))) := ⟨(by rw [hw]; exact (by (with_reducible repeat (first | refine blk_drewN ?_ _ | refine blk_drew ?_ | refine blk_alloc ?_ _)); refine blk_put (cs := #[.int .u64 t479, .slice Ao22 t474.length co22]) ?_ 1 _ rfl; (with_reducible repeat (first | refine blk_drewN ?_ _ | refine blk_drew ?_ | refine blk_alloc ?_ _)); refine blk_put (cs := #[.int .u64 t473, .slice Ao22 t474.length co22]) ?_ 0 _ rfl; (with_reducible repeat (first | refine blk_drewN ?_ _ | refine blk_drew ?_ | refine blk_alloc ?_ _)); exact BK478.out))⟩; have n3_ : Aside0 (Below w.heap.size w w28) := ⟨(by rw [hw]; exact (by repeat (first | (with_reducible first | exact HB.out | apply below_alloc | apply pw_below_drewN | apply below_drew1 | refine below_set ?_ GE478.out) | exact HB.out)))⟩; clear hw; clear HO476; clear HO482; clear BK478; clear HB; have HO476 := n0_; have HO482 := n1_; have BK478 := n2_; have HB := n3_; clear n0_ n1_ n2_ n3_; have hcz29_0 : w28.cell? ⟨gb478, 0, none⟩ = some (.int .u64 t479) := (blk_cell BK478.out 0).trans rfl; have hcz29_1 : w28.cell? ⟨gb478, 1, none⟩ = some (.slice Ao27 t480.length co27) := (blk_cell BK478.out 1).trans rfl; have hfz29_0 := blk_frozen BK478.out 0; have hfz29_1 := blk_frozen BK478.out 1) | ((with_reducible refine gate_callee (f := 22) rfl ?_); refine goesL_ (some 27) rfl rfl Try.func22 (by kernel_rfl) rfl #[.agg #[.int .u64 t479, .slice Ao27 t480.length co27], .int .i64 0, .int .u64 2, .int .i64 5] rfl (by (try simp only [List.map_toArray, List.map_cons, List.map_nil]); first | done | rfl | (simp only [List.length_drop, List.length_take]; rfl)) ?_; (with_reducible refine (lead_Granted.calls k t479 (fun k_ => k_ ≠ gb478) _ _ t480 0 2 5 t484 t485 t488 _ ?side1 A3.out).mono ?_); (case side1 => exact HO482.out); rintro e w30 ⟨v486, rfl, ho0, hb⟩; refine ⟨_, rfl, ?_⟩; have n0_ := Aside0.mk (Kd.R_below (by (with_reducible repeat (first | apply Kd.R_alloc | apply Kd.R_drewN | apply Kd.R_drew)); exact HO476.out) hb); have n1_ := Aside0.mk (Kd.V_below (by (with_reducible repeat (first | apply Kd.V_alloc | apply Kd.V_drewN | apply Kd.V_drew)); exact HO482.out) hb); have n2_ := Aside0.mk (Kd.V_lower (Kd.V_mono (ok' := fun k_ => k_ ≠ gb478) ho0 (fun k_ hk_ => Or.elim hk_ (fun hs_ => hs_) (fun hn_ => (Kd.freshB (g := gb478) (o := .cells #[.int .u64 t479, .slice Ao27 t480.length co27] 52 (0, 0)) (by (with_reducible repeat (first | refine blk_drewN ?_ _ | refine blk_drew ?_ | refine blk_alloc ?_ _)); exact BK478.out) k_ hn_)))) (below_size (by repeat (first | (with_reducible first | exact HB.out | apply below_alloc | apply pw_below_drewN | apply below_drew1 | refine below_set ?_ GE478.out) | exact HB.out)))); have n3_ := Aside0.mk (blk_below (g := gb478) (o := .cells #[.int .u64 t479, .slice Ao27 t480.length co27] 52 (0, 0)) (by (with_reducible repeat (first | refine blk_drewN ?_ _ | refine blk_drew ?_ | refine blk_alloc ?_ _)); exact BK478.out) hb); have n4_ := Aside0.mk (below_step (by repeat (first | (with_reducible first | exact HB.out | apply below_alloc | apply pw_below_drewN | apply below_drew1 | refine below_set ?_ GE478.out) | exact HB.out)) hb); clear HO476; clear HO482; clear BK478; clear HB; have HO476 := n0_; have HO482 := n1_; have HO487 := n2_; have BK478 := n3_; have HB := n4_; clear n0_ n1_ n2_ n3_ n4_; (try clear hb); (try clear hb2); (try clear hk); (try clear hi); (try clear ho0)) | ((with_reducible refine gate_dst (N := 4) rfl ?_); refine box_event ?hg (N := 4) ?hd (cs := #[.int .u64 0, .slice none 0 0]) (t := 52) ?hr ?_; (case hd => rfl); (case hg => rfl); (case hr => first | (go_simp; done) | (go_simp; rfl)); intro gb489 hg w31 hbox hb; have n0_ := Aside0.mk (Kd.R_below (by (with_reducible repeat (first | apply Kd.R_alloc | apply Kd.R_drewN | apply Kd.R_drew)); exact HO476.out) hb); have n1_ := Aside0.mk (Kd.V_below (Kd.V_elderB (by (with_reducible repeat (first | apply Kd.V_alloc | apply Kd.V_drewN | apply Kd.V_drew)); exact HO482.out) gb489 (Nat.le_of_eq hg.symm)) hb); have n2_ := Aside0.mk (Kd.V_below (Kd.V_elderB (by (with_reducible repeat (first | apply Kd.V_alloc | apply Kd.V_drewN | apply Kd.V_drew)); exact HO487.out) gb489 (Nat.le_of_eq hg.symm)) hb); have n3_ := Aside0.mk (blk_below (g := gb478) (o := .cells #[.int .u64 t479, .slice Ao27 t480.length co27] 52 (0, 0)) (by (with_reducible repeat (first | refine blk_drewN ?_ _ | refine blk_drew ?_ | refine blk_alloc ?_ _)); exact BK478.out) hb); have n4_ := Aside0.mk (below_step (by repeat (first | (with_reducible first | exact HB.out | apply below_alloc | apply pw_below_drewN | apply below_drew1 | refine below_set ?_ GE478.out) | exact HB.out)) hb); have n5_ := Aside0.mk (hbox); have n6_ := Aside0.mk ((by rw [hg]; exact (below_size (by repeat (first | (with_reducible first | exact HB.out | apply below_alloc | apply pw_below_drewN | apply below_drew1 | refine below_set ?_ GE478.out) | exact HB.out))) : w.heap.size ≤ gb489)); have n7_ := Aside0.mk ((by rw [hg]; exact (below_size (by repeat (first | (with_reducible first | exact HB.out | apply below_alloc | apply pw_below_drewN | apply below_drew1 | refine below_set ?_ GE478.out) | exact HB.out))) : w.heap.size ≤ gb489)); have n8_ := Aside0.mk ((by rw [hg]; exact Nat.ne_of_lt (blk_lt (g := gb478) (o := .cells #[.int .u64 t479, .slice Ao27 t480.length co27] 52 (0, 0)) (by (with_reducible repeat (first | refine blk_drewN ?_ _ | refine blk_drew ?_ | refine blk_alloc ?_ _)); exact BK478.out)) : gb478 ≠ gb489)); have n9_ := Aside0.mk ((by rw [hg]; exact Nat.ne_of_gt (blk_lt (g := gb478) (o := .cells #[.int .u64 t479, .slice Ao27 t480.length co27] 52 (0, 0)) (by (with_reducible repeat (first | refine blk_drewN ?_ _ | refine blk_drew ?_ | refine blk_alloc ?_ _)); exact BK478.out)) : gb489 ≠ gb478)); clear HO476; clear HO482; clear HO487; clear BK478; clear HB; have HO476 := n0_; have HO482 := n1_; have HO487 := n2_; have BK478 := n3_; have HB := n4_; have BK489 := n5_; have GW489 := n6_; have GE489 := n7_; have NB478_489 := n8_; have NB489_478 := n9_; clear n0_ n1_ n2_ n3_ n4_ n5_ n6_ n7_ n8_ n9_; clear hb hbox hg; have hnb32 := NB489_478.out; have hnc32 := NB478_489.out; have hcz33_0 : w31.cell? ⟨gb489, 0, none⟩ = some (.int .u64 0) := (blk_cell BK489.out 0).trans rfl; have hcz33_1 : w31.cell? ⟨gb489, 1, none⟩ = some (.slice none 0 0) := (blk_cell BK489.out 1).trans rfl; have hfz33_0 := blk_frozen BK489.out 0; have hfz33_1 := blk_frozen BK489.out 1; obtain ⟨Ao34, co34, eo34⟩ := Kd.V_slice HO487.out; subst eo34) | ((with_reducible refine gate_store (t := 52) (p := 4) rfl ?_); refine store_event (t := 52) (p := 4) (v := ?vo_w35) (w1 := ((w31.setCell ⟨gb489, 0, none⟩ (.int .u64 t484)).setCell ⟨gb489, 1, none⟩ (.slice Ao34 t485.length co34))) ?hg ?ho ?hn ?hr ?_; (case ho => rfl); (case hg => rfl); (case hn => rfl); (case hr => first | (go_simp; done) | (go_simp; rfl)); intro w35 hw; have n0_ : Aside0 (Kd.R (Kd.int .i64) 2 w35 w.heap.size (fun _ => True) (.slice Ao22 t474.length co22) t474) := ⟨(by rw [hw]; exact (by (with_reducible repeat (first | apply Kd.R_alloc | apply Kd.R_drewN | apply Kd.R_drew)); exact Kd.R_mono (Kd.R_far (p := ⟨gb489, 1, none⟩) (Kd.R_far (p := ⟨gb489, 0, none⟩) (Kd.R_types HO476.out BK489.out (by decide)) (fun _ hk => hk.2) (.int .u64 t484)) (fun _ hk => hk.2) (.slice Ao34 t485.length co34)) (fun _ hk => trivial)))⟩; have n1_ : Aside0 (Kd.V (Kd.int .i64) 2 w35 w.heap.size (fun k_ => k_ ≠ gb478 ∧ k_ ≠ gb489) (.slice Ao27 t480.length co27) t480) := ⟨(by rw [hw]; exact (by (with_reducible repeat (first | apply Kd.V_alloc | apply Kd.V_drewN | apply Kd.V_drew)); exact Kd.V_mono (Kd.V_far (p := ⟨gb489, 1, none⟩) (Kd.V_far (p := ⟨gb489, 0, none⟩) (Kd.V_mono HO482.out (fun k_ hk => (⟨hk, hk.2⟩ : _ ∧ k_ ≠ gb489))) (fun _ hk => hk.2) (.int .u64 t484)) (fun _ hk => hk.2) (.slice Ao34 t485.length co34)) (fun _ hk => ⟨hk.1.1, hk.1.2⟩)))⟩; have n2_ : Aside0 (Kd.V (Kd.int .i64) 2 w35 w.heap.size (fun k_ => k_ ≠ gb478 ∧ k_ ≠ gb489) (.slice Ao34 t485.length co34) t485) := ⟨(by rw [hw]; exact (by (with_reducible repeat (first | apply Kd.V_alloc | apply Kd.V_drewN | apply Kd.V_drew)); exact Kd.V_mono (Kd.V_far (p := ⟨gb489, 1, none⟩) (Kd.V_far (p := ⟨gb489, 0, none⟩) (Kd.V_mono HO487.out (fun k_ hk => (⟨hk, hk.2⟩ : _ ∧ k_ ≠ gb489))) (fun _ hk => hk.2) (.int .u64 t484)) (fun _ hk => hk.2) (.slice Ao34 t485.length co34)) (fun _ hk => ⟨hk.1.1, hk.1.2⟩)))⟩; have n3_ : Aside0 (w35.heap[gb478]? = some (.cells #[.int .u64 t479, .slice Ao27 t480.length co27] 52 (0, 0))) := ⟨(by rw [hw]; exact (by (with_reducible repeat (first | refine blk_drewN ?_ _ | refine blk_drew ?_ | refine blk_alloc ?_ _)); refine blk_far ?_ NB478_489.out _; (with_reducible repeat (first | refine blk_drewN ?_ _ | refine blk_drew ?_ | refine blk_alloc ?_ _)); refine blk_far ?_ NB478_489.out _; (with_reducible repeat (first | refine blk_drewN ?_ _ | refine blk_drew ?_ | refine blk_alloc ?_ _)); exact BK478.out))⟩; have n4_ : Aside0 (w35.heap[gb489]? = some (.cells #[.int .u64 t484, .slice Ao34 t485.length co34] 52 (0, 0))) := ⟨(by rw [hw]; exact (by (with_reducible repeat (first | refine blk_drewN ?_ _ | refine blk_drew ?_ | refine blk_alloc ?_ _)); refine blk_put (cs := #[.int .u64 t484, .slice none 0 0]) ?_ 1 _ rfl; (with_reducible repeat (first | refine blk_drewN ?_ _ | refine blk_drew ?_ | refine blk_alloc ?_ _)); refine blk_put (cs := #[.int .u64 0, .slice none 0 0]) ?_ 0 _ rfl; (with_reducible repeat (first | refine blk_drewN ?_ _ | refine blk_drew ?_ | refine blk_alloc ?_ _)); exact BK489.out))⟩; have n5_ : Aside0 (Below w.heap.size w w35) := ⟨(by rw [hw]; exact (by repeat (first | (with_reducible first | exact HB.out | apply below_alloc | apply pw_below_drewN | apply below_drew1 | refine below_set ?_ GE478.out | refine below_set ?_ GE489.out) | exact HB.out)))⟩; clear hw; clear HO476; clear HO482; clear HO487; clear BK478; clear BK489; clear HB; have HO476 := n0_; have HO482 := n1_; have HO487 := n2_; have BK478 := n3_; have BK489 := n4_; have HB := n5_; clear n0_ n1_ n2_ n3_ n4_ n5_; have hcz36_0 : w35.cell? ⟨gb489, 0, none⟩ = some (.int .u64 t484) := (blk_cell BK489.out 0).trans rfl; have hcz36_1 : w35.cell? ⟨gb489, 1, none⟩ = some (.slice Ao34 t485.length co34) := (blk_cell BK489.out 1).trans rfl; have hfz36_0 := blk_frozen BK489.out 0; have hfz36_1 := blk_frozen BK489.out 1) | ((with_reducible refine gate_callee (f := 22) rfl ?_); refine goesL_ (some 32) rfl rfl Try.func22 (by kernel_rfl) rfl #[.agg #[.int .u64 t484, .slice Ao34 t485.length co34], .int .i64 2, .int .u64 2, .int .i64 9] rfl (by (try simp only [List.map_toArray, List.map_cons, List.map_nil]); first | done | rfl | (simp only [List.length_drop, List.length_take]; rfl)) ?_; (with_reducible refine (lead_Granted.calls k t484 (fun k_ => (k_ ≠ gb478 ∧ k_ ≠ gb489)) _ _ t485 2 2 9 t490 t491 t494 _ ?side1 A4.out).mono ?_); (case side1 => exact HO487.out); rintro e w37 ⟨v492, rfl, ho0, hb⟩; refine ⟨_, rfl, ?_⟩; have n0_ := Aside0.mk (Kd.R_below (by (with_reducible repeat (first | apply Kd.R_alloc | apply Kd.R_drewN | apply Kd.R_drew)); exact HO476.out) hb); have n1_ := Aside0.mk (Kd.V_below (by (with_reducible repeat (first | apply Kd.V_alloc | apply Kd.V_drewN | apply Kd.V_drew)); exact HO482.out) hb); have n2_ := Aside0.mk (Kd.V_below (by (with_reducible repeat (first | apply Kd.V_alloc | apply Kd.V_drewN | apply Kd.V_drew)); exact HO487.out) hb); have n3_ := Aside0.mk (Kd.V_lower (Kd.V_mono (ok' := fun k_ => k_ ≠ gb478 ∧ k_ ≠ gb489) ho0 (fun k_ hk_ => ⟨Or.elim hk_ (fun hs_ => hs_.1) (fun hn_ => (Kd.freshB (g := gb478) (o := .cells #[.int .u64 t479, .slice Ao27 t480.length co27] 52 (0, 0)) (by (with_reducible repeat (first | refine blk_drewN ?_ _ | refine blk_drew ?_ | refine blk_alloc ?_ _)); exact BK478.out) k_ hn_)), Or.elim hk_ (fun hs_ => hs_.2) (fun hn_ => (Kd.freshB (g := gb489) (o := .cells #[.int .u64 t484, .slice Ao34 t485.length co34] 52 (0, 0)) (by (with_reducible repeat (first | refine blk_drewN ?_ _ | refine blk_drew ?_ | refine blk_alloc ?_ _)); exact BK489.out) k_ hn_))⟩)) (below_size (by repeat (first | (with_reducible first | exact HB.out | apply below_alloc | apply pw_below_drewN | apply below_drew1 | refine below_set ?_ GE478.out | refine below_set ?_ GE489.out) | exact HB.out)))); have n4_ := Aside0.mk (blk_below (g := gb478) (o := .cells #[.int .u64 t479, .slice Ao27 t480.length co27] 52 (0, 0)) (by (with_reducible repeat (first | refine blk_drewN ?_ _ | refine blk_drew ?_ | refine blk_alloc ?_ _)); exact BK478.out) hb); have n5_ := Aside0.mk (blk_below (g := gb489) (o := .cells #[.int .u64 t484, .slice Ao34 t485.length co34] 52 (0, 0)) (by (with_reducible repeat (first | refine blk_drewN ?_ _ | refine blk_drew ?_ | refine blk_alloc ?_ _)); exact BK489.out) hb); have n6_ := Aside0.mk (below_step (by repeat (first | (with_reducible first | exact HB.out | apply below_alloc | apply pw_below_drewN | apply below_drew1 | refine below_set ?_ GE478.out | refine below_set ?_ GE489.out) | exact HB.out)) hb); clear HO476; clear HO482; clear HO487; clear BK478; clear BK489; clear HB; have HO476 := n0_; have HO482 := n1_; have HO487 := n2_; have HO493 := n3_; have BK478 := n4_; have BK489 := n5_; have HB := n6_; clear n0_ n1_ n2_ n3_ n4_ n5_ n6_; (try clear hb); (try clear hb2); (try clear hk); (try clear hi); (try clear ho0)) | ((with_reducible refine gate_dst (N := 6) rfl ?_); refine box_event ?hg (N := 6) ?hd (cs := #[.int .u64 0, .slice none 0 0]) (t := 52) ?hr ?_; (case hd => rfl); (case hg => rfl); (case hr => first | (go_simp; done) | (go_simp; rfl)); intro gb495 hg w38 hbox hb; have n0_ := Aside0.mk (Kd.R_below (by (with_reducible repeat (first | apply Kd.R_alloc | apply Kd.R_drewN | apply Kd.R_drew)); exact HO476.out) hb); have n1_ := Aside0.mk (Kd.V_below (Kd.V_elderB (by (with_reducible repeat (first | apply Kd.V_alloc | apply Kd.V_drewN | apply Kd.V_drew)); exact HO482.out) gb495 (Nat.le_of_eq hg.symm)) hb); have n2_ := Aside0.mk (Kd.V_below (Kd.V_elderB (by (with_reducible repeat (first | apply Kd.V_alloc | apply Kd.V_drewN | apply Kd.V_drew)); exact HO487.out) gb495 (Nat.le_of_eq hg.symm)) hb); have n3_ := Aside0.mk (Kd.V_below (Kd.V_elderB (by (with_reducible repeat (first | apply Kd.V_alloc | apply Kd.V_drewN | apply Kd.V_drew)); exact HO493.out) gb495 (Nat.le_of_eq hg.symm)) hb); have n4_ := Aside0.mk (blk_below (g := gb478) (o := .cells #[.int .u64 t479, .slice Ao27 t480.length co27] 52 (0, 0)) (by (with_reducible repeat (first | refine blk_drewN ?_ _ | refine blk_drew ?_ | refine blk_alloc ?_ _)); exact BK478.out) hb); have n5_ := Aside0.mk (blk_below (g := gb489) (o := .cells #[.int .u64 t484, .slice Ao34 t485.length co34] 52 (0, 0)) (by (with_reducible repeat (first | refine blk_drewN ?_ _ | refine blk_drew ?_ | refine blk_alloc ?_ _)); exact BK489.out) hb); have n6_ := Aside0.mk (below_step (by repeat (first | (with_reducible first | exact HB.out | apply below_alloc | apply pw_below_drewN | apply below_drew1 | refine below_set ?_ GE478.out | refine below_set ?_ GE489.out) | exact HB.out)) hb); have n7_ := Aside0.mk (hbox); have n8_ := Aside0.mk ((by rw [hg]; exact (below_size (by repeat (first | (with_reducible first | exact HB.out | apply below_alloc | apply pw_below_drewN | apply below_drew1 | refine below_set ?_ GE478.out | refine below_set ?_ GE489.out) | exact HB.out))) : w.heap.size ≤ gb495)); have n9_ := Aside0.mk ((by rw [hg]; exact (below_size (by repeat (first | (with_reducible first | exact HB.out | apply below_alloc | apply pw_below_drewN | apply below_drew1 | refine below_set ?_ GE478.out | refine below_set ?_ GE489.out) | exact HB.out))) : w.heap.size ≤ gb495)); have n10_ := Aside0.mk ((by rw [hg]; exact Nat.ne_of_lt (blk_lt (g := gb478) (o := .cells #[.int .u64 t479, .slice Ao27 t480.length co27] 52 (0, 0)) (by (with_reducible repeat (first | refine blk_drewN ?_ _ | refine blk_drew ?_ | refine blk_alloc ?_ _)); exact BK478.out)) : gb478 ≠ gb495)); have n11_ := Aside0.mk ((by rw [hg]; exact Nat.ne_of_gt (blk_lt (g := gb478) (o := .cells #[.int .u64 t479, .slice Ao27 t480.length co27] 52 (0, 0)) (by (with_reducible repeat (first | refine blk_drewN ?_ _ | refine blk_drew ?_ | refine blk_alloc ?_ _)); exact BK478.out)) : gb495 ≠ gb478)); have n12_ := Aside0.mk ((by rw [hg]; exact Nat.ne_of_lt (blk_lt (g := gb489) (o := .cells #[.int .u64 t484, .slice Ao34 t485.length co34] 52 (0, 0)) (by (with_reducible repeat (first | refine blk_drewN ?_ _ | refine blk_drew ?_ | refine blk_alloc ?_ _)); exact BK489.out)) : gb489 ≠ gb495)); have n13_ := Aside0.mk ((by rw [hg]; exact Nat.ne_of_gt (blk_lt (g := gb489) (o := .cells #[.int .u64 t484, .slice Ao34 t485.length co34] 52 (0, 0)) (by (with_reducible repeat (first | refine blk_drewN ?_ _ | refine blk_drew ?_ | refine blk_alloc ?_ _)); exact BK489.out)) : gb495 ≠ gb489)); clear HO476; clear HO482; clear HO487; clear HO493; clear BK478; clear BK489; clear HB; have HO476 := n0_; have HO482 := n1_; have HO487 := n2_; have HO493 := n3_; have BK478 := n4_; have BK489 := n5_; have HB := n6_; have BK495 := n7_; have GW495 := n8_; have GE495 := n9_; have NB478_495 := n10_; have NB495_478 := n11_; have NB489_495 := n12_; have NB495_489 := n13_; clear n0_ n1_ n2_ n3_ n4_ n5_ n6_ n7_ n8_ n9_ n10_ n11_ n12_ n13_; clear hb hbox hg; have hnb39 := NB495_478.out; have hnc39 := NB478_495.out; have hnb40 := NB495_489.out; have hnc40 := NB489_495.out; have hcz41_0 : w38.cell? ⟨gb495, 0, none⟩ = some (.int .u64 0) := (blk_cell BK495.out 0).trans rfl; have hcz41_1 : w38.cell? ⟨gb495, 1, none⟩ = some (.slice none 0 0) := (blk_cell BK495.out 1).trans rfl; have hfz41_0 := blk_frozen BK495.out 0; have hfz41_1 := blk_frozen BK495.out 1; obtain ⟨Ao42, co42, eo42⟩ := Kd.V_slice HO493.out; subst eo42))
                    have n0_ : Aside0 (Kd.R (Kd.int .i64) 2 ((w38.setCell ⟨gb495, 0, none⟩ (.int .u64 t490)).setCell ⟨gb495, 1, none⟩ (.slice Ao42 t491.length co42)) w.heap.size (fun _ => True) (.slice Ao22 t474.length co22) t474) := ⟨by (with_reducible repeat (first | apply Kd.R_alloc | apply Kd.R_drewN | apply Kd.R_drew)); exact Kd.R_mono (Kd.R_far (p := ⟨gb495, 1, none⟩) (Kd.R_far (p := ⟨gb495, 0, none⟩) (Kd.R_types HO476.out BK495.out (by decide)) (fun _ hk => hk.2) (.int .u64 t490)) (fun _ hk => hk.2) (.slice Ao42 t491.length co42)) (fun _ hk => trivial)⟩
                    have n1_ : Aside0 (Kd.V (Kd.int .i64) 2 ((w38.setCell ⟨gb495, 0, none⟩ (.int .u64 t490)).setCell ⟨gb495, 1, none⟩ (.slice Ao42 t491.length co42)) w.heap.size (fun k_ => k_ ≠ gb478 ∧ k_ ≠ gb489 ∧ k_ ≠ gb495) (.slice Ao27 t480.length co27) t480) := ⟨by (with_reducible repeat (first | apply Kd.V_alloc | apply Kd.V_drewN | apply Kd.V_drew)); exact Kd.V_mono (Kd.V_far (p := ⟨gb495, 1, none⟩) (Kd.V_far (p := ⟨gb495, 0, none⟩) (Kd.V_mono HO482.out (fun k_ hk => (⟨hk, hk.2⟩ : _ ∧ k_ ≠ gb495))) (fun _ hk => hk.2) (.int .u64 t490)) (fun _ hk => hk.2) (.slice Ao42 t491.length co42)) (fun _ hk => ⟨hk.1.1.1, ⟨hk.1.1.2, hk.1.2⟩⟩)⟩
                    have n2_ : Aside0 (Kd.V (Kd.int .i64) 2 ((w38.setCell ⟨gb495, 0, none⟩ (.int .u64 t490)).setCell ⟨gb495, 1, none⟩ (.slice Ao42 t491.length co42)) w.heap.size (fun k_ => k_ ≠ gb478 ∧ k_ ≠ gb489 ∧ k_ ≠ gb495) (.slice Ao34 t485.length co34) t485) := ⟨by (with_reducible repeat (first | apply Kd.V_alloc | apply Kd.V_drewN | apply Kd.V_drew)); exact Kd.V_mono (Kd.V_far (p := ⟨gb495, 1, none⟩) (Kd.V_far (p := ⟨gb495, 0, none⟩) (Kd.V_mono HO487.out (fun k_ hk => (⟨hk, hk.2⟩ : _ ∧ k_ ≠ gb495))) (fun _ hk => hk.2) (.int .u64 t490)) (fun _ hk => hk.2) (.slice Ao42 t491.length co42)) (fun _ hk => ⟨hk.1.1.1, ⟨hk.1.1.2, hk.1.2⟩⟩)⟩
                    have n3_ : Aside0 (Kd.V (Kd.int .i64) 2 ((w38.setCell ⟨gb495, 0, none⟩ (.int .u64 t490)).setCell ⟨gb495, 1, none⟩ (.slice Ao42 t491.length co42)) w.heap.size (fun k_ => k_ ≠ gb478 ∧ k_ ≠ gb489 ∧ k_ ≠ gb495) (.slice Ao42 t491.length co42) t491) := ⟨by (with_reducible repeat (first | apply Kd.V_alloc | apply Kd.V_drewN | apply Kd.V_drew)); exact Kd.V_mono (Kd.V_far (p := ⟨gb495, 1, none⟩) (Kd.V_far (p := ⟨gb495, 0, none⟩) (Kd.V_mono HO493.out (fun k_ hk => (⟨hk, hk.2⟩ : _ ∧ k_ ≠ gb495))) (fun _ hk => hk.2) (.int .u64 t490)) (fun _ hk => hk.2) (.slice Ao42 t491.length co42)) (fun _ hk => ⟨hk.1.1.1, ⟨hk.1.1.2, hk.1.2⟩⟩)⟩
                    have n4_ : Aside0 (((w38.setCell ⟨gb495, 0, none⟩ (.int .u64 t490)).setCell ⟨gb495, 1, none⟩ (.slice Ao42 t491.length co42)).heap[gb478]? = some (.cells #[.int .u64 t479, .slice Ao27 t480.length co27] 52 (0, 0))) := ⟨by (with_reducible repeat (first | refine blk_drewN ?_ _ | refine blk_drew ?_ | refine blk_alloc ?_ _)); refine blk_far ?_ NB478_495.out _; (with_reducible repeat (first | refine blk_drewN ?_ _ | refine blk_drew ?_ | refine blk_alloc ?_ _)); refine blk_far ?_ NB478_495.out _; (with_reducible repeat (first | refine blk_drewN ?_ _ | refine blk_drew ?_ | refine blk_alloc ?_ _)); exact BK478.out⟩
                    have n5_ : Aside0 (((w38.setCell ⟨gb495, 0, none⟩ (.int .u64 t490)).setCell ⟨gb495, 1, none⟩ (.slice Ao42 t491.length co42)).heap[gb489]? = some (.cells #[.int .u64 t484, .slice Ao34 t485.length co34] 52 (0, 0))) := ⟨by (with_reducible repeat (first | refine blk_drewN ?_ _ | refine blk_drew ?_ | refine blk_alloc ?_ _)); refine blk_far ?_ NB489_495.out _; (with_reducible repeat (first | refine blk_drewN ?_ _ | refine blk_drew ?_ | refine blk_alloc ?_ _)); refine blk_far ?_ NB489_495.out _; (with_reducible repeat (first | refine blk_drewN ?_ _ | refine blk_drew ?_ | refine blk_alloc ?_ _)); exact BK489.out⟩
                    have n6_ : Aside0 (((w38.setCell ⟨gb495, 0, none⟩ (.int .u64 t490)).setCell ⟨gb495, 1, none⟩ (.slice Ao42 t491.length co42)).heap[gb495]? = some (.cells #[.int .u64 t490, .slice Ao42 t491.length co42] 52 (0, 0))) := ⟨by (with_reducible repeat (first | refine blk_drewN ?_ _ | refine blk_drew ?_ | refine blk_alloc ?_ _)); refine blk_put (cs := #[.int .u64 t490, .slice none 0 0]) ?_ 1 _ rfl; (with_reducible repeat (first | refine blk_drewN ?_ _ | refine blk_drew ?_ | refine blk_alloc ?_ _)); refine blk_put (cs := #[.int .u64 0, .slice none 0 0]) ?_ 0 _ rfl; (with_reducible repeat (first | refine blk_drewN ?_ _ | refine blk_drew ?_ | refine blk_alloc ?_ _)); exact BK495.out⟩
                    have n7_ : Aside0 (Below w.heap.size w ((w38.setCell ⟨gb495, 0, none⟩ (.int .u64 t490)).setCell ⟨gb495, 1, none⟩ (.slice Ao42 t491.length co42))) := ⟨by repeat (first | (with_reducible first | exact HB.out | apply below_alloc | apply pw_below_drewN | apply below_drew1 | refine below_set ?_ GE478.out | refine below_set ?_ GE489.out | refine below_set ?_ GE495.out) | exact HB.out)⟩
                    (try clear HO476)
                    (try clear HO482)
                    (try clear HO487)
                    (try clear HO493)
                    (try clear BK478)
                    (try clear BK489)
                    (try clear BK495)
                    (try clear HB)
                    generalize ((w38.setCell ⟨gb495, 0, none⟩ (.int .u64 t490)).setCell ⟨gb495, 1, none⟩ (.slice Ao42 t491.length co42)) = w43 at n0_ n1_ n2_ n3_ n4_ n5_ n6_ n7_ ⊢
                    have HO476 := n0_
                    have HO482 := n1_
                    have HO487 := n2_
                    have HO493 := n3_
                    have BK478 := n4_
                    have BK489 := n5_
                    have BK495 := n6_
                    have HB := n7_
                    clear n0_ n1_ n2_ n3_ n4_ n5_ n6_ n7_
                    have n0_ := Aside0.mk (Kd.R_drew HO476.out)
                    have n1_ := Aside0.mk (Kd.V_drew HO482.out)
                    have n2_ := Aside0.mk (Kd.V_drew HO487.out)
                    have n3_ := Aside0.mk (Kd.V_drew HO493.out)
                    have n4_ := Aside0.mk (blk_drew BK478.out)
                    have n5_ := Aside0.mk (blk_drew BK489.out)
                    have n6_ := Aside0.mk (blk_drew BK495.out)
                    have n7_ := Aside0.mk (below_drew1 HB.out)
                    clear HO476
                    clear HO482
                    clear HO487
                    clear HO493
                    clear BK478
                    clear BK489
                    clear BK495
                    clear HB
                    have HO476 := n0_
                    have HO482 := n1_
                    have HO487 := n2_
                    have HO493 := n3_
                    have BK478 := n4_
                    have BK489 := n5_
                    have BK495 := n6_
                    have HB := n7_
                    clear n0_ n1_ n2_ n3_ n4_ n5_ n6_ n7_
                    refine start_ (n := 10) (S := fun w' => w'.cell? ⟨gb489, 0, none⟩ = some (.int .u64 t484) ∧ w'.cell? ⟨gb489, 1, none⟩ = some (.slice Ao34 t485.length co34)) (ds := []) #[false, false, false, false, false, false, false, false, false, false] (by kernel_rfl) rfl rfl ⟨(blk_cell BK489.out 0).trans rfl, (blk_cell BK489.out 1).trans rfl⟩ (fun hHeld => ?_); refine with_tabW tattlelaw18_awake.tab5 tattlelaw18_awake.bits5 (fun HT_ HW_ => ?_)
                    generalize w43.drew = w44 at HO476 HO482 HO487 HO493 BK478 BK489 BK495 HB hHeld ⊢
                    refine take_ (i := 1) (N := some 37) (v := ?_) (a' := ?_) #[false, true, false, false, false, false, false, false, false, false] rfl rfl (take_ofW HT_.out HW_.out (by kernel_rfl)) (fun _ _ _ h => h) (Or.inl ⟨by rfl, ?_⟩) hHeld ?_ ?_
                    rotate_left
                    · rintro w' ⟨s0, s1⟩
                      go_simp
                      with_reducible rfl
                    rotate_left
                    · simp only [Act.put, List.setIfInBounds_toArray, List.set_cons_zero, List.set_cons_succ, i64_w, i32_w]
                      rfl
                    refine one_ (i := 0) (N := some 36) #[true, true, false, false, false, false, false, false, false, false] rfl rfl (one_of HT_.out (by kernel_rfl)) (by decide) (fun K hK => ?_)
                    refine goes_ Try.func27 (by kernel_rfl) rfl #[] (by rfl) rfl rfl (by (try simp only [List.map_toArray, List.map_cons, List.map_nil]); first | done | rfl | (simp only [List.length_drop, List.length_take]; rfl)) ?_
                    with_reducible refine (tattlelaw18_ten.calls  t496 t497 t498 _ A5.out).mono ?_
                    rintro e w45 ⟨rfl, hb⟩
                    refine ⟨_, rfl, ?_⟩
                    have n0_ := Aside0.mk (Kd.R_below (by (with_reducible repeat (first | apply Kd.R_alloc | apply Kd.R_drewN | apply Kd.R_drew)); exact HO476.out) hb)
                    have n1_ := Aside0.mk (Kd.V_below (by (with_reducible repeat (first | apply Kd.V_alloc | apply Kd.V_drewN | apply Kd.V_drew)); exact HO482.out) hb)
                    have n2_ := Aside0.mk (Kd.V_below (by (with_reducible repeat (first | apply Kd.V_alloc | apply Kd.V_drewN | apply Kd.V_drew)); exact HO487.out) hb)
                    have n3_ := Aside0.mk (Kd.V_below (by (with_reducible repeat (first | apply Kd.V_alloc | apply Kd.V_drewN | apply Kd.V_drew)); exact HO493.out) hb)
                    have n4_ := Aside0.mk (blk_below (g := gb478) (o := .cells #[.int .u64 t479, .slice Ao27 t480.length co27] 52 (0, 0)) (by (with_reducible repeat (first | refine blk_drewN ?_ _ | refine blk_drew ?_ | refine blk_alloc ?_ _)); exact BK478.out) hb)
                    have n5_ := Aside0.mk (blk_below (g := gb489) (o := .cells #[.int .u64 t484, .slice Ao34 t485.length co34] 52 (0, 0)) (by (with_reducible repeat (first | refine blk_drewN ?_ _ | refine blk_drew ?_ | refine blk_alloc ?_ _)); exact BK489.out) hb)
                    have n6_ := Aside0.mk (blk_below (g := gb495) (o := .cells #[.int .u64 t490, .slice Ao42 t491.length co42] 52 (0, 0)) (by (with_reducible repeat (first | refine blk_drewN ?_ _ | refine blk_drew ?_ | refine blk_alloc ?_ _)); exact BK495.out) hb)
                    have n7_ := Aside0.mk (below_step (by repeat (first | (with_reducible first | exact HB.out | apply below_alloc | apply pw_below_drewN | apply below_drew1 | refine below_set ?_ GE478.out | refine below_set ?_ GE489.out | refine below_set ?_ GE495.out) | exact HB.out)) hb)
                    clear HO476
                    clear HO482
                    clear HO487
                    clear HO493
                    clear BK478
                    clear BK489
                    clear BK495
                    clear HB
                    have HO476 := n0_
                    have HO482 := n1_
                    have HO487 := n2_
                    have HO493 := n3_
                    have BK478 := n4_
                    have BK489 := n5_
                    have BK495 := n6_
                    have HB := n7_
                    clear n0_ n1_ n2_ n3_ n4_ n5_ n6_ n7_
                    (try clear hb)
                    (try clear hb2)
                    (try clear hk)
                    (try clear hi)
                    refine hK.out _ _ ⟨(blk_cell BK489.out 0).trans rfl, (blk_cell BK489.out 1).trans rfl⟩ (fun hHeld => ?_)
                    clear hK K
                    refine norm_ (a' := ?_) ?_ ?_
                    rotate_left
                    · show Act.put _ (some 36) _ = _
                      simp only [Act.put, List.setIfInBounds_toArray, List.set_cons_zero, List.set_cons_succ, i64_w, i32_w]
                      rfl
                    refine one_ (i := 2) (N := some 38) #[true, true, true, false, false, false, false, false, false, false] rfl rfl (one_of HT_.out (by kernel_rfl)) (by decide) (fun K hK => ?_)
                    refine goes_ Try.func23 (by kernel_rfl) rfl #[.agg #[.int .i64 t496, .int .i64 t497, .int .i64 t498], .agg #[.int .u64 t484, .slice Ao34 t485.length co34]] (by rfl) rfl rfl (by (try simp only [List.map_toArray, List.map_cons, List.map_nil]); first | done | rfl | (simp only [List.length_drop, List.length_take]; rfl)) ?_
                    with_reducible refine (lead_Until.calls t496 t497 t498 t484 _ _ t485 t499 false t501 _ ?side1 ?side2 A6.out).mono ?_
                    (case side1 => repeat (first | exact (Kd.V_reads' HO487.out).2.2 | (with_reducible refine Kd.C_alloc ?_ _) | (with_reducible refine Kd.C_drewN ?_ _) | (with_reducible refine Kd.C_drew ?_)))
                    (case side2 => exact (Kd.V_reads' HO487.out).2.1)
                    rintro e w46 ⟨rfl, hb⟩
                    refine ⟨_, rfl, ?_⟩
                    have n0_ := Aside0.mk (Kd.R_below (by (with_reducible repeat (first | apply Kd.R_alloc | apply Kd.R_drewN | apply Kd.R_drew)); exact HO476.out) hb)
                    have n1_ := Aside0.mk (Kd.V_below (by (with_reducible repeat (first | apply Kd.V_alloc | apply Kd.V_drewN | apply Kd.V_drew)); exact HO482.out) hb)
                    have n2_ := Aside0.mk (Kd.V_below (by (with_reducible repeat (first | apply Kd.V_alloc | apply Kd.V_drewN | apply Kd.V_drew)); exact HO487.out) hb)
                    have n3_ := Aside0.mk (Kd.V_below (by (with_reducible repeat (first | apply Kd.V_alloc | apply Kd.V_drewN | apply Kd.V_drew)); exact HO493.out) hb)
                    have n4_ := Aside0.mk (blk_below (g := gb478) (o := .cells #[.int .u64 t479, .slice Ao27 t480.length co27] 52 (0, 0)) (by (with_reducible repeat (first | refine blk_drewN ?_ _ | refine blk_drew ?_ | refine blk_alloc ?_ _)); exact BK478.out) hb)
                    have n5_ := Aside0.mk (blk_below (g := gb489) (o := .cells #[.int .u64 t484, .slice Ao34 t485.length co34] 52 (0, 0)) (by (with_reducible repeat (first | refine blk_drewN ?_ _ | refine blk_drew ?_ | refine blk_alloc ?_ _)); exact BK489.out) hb)
                    have n6_ := Aside0.mk (blk_below (g := gb495) (o := .cells #[.int .u64 t490, .slice Ao42 t491.length co42] 52 (0, 0)) (by (with_reducible repeat (first | refine blk_drewN ?_ _ | refine blk_drew ?_ | refine blk_alloc ?_ _)); exact BK495.out) hb)
                    have n7_ := Aside0.mk (below_step (by repeat (first | (with_reducible first | exact HB.out | apply below_alloc | apply pw_below_drewN | apply below_drew1 | refine below_set ?_ GE478.out | refine below_set ?_ GE489.out | refine below_set ?_ GE495.out) | exact HB.out)) hb)
                    clear HO476
                    clear HO482
                    clear HO487
                    clear HO493
                    clear BK478
                    clear BK489
                    clear BK495
                    clear HB
                    have HO476 := n0_
                    have HO482 := n1_
                    have HO487 := n2_
                    have HO493 := n3_
                    have BK478 := n4_
                    have BK489 := n5_
                    have BK495 := n6_
                    have HB := n7_
                    clear n0_ n1_ n2_ n3_ n4_ n5_ n6_ n7_
                    (try clear hb)
                    (try clear hb2)
                    (try clear hk)
                    (try clear hi)
                    refine hK.out _ _ ⟨(blk_cell BK489.out 0).trans rfl, (blk_cell BK489.out 1).trans rfl⟩ (fun hHeld => ?_)
                    clear hK K
                    refine norm_ (a' := ?_) ?_ ?_
                    rotate_left
                    · show Act.put _ (some 38) _ = _
                      simp only [Act.put, List.setIfInBounds_toArray, List.set_cons_zero, List.set_cons_succ, i64_w, i32_w]
                      rfl
                    refine pure_ (i := 3) (N := some 35) (v := ?_) (a' := ?_) #[true, true, true, true, false, false, false, false, false, false] rfl rfl (any_of HT_.out (by kernel_rfl)) (fun _ _ _ h => h) (Or.inl ⟨by rfl, ?_⟩) ?_ ?_
                    rotate_left
                    · intro w'
                      go_simp
                      with_reducible rfl
                    rotate_left
                    · simp only [Act.put, List.setIfInBounds_toArray, List.set_cons_zero, List.set_cons_succ, i64_w, i32_w]
                      rfl
                    refine pure_ (i := 4) (N := some 39) (v := ?_) (a' := ?_) #[true, true, true, true, true, false, false, false, false, false] rfl rfl (any_of HT_.out (by kernel_rfl)) (fun _ _ _ h => h) (Or.inl ⟨by rfl, ?_⟩) ?_ ?_
                    rotate_left
                    · intro w'
                      go_simp
                      with_reducible rfl
                    rotate_left
                    · simp only [Act.put, List.setIfInBounds_toArray, List.set_cons_zero, List.set_cons_succ, i64_w, i32_w]
                      rfl
                    refine pure_ (i := 5) (N := some 40) (v := ?_) (a' := ?_) #[true, true, true, true, true, true, false, false, false, false] rfl rfl (any_of HT_.out (by kernel_rfl)) (fun _ _ _ h => h) (Or.inl ⟨by rfl, ?_⟩) ?_ ?_
                    rotate_left
                    · intro w'
                      go_simp
                      with_reducible rfl
                    rotate_left
                    · simp only [Act.put, List.setIfInBounds_toArray, List.set_cons_zero, List.set_cons_succ, i64_w, i32_w]
                      rfl
                    refine pure_ (i := 6) (N := some 41) (v := ?_) (a' := ?_) #[true, true, true, true, true, true, true, false, false, false] rfl rfl (any_of HT_.out (by kernel_rfl)) (fun _ _ _ h => h) (Or.inl ⟨by rfl, ?_⟩) ?_ ?_
                    rotate_left
                    · intro w'
                      go_simp
                      with_reducible rfl
                    rotate_left
                    · simp only [Act.put, List.setIfInBounds_toArray, List.set_cons_zero, List.set_cons_succ, i64_w, i32_w]
                      rfl
                    refine pure_ (i := 7) (N := some 8) (v := ?_) (a' := ?_) #[true, true, true, true, true, true, true, true, false, false] rfl rfl (any_of HT_.out (by kernel_rfl)) (fun _ _ _ h => h) (Or.inl ⟨by rfl, ?_⟩) ?_ ?_
                    rotate_left
                    · intro w'
                      go_simp
                      with_reducible rfl
                    rotate_left
                    · simp only [Act.put, List.setIfInBounds_toArray, List.set_cons_zero, List.set_cons_succ, i64_w, i32_w]
                      rfl
                    refine pure_ (i := 8) (N := some 9) (v := ?_) (a' := ?_) #[true, true, true, true, true, true, true, true, true, false] rfl rfl (any_of HT_.out (by kernel_rfl)) (fun _ _ _ h => h) (Or.inl ⟨by rfl, ?_⟩) ?_ ?_
                    rotate_left
                    · intro w'
                      go_simp
                      with_reducible rfl
                    rotate_left
                    · simp only [Act.put, List.setIfInBounds_toArray, List.set_cons_zero, List.set_cons_succ, i64_w, i32_w]
                      rfl
                    refine pure_ (i := 9) (N := some 10) (v := ?_) (a' := ?_) #[true, true, true, true, true, true, true, true, true, true] rfl rfl (any_of HT_.out (by kernel_rfl)) (fun _ _ _ h => h) (Or.inl ⟨by rfl, ?_⟩) ?_ ?_
                    rotate_left
                    · intro w'
                      go_simp
                      with_reducible rfl
                    rotate_left
                    · simp only [Act.put, List.setIfInBounds_toArray, List.set_cons_zero, List.set_cons_succ, i64_w, i32_w]
                      rfl
                    refine done_ (done_of HT_.out (by kernel_rfl)) ?_
                    try go_wp2
                    have n0_ := Aside0.mk (Kd.R_drew HO476.out)
                    have n1_ := Aside0.mk (Kd.V_drew HO482.out)
                    have n2_ := Aside0.mk (Kd.V_drew HO487.out)
                    have n3_ := Aside0.mk (Kd.V_drew HO493.out)
                    have n4_ := Aside0.mk (blk_drew BK478.out)
                    have n5_ := Aside0.mk (blk_drew BK489.out)
                    have n6_ := Aside0.mk (blk_drew BK495.out)
                    have n7_ := Aside0.mk (below_drew1 HB.out)
                    clear HO476
                    clear HO482
                    clear HO487
                    clear HO493
                    clear BK478
                    clear BK489
                    clear BK495
                    clear HB
                    have HO476 := n0_
                    have HO482 := n1_
                    have HO487 := n2_
                    have HO493 := n3_
                    have BK478 := n4_
                    have BK489 := n5_
                    have BK495 := n6_
                    have HB := n7_
                    clear n0_ n1_ n2_ n3_ n4_ n5_ n6_ n7_
                    refine start_ (n := 10) (S := fun w' => w'.cell? ⟨gb495, 0, none⟩ = some (.int .u64 t490) ∧ w'.cell? ⟨gb495, 1, none⟩ = some (.slice Ao42 t491.length co42)) (ds := []) #[false, false, false, false, false, false, false, false, false, false] (by kernel_rfl) rfl rfl ⟨(blk_cell BK495.out 0).trans rfl, (blk_cell BK495.out 1).trans rfl⟩ (fun hHeld => ?_); refine with_tabW tattlelaw18_awake.tab6 tattlelaw18_awake.bits6 (fun HT_ HW_ => ?_)
                    generalize w46.drew = w47 at HO476 HO482 HO487 HO493 BK478 BK489 BK495 HB hHeld ⊢
                    refine take_ (i := 1) (N := some 44) (v := ?_) (a' := ?_) #[false, true, false, false, false, false, false, false, false, false] rfl rfl (take_ofW HT_.out HW_.out (by kernel_rfl)) (fun _ _ _ h => h) (Or.inl ⟨by rfl, ?_⟩) hHeld ?_ ?_
                    rotate_left
                    · rintro w' ⟨s0, s1⟩
                      go_simp
                      with_reducible rfl
                    rotate_left
                    · simp only [Act.put, List.setIfInBounds_toArray, List.set_cons_zero, List.set_cons_succ, i64_w, i32_w]
                      rfl
                    refine one_ (i := 0) (N := some 43) #[true, true, false, false, false, false, false, false, false, false] rfl rfl (one_of HT_.out (by kernel_rfl)) (by decide) (fun K hK => ?_)
                    refine goes_ Try.func27 (by kernel_rfl) rfl #[] (by rfl) rfl rfl (by (try simp only [List.map_toArray, List.map_cons, List.map_nil]); first | done | rfl | (simp only [List.length_drop, List.length_take]; rfl)) ?_
                    with_reducible refine (tattlelaw18_ten.calls  t502 t503 t504 _ A7.out).mono ?_
                    rintro e w48 ⟨rfl, hb⟩
                    refine ⟨_, rfl, ?_⟩
                    have n0_ := Aside0.mk (Kd.R_below (by (with_reducible repeat (first | apply Kd.R_alloc | apply Kd.R_drewN | apply Kd.R_drew)); exact HO476.out) hb)
                    have n1_ := Aside0.mk (Kd.V_below (by (with_reducible repeat (first | apply Kd.V_alloc | apply Kd.V_drewN | apply Kd.V_drew)); exact HO482.out) hb)
                    have n2_ := Aside0.mk (Kd.V_below (by (with_reducible repeat (first | apply Kd.V_alloc | apply Kd.V_drewN | apply Kd.V_drew)); exact HO487.out) hb)
                    have n3_ := Aside0.mk (Kd.V_below (by (with_reducible repeat (first | apply Kd.V_alloc | apply Kd.V_drewN | apply Kd.V_drew)); exact HO493.out) hb)
                    have n4_ := Aside0.mk (blk_below (g := gb478) (o := .cells #[.int .u64 t479, .slice Ao27 t480.length co27] 52 (0, 0)) (by (with_reducible repeat (first | refine blk_drewN ?_ _ | refine blk_drew ?_ | refine blk_alloc ?_ _)); exact BK478.out) hb)
                    have n5_ := Aside0.mk (blk_below (g := gb489) (o := .cells #[.int .u64 t484, .slice Ao34 t485.length co34] 52 (0, 0)) (by (with_reducible repeat (first | refine blk_drewN ?_ _ | refine blk_drew ?_ | refine blk_alloc ?_ _)); exact BK489.out) hb)
                    have n6_ := Aside0.mk (blk_below (g := gb495) (o := .cells #[.int .u64 t490, .slice Ao42 t491.length co42] 52 (0, 0)) (by (with_reducible repeat (first | refine blk_drewN ?_ _ | refine blk_drew ?_ | refine blk_alloc ?_ _)); exact BK495.out) hb)
                    have n7_ := Aside0.mk (below_step (by repeat (first | (with_reducible first | exact HB.out | apply below_alloc | apply pw_below_drewN | apply below_drew1 | refine below_set ?_ GE478.out | refine below_set ?_ GE489.out | refine below_set ?_ GE495.out) | exact HB.out)) hb)
                    clear HO476
                    clear HO482
                    clear HO487
                    clear HO493
                    clear BK478
                    clear BK489
                    clear BK495
                    clear HB
                    have HO476 := n0_
                    have HO482 := n1_
                    have HO487 := n2_
                    have HO493 := n3_
                    have BK478 := n4_
                    have BK489 := n5_
                    have BK495 := n6_
                    have HB := n7_
                    clear n0_ n1_ n2_ n3_ n4_ n5_ n6_ n7_
                    (try clear hb)
                    (try clear hb2)
                    (try clear hk)
                    (try clear hi)
                    refine hK.out _ _ ⟨(blk_cell BK495.out 0).trans rfl, (blk_cell BK495.out 1).trans rfl⟩ (fun hHeld => ?_)
                    clear hK K
                    refine norm_ (a' := ?_) ?_ ?_
                    rotate_left
                    · show Act.put _ (some 43) _ = _
                      simp only [Act.put, List.setIfInBounds_toArray, List.set_cons_zero, List.set_cons_succ, i64_w, i32_w]
                      rfl
                    refine one_ (i := 2) (N := some 45) #[true, true, true, false, false, false, false, false, false, false] rfl rfl (one_of HT_.out (by kernel_rfl)) (by decide) (fun K hK => ?_)
                    refine goes_ Try.func23 (by kernel_rfl) rfl #[.agg #[.int .i64 t502, .int .i64 t503, .int .i64 t504], .agg #[.int .u64 t490, .slice Ao42 t491.length co42]] (by rfl) rfl rfl (by (try simp only [List.map_toArray, List.map_cons, List.map_nil]); first | done | rfl | (simp only [List.length_drop, List.length_take]; rfl)) ?_
                    with_reducible refine (lead_Until.calls t502 t503 t504 t490 _ _ t491 t505 true t507 _ ?side1 ?side2 A8.out).mono ?_
                    (case side1 => repeat (first | exact (Kd.V_reads' HO493.out).2.2 | (with_reducible refine Kd.C_alloc ?_ _) | (with_reducible refine Kd.C_drewN ?_ _) | (with_reducible refine Kd.C_drew ?_)))
                    (case side2 => exact (Kd.V_reads' HO493.out).2.1)
                    rintro e w49 ⟨rfl, hb⟩
                    refine ⟨_, rfl, ?_⟩
                    have n0_ := Aside0.mk (Kd.R_below (by (with_reducible repeat (first | apply Kd.R_alloc | apply Kd.R_drewN | apply Kd.R_drew)); exact HO476.out) hb)
                    have n1_ := Aside0.mk (Kd.V_below (by (with_reducible repeat (first | apply Kd.V_alloc | apply Kd.V_drewN | apply Kd.V_drew)); exact HO482.out) hb)
                    have n2_ := Aside0.mk (Kd.V_below (by (with_reducible repeat (first | apply Kd.V_alloc | apply Kd.V_drewN | apply Kd.V_drew)); exact HO487.out) hb)
                    have n3_ := Aside0.mk (Kd.V_below (by (with_reducible repeat (first | apply Kd.V_alloc | apply Kd.V_drewN | apply Kd.V_drew)); exact HO493.out) hb)
                    have n4_ := Aside0.mk (blk_below (g := gb478) (o := .cells #[.int .u64 t479, .slice Ao27 t480.length co27] 52 (0, 0)) (by (with_reducible repeat (first | refine blk_drewN ?_ _ | refine blk_drew ?_ | refine blk_alloc ?_ _)); exact BK478.out) hb)
                    have n5_ := Aside0.mk (blk_below (g := gb489) (o := .cells #[.int .u64 t484, .slice Ao34 t485.length co34] 52 (0, 0)) (by (with_reducible repeat (first | refine blk_drewN ?_ _ | refine blk_drew ?_ | refine blk_alloc ?_ _)); exact BK489.out) hb)
                    have n6_ := Aside0.mk (blk_below (g := gb495) (o := .cells #[.int .u64 t490, .slice Ao42 t491.length co42] 52 (0, 0)) (by (with_reducible repeat (first | refine blk_drewN ?_ _ | refine blk_drew ?_ | refine blk_alloc ?_ _)); exact BK495.out) hb)
                    have n7_ := Aside0.mk (below_step (by repeat (first | (with_reducible first | exact HB.out | apply below_alloc | apply pw_below_drewN | apply below_drew1 | refine below_set ?_ GE478.out | refine below_set ?_ GE489.out | refine below_set ?_ GE495.out) | exact HB.out)) hb)
                    clear HO476
                    clear HO482
                    clear HO487
                    clear HO493
                    clear BK478
                    clear BK489
                    clear BK495
                    clear HB
                    have HO476 := n0_
                    have HO482 := n1_
                    have HO487 := n2_
                    have HO493 := n3_
                    have BK478 := n4_
                    have BK489 := n5_
                    have BK495 := n6_
                    have HB := n7_
                    clear n0_ n1_ n2_ n3_ n4_ n5_ n6_ n7_
                    (try clear hb)
                    (try clear hb2)
                    (try clear hk)
                    (try clear hi)
                    refine hK.out _ _ ⟨(blk_cell BK495.out 0).trans rfl, (blk_cell BK495.out 1).trans rfl⟩ (fun hHeld => ?_)
                    clear hK K
                    refine norm_ (a' := ?_) ?_ ?_
                    rotate_left
                    · show Act.put _ (some 45) _ = _
                      simp only [Act.put, List.setIfInBounds_toArray, List.set_cons_zero, List.set_cons_succ, i64_w, i32_w]
                      rfl
                    refine pure_ (i := 3) (N := some 42) (v := ?_) (a' := ?_) #[true, true, true, true, false, false, false, false, false, false] rfl rfl (any_of HT_.out (by kernel_rfl)) (fun _ _ _ h => h) (Or.inl ⟨by rfl, ?_⟩) ?_ ?_
                    rotate_left
                    · intro w'
                      go_simp
                      with_reducible rfl
                    rotate_left
                    · simp only [Act.put, List.setIfInBounds_toArray, List.set_cons_zero, List.set_cons_succ, i64_w, i32_w]
                      rfl
                    refine pure_ (i := 4) (N := some 46) (v := ?_) (a' := ?_) #[true, true, true, true, true, false, false, false, false, false] rfl rfl (any_of HT_.out (by kernel_rfl)) (fun _ _ _ h => h) (Or.inl ⟨by rfl, ?_⟩) ?_ ?_
                    rotate_left
                    · intro w'
                      go_simp
                      with_reducible rfl
                    rotate_left
                    · simp only [Act.put, List.setIfInBounds_toArray, List.set_cons_zero, List.set_cons_succ, i64_w, i32_w]
                      rfl
                    refine pure_ (i := 5) (N := some 47) (v := ?_) (a' := ?_) #[true, true, true, true, true, true, false, false, false, false] rfl rfl (any_of HT_.out (by kernel_rfl)) (fun _ _ _ h => h) (Or.inl ⟨by rfl, ?_⟩) ?_ ?_
                    rotate_left
                    · intro w'
                      go_simp
                      with_reducible rfl
                    rotate_left
                    · simp only [Act.put, List.setIfInBounds_toArray, List.set_cons_zero, List.set_cons_succ, i64_w, i32_w]
                      rfl
                    refine pure_ (i := 6) (N := some 48) (v := ?_) (a' := ?_) #[true, true, true, true, true, true, true, false, false, false] rfl rfl (any_of HT_.out (by kernel_rfl)) (fun _ _ _ h => h) (Or.inl ⟨by rfl, ?_⟩) ?_ ?_
                    rotate_left
                    · intro w'
                      go_simp
                      with_reducible rfl
                    rotate_left
                    · simp only [Act.put, List.setIfInBounds_toArray, List.set_cons_zero, List.set_cons_succ, i64_w, i32_w]
                      rfl
                    refine pure_ (i := 7) (N := some 11) (v := ?_) (a' := ?_) #[true, true, true, true, true, true, true, true, false, false] rfl rfl (any_of HT_.out (by kernel_rfl)) (fun _ _ _ h => h) (Or.inl ⟨by rfl, ?_⟩) ?_ ?_
                    rotate_left
                    · intro w'
                      go_simp
                      with_reducible rfl
                    rotate_left
                    · simp only [Act.put, List.setIfInBounds_toArray, List.set_cons_zero, List.set_cons_succ, i64_w, i32_w]
                      rfl
                    refine pure_ (i := 8) (N := some 12) (v := ?_) (a' := ?_) #[true, true, true, true, true, true, true, true, true, false] rfl rfl (any_of HT_.out (by kernel_rfl)) (fun _ _ _ h => h) (Or.inl ⟨by rfl, ?_⟩) ?_ ?_
                    rotate_left
                    · intro w'
                      go_simp
                      with_reducible rfl
                    rotate_left
                    · simp only [Act.put, List.setIfInBounds_toArray, List.set_cons_zero, List.set_cons_succ, i64_w, i32_w]
                      rfl
                    refine pure_ (i := 9) (N := some 13) (v := ?_) (a' := ?_) #[true, true, true, true, true, true, true, true, true, true] rfl rfl (any_of HT_.out (by kernel_rfl)) (fun _ _ _ h => h) (Or.inl ⟨by rfl, ?_⟩) ?_ ?_
                    rotate_left
                    · intro w'
                      go_simp
                      with_reducible rfl
                    rotate_left
                    · simp only [Act.put, List.setIfInBounds_toArray, List.set_cons_zero, List.set_cons_succ, i64_w, i32_w]
                      rfl
                    refine done_ (done_of HT_.out (by kernel_rfl)) ?_
                    have hcz50_0 : w49.cell? ⟨gb495, 0, none⟩ = some (.int .u64 t490) := (blk_cell BK495.out 0).trans rfl
                    have hcz50_1 : w49.cell? ⟨gb495, 1, none⟩ = some (.slice Ao42 t491.length co42) := (blk_cell BK495.out 1).trans rfl
                    have hfz50_0 := blk_frozen BK495.out 0
                    have hfz50_1 := blk_frozen BK495.out 1
                    try go_wp2_with (first | ((with_reducible refine gate_callee (f := 22) rfl ?_); refine goesL_ (some 51) rfl rfl Try.func22 (by kernel_rfl) rfl #[.agg #[.int .u64 t490, .slice Ao42 t491.length co42], .int .i64 1, .int .u64 3, .int .i64 9] rfl (by (try simp only [List.map_toArray, List.map_cons, List.map_nil]); first | done | rfl | (simp only [List.length_drop, List.length_take]; rfl)) ?_; (with_reducible refine (lead_Granted.calls k t490 (fun k_ => (k_ ≠ gb478 ∧ (k_ ≠ gb489 ∧ k_ ≠ gb495))) _ _ t491 1 3 9 t508 t509 t512 _ ?side1 A9.out).mono ?_); (case side1 => exact HO493.out); rintro e w51 ⟨v510, rfl, ho0, hb⟩; refine ⟨_, rfl, ?_⟩; have n0_ := Aside0.mk (Kd.V_below (by (with_reducible repeat (first | apply Kd.V_alloc | apply Kd.V_drewN | apply Kd.V_drew)); exact HO482.out) hb); have n1_ := Aside0.mk (Kd.V_below (by (with_reducible repeat (first | apply Kd.V_alloc | apply Kd.V_drewN | apply Kd.V_drew)); exact HO487.out) hb); have n2_ := Aside0.mk (Kd.V_below (by (with_reducible repeat (first | apply Kd.V_alloc | apply Kd.V_drewN | apply Kd.V_drew)); exact HO493.out) hb); have n3_ := Aside0.mk (Kd.V_lower (Kd.V_mono (ok' := fun k_ => k_ ≠ gb478 ∧ k_ ≠ gb489 ∧ k_ ≠ gb495) ho0 (fun k_ hk_ => ⟨Or.elim hk_ (fun hs_ => hs_.1) (fun hn_ => (Kd.freshB (g := gb478) (o := .cells #[.int .u64 t479, .slice Ao27 t480.length co27] 52 (0, 0)) (by (with_reducible repeat (first | refine blk_drewN ?_ _ | refine blk_drew ?_ | refine blk_alloc ?_ _)); exact BK478.out) k_ hn_)), Or.elim hk_ (fun hs_ => hs_.2.1) (fun hn_ => (Kd.freshB (g := gb489) (o := .cells #[.int .u64 t484, .slice Ao34 t485.length co34] 52 (0, 0)) (by (with_reducible repeat (first | refine blk_drewN ?_ _ | refine blk_drew ?_ | refine blk_alloc ?_ _)); exact BK489.out) k_ hn_)), Or.elim hk_ (fun hs_ => hs_.2.2) (fun hn_ => (Kd.freshB (g := gb495) (o := .cells #[.int .u64 t490, .slice Ao42 t491.length co42] 52 (0, 0)) (by (with_reducible repeat (first | refine blk_drewN ?_ _ | refine blk_drew ?_ | refine blk_alloc ?_ _)); exact BK495.out) k_ hn_))⟩)) (below_size (by repeat (first | (with_reducible first | exact HB.out | apply below_alloc | apply pw_below_drewN | apply below_drew1 | refine below_set ?_ GE478.out | refine below_set ?_ GE489.out | refine below_set ?_ GE495.out) | exact HB.out)))); have n4_ := Aside0.mk (blk_below (g := gb478) (o := .cells #[.int .u64 t479, .slice Ao27 t480.length co27] 52 (0, 0)) (by (with_reducible repeat (first | refine blk_drewN ?_ _ | refine blk_drew ?_ | refine blk_alloc ?_ _)); exact BK478.out) hb); have n5_ := Aside0.mk (blk_below (g := gb489) (o := .cells #[.int .u64 t484, .slice Ao34 t485.length co34] 52 (0, 0)) (by (with_reducible repeat (first | refine blk_drewN ?_ _ | refine blk_drew ?_ | refine blk_alloc ?_ _)); exact BK489.out) hb); have n6_ := Aside0.mk (blk_below (g := gb495) (o := .cells #[.int .u64 t490, .slice Ao42 t491.length co42] 52 (0, 0)) (by (with_reducible repeat (first | refine blk_drewN ?_ _ | refine blk_drew ?_ | refine blk_alloc ?_ _)); exact BK495.out) hb); have n7_ := Aside0.mk (below_step (by repeat (first | (with_reducible first | exact HB.out | apply below_alloc | apply pw_below_drewN | apply below_drew1 | refine below_set ?_ GE478.out | refine below_set ?_ GE489.out | refine below_set ?_ GE495.out) | exact HB.out)) hb); clear HO482; clear HO487; clear HO493; clear BK478; clear BK489; clear BK495; clear HB; have HO482 := n0_; have HO487 := n1_; have HO493 := n2_; have HO511 := n3_; have BK478 := n4_; have BK489 := n5_; have BK495 := n6_; have HB := n7_; clear n0_ n1_ n2_ n3_ n4_ n5_ n6_ n7_; (try clear hb); (try clear hb2); (try clear hk); (try clear hi); (try clear ho0)) | ((with_reducible refine gate_dst (N := 14) rfl ?_); refine box_event ?hg (N := 14) ?hd (cs := #[.int .u64 0, .slice none 0 0]) (t := 52) ?hr ?_; (case hd => rfl); (case hg => rfl); (case hr => first | (go_simp; done) | (go_simp; rfl)); intro gb513 hg w52 hbox hb; have n0_ := Aside0.mk (Kd.V_below (Kd.V_elderB (by (with_reducible repeat (first | apply Kd.V_alloc | apply Kd.V_drewN | apply Kd.V_drew)); exact HO482.out) gb513 (Nat.le_of_eq hg.symm)) hb); have n1_ := Aside0.mk (Kd.V_below (Kd.V_elderB (by (with_reducible repeat (first | apply Kd.V_alloc | apply Kd.V_drewN | apply Kd.V_drew)); exact HO487.out) gb513 (Nat.le_of_eq hg.symm)) hb); have n2_ := Aside0.mk (Kd.V_below (Kd.V_elderB (by (with_reducible repeat (first | apply Kd.V_alloc | apply Kd.V_drewN | apply Kd.V_drew)); exact HO493.out) gb513 (Nat.le_of_eq hg.symm)) hb); have n3_ := Aside0.mk (Kd.V_below (Kd.V_elderB (by (with_reducible repeat (first | apply Kd.V_alloc | apply Kd.V_drewN | apply Kd.V_drew)); exact HO511.out) gb513 (Nat.le_of_eq hg.symm)) hb); have n4_ := Aside0.mk (blk_below (g := gb478) (o := .cells #[.int .u64 t479, .slice Ao27 t480.length co27] 52 (0, 0)) (by (with_reducible repeat (first | refine blk_drewN ?_ _ | refine blk_drew ?_ | refine blk_alloc ?_ _)); exact BK478.out) hb); have n5_ := Aside0.mk (blk_below (g := gb489) (o := .cells #[.int .u64 t484, .slice Ao34 t485.length co34] 52 (0, 0)) (by (with_reducible repeat (first | refine blk_drewN ?_ _ | refine blk_drew ?_ | refine blk_alloc ?_ _)); exact BK489.out) hb); have n6_ := Aside0.mk (blk_below (g := gb495) (o := .cells #[.int .u64 t490, .slice Ao42 t491.length co42] 52 (0, 0)) (by (with_reducible repeat (first | refine blk_drewN ?_ _ | refine blk_drew ?_ | refine blk_alloc ?_ _)); exact BK495.out) hb); have n7_ := Aside0.mk (below_step (by repeat (first | (with_reducible first | exact HB.out | apply below_alloc | apply pw_below_drewN | apply below_drew1 | refine below_set ?_ GE478.out | refine below_set ?_ GE489.out | refine below_set ?_ GE495.out) | exact HB.out)) hb); have n8_ := Aside0.mk (hbox); have n9_ := Aside0.mk ((by rw [hg]; exact (below_size (by repeat (first | (with_reducible first | exact HB.out | apply below_alloc | apply pw_below_drewN | apply below_drew1 | refine below_set ?_ GE478.out | refine below_set ?_ GE489.out | refine below_set ?_ GE495.out) | exact HB.out))) : w.heap.size ≤ gb513)); have n10_ := Aside0.mk ((by rw [hg]; exact (below_size (by repeat (first | (with_reducible first | exact HB.out | apply below_alloc | apply pw_below_drewN | apply below_drew1 | refine below_set ?_ GE478.out | refine below_set ?_ GE489.out | refine below_set ?_ GE495.out) | exact HB.out))) : w.heap.size ≤ gb513)); have n11_ := Aside0.mk ((by rw [hg]; exact Nat.ne_of_lt (blk_lt (g := gb478) (o := .cells #[.int .u64 t479, .slice Ao27 t480.length co27] 52 (0, 0)) (by (with_reducible repeat (first | refine blk_drewN ?_ _ | refine blk_drew ?_ | refine blk_alloc ?_ _)); exact BK478.out)) : gb478 ≠ gb513)); have n12_ := Aside0.mk ((by rw [hg]; exact Nat.ne_of_gt (blk_lt (g := gb478) (o := .cells #[.int .u64 t479, .slice Ao27 t480.length co27] 52 (0, 0)) (by (with_reducible repeat (first | refine blk_drewN ?_ _ | refine blk_drew ?_ | refine blk_alloc ?_ _)); exact BK478.out)) : gb513 ≠ gb478)); have n13_ := Aside0.mk ((by rw [hg]; exact Nat.ne_of_lt (blk_lt (g := gb489) (o := .cells #[.int .u64 t484, .slice Ao34 t485.length co34] 52 (0, 0)) (by (with_reducible repeat (first | refine blk_drewN ?_ _ | refine blk_drew ?_ | refine blk_alloc ?_ _)); exact BK489.out)) : gb489 ≠ gb513)); have n14_ := Aside0.mk ((by rw [hg]; exact Nat.ne_of_gt (blk_lt (g := gb489) (o := .cells #[.int .u64 t484, .slice Ao34 t485.length co34] 52 (0, 0)) (by (with_reducible repeat (first | refine blk_drewN ?_ _ | refine blk_drew ?_ | refine blk_alloc ?_ _)); exact BK489.out)) : gb513 ≠ gb489)); have n15_ := Aside0.mk ((by rw [hg]; exact Nat.ne_of_lt (blk_lt (g := gb495) (o := .cells #[.int .u64 t490, .slice Ao42 t491.length co42] 52 (0, 0)) (by (with_reducible repeat (first | refine blk_drewN ?_ _ | refine blk_drew ?_ | refine blk_alloc ?_ _)); exact BK495.out)) : gb495 ≠ gb513)); have n16_ := Aside0.mk ((by rw [hg]; exact Nat.ne_of_gt (blk_lt (g := gb495) (o := .cells #[.int .u64 t490, .slice Ao42 t491.length co42] 52 (0, 0)) (by (with_reducible repeat (first | refine blk_drewN ?_ _ | refine blk_drew ?_ | refine blk_alloc ?_ _)); exact BK495.out)) : gb513 ≠ gb495)); clear HO482; clear HO487; clear HO493; clear HO511; clear BK478; clear BK489; clear BK495; clear HB; have HO482 := n0_; have HO487 := n1_; have HO493 := n2_; have HO511 := n3_; have BK478 := n4_; have BK489 := n5_; have BK495 := n6_; have HB := n7_; have BK513 := n8_; have GW513 := n9_; have GE513 := n10_; have NB478_513 := n11_; have NB513_478 := n12_; have NB489_513 := n13_; have NB513_489 := n14_; have NB495_513 := n15_; have NB513_495 := n16_; clear n0_ n1_ n2_ n3_ n4_ n5_ n6_ n7_ n8_ n9_ n10_ n11_ n12_ n13_ n14_ n15_ n16_; clear hb hbox hg; have hnb53 := NB513_478.out; have hnc53 := NB478_513.out; have hnb54 := NB513_489.out; have hnc54 := NB489_513.out; have hnb55 := NB513_495.out; have hnc55 := NB495_513.out; have hcz56_0 : w52.cell? ⟨gb513, 0, none⟩ = some (.int .u64 0) := (blk_cell BK513.out 0).trans rfl; have hcz56_1 : w52.cell? ⟨gb513, 1, none⟩ = some (.slice none 0 0) := (blk_cell BK513.out 1).trans rfl; have hfz56_0 := blk_frozen BK513.out 0; have hfz56_1 := blk_frozen BK513.out 1; obtain ⟨Ao57, co57, eo57⟩ := Kd.V_slice HO511.out; subst eo57; have hcz58_0 : w52.cell? ⟨gb478, 0, none⟩ = some (.int .u64 t479) := (blk_cell BK478.out 0).trans rfl; have hcz58_1 : w52.cell? ⟨gb478, 1, none⟩ = some (.slice Ao27 t480.length co27) := (blk_cell BK478.out 1).trans rfl; have hfz58_0 := blk_frozen BK478.out 0; have hfz58_1 := blk_frozen BK478.out 1))
                    go_ret
                    exact ⟨by first | rfl | (simp [errW_none, errW_some] <;> rfl) | (simp [*, errW_none, errW_some] <;> rfl), by repeat (first | (with_reducible first | exact HB.out | apply below_alloc | apply pw_below_drewN | apply below_drew1 | refine below_set ?_ GE478.out | refine below_set ?_ GE489.out | refine below_set ?_ GE495.out | refine below_set ?_ GE513.out) | exact HB.out)⟩
                  · rw [if_neg c18] at H
                    have c18b0 : (t507 == 0) = false := beq_eq_false_iff_ne.mpr c18
                    have c18b1 : (t507 != 0) = true := bne_iff_ne.mpr c18
                    exact absurd ((Option.some.inj H).trans hrt.out) (by decide)
                · rw [if_neg c17] at H
                  have c17b0 : (t505 == 12) = false := beq_eq_false_iff_ne.mpr c17
                  have c17b1 : (t505 != 12) = true := bne_iff_ne.mpr c17
                  exact absurd ((Option.some.inj H).trans hrt.out) (by decide)
              · replace c16 := Bool.eq_false_iff.mpr c16
                subst c16
                have H1 : (some false) = some r := by rw [if_neg (show ¬ (false = true) by decide)] at H; exact H
                clear H
                have H := H1
                clear H1
                exact absurd ((Option.some.inj H).trans hrt.out) (by decide)
          · rw [if_neg c14] at H
            have c14b0 : (t494 == 0) = false := beq_eq_false_iff_ne.mpr c14
            have c14b1 : (t494 != 0) = true := bne_iff_ne.mpr c14
            exact absurd ((Option.some.inj H).trans hrt.out) (by decide)
        · rw [if_neg c13] at H
          have c13b0 : (t488 == 0) = false := beq_eq_false_iff_ne.mpr c13
          have c13b1 : (t488 != 0) = true := bne_iff_ne.mpr c13
          exact absurd ((Option.some.inj H).trans hrt.out) (by decide)
      · rw [if_neg c12] at H
        have c12b0 : (t483 == 0) = false := beq_eq_false_iff_ne.mpr c12
        have c12b1 : (t483 != 0) = true := bne_iff_ne.mpr c12
        exact absurd ((Option.some.inj H).trans hrt.out) (by decide)
    · rw [if_neg c11] at H
      have c11b0 : (t477 == 0) = false := beq_eq_false_iff_ne.mpr c11
      have c11b1 : (t477 != 0) = true := bne_iff_ne.mpr c11
      exact absurd ((Option.some.inj H).trans hrt.out) (by decide)
  · rw [if_neg c10] at H
    have c10b0 : ((t480.length : Int) == 3) = false := beq_eq_false_iff_ne.mpr c10
    have c10b1 : ((t480.length : Int) != 3) = true := bne_iff_ne.mpr c10
    exact absurd ((Option.some.inj H).trans hrt.out) (by decide)

end Go.Proofs.Ytgfblogneggpmaa.Fn
