-- Written by program (a turned copy of the kit's print) for this seat: functions, contracts. Lean checks it.
import Derived.Test.YtjamociekniepaaFnx0
import Derived.Test.YtjamociekniepaaFnx15
import Derived.Test.YtjamociekniepaaFnx16
import Derived.Test.YtjamociekniepaaFnx17
import Derived.Test.YtjamociekniepaaExTab
namespace Go.Proofs.Ytjamociekniepaa.Fn
open Go.RowKit Go.Proofs.YtjamociekniepaaW.PrintWords Go.Proofs.YtjamociekniepaaW.PrintLast Go.Proofs.YtjamociekniepaaW.PrintMore
attribute [local go_sem] max2_int min2_int max_two min_two max_three min_three max_four min_four   -- for this text's walks alone
set_option linter.unusedVariables false
set_option linter.unusedSimpArgs false

/-! ### tattlelaw06_awake: function 28 -/
def tattlelaw06_awake.f (k : Nat)  : Option (Bool) := (table_New.f 2).bind fun bt330 => ((table_Apply.f k bt330.1 1 0 2).bind fun bt334 => ((table_Apply.f k bt334.1 1 0 2).bind fun bt339 => ((table_Lowest.f (([(⟨0, 2⟩ : S26)] : List (S26)))).bind fun bt347 => (if (bt330.1.length : Int) = 2 then (if bt330.2 = 0 then (if bt334.2.1 = true then (if bt334.2.2 = 0 then (if bt339.2.1 = true then (some false) else (if bt339.2.2 = 0 then ((tattleref06_Same.f k bt334.1 bt339.1).bind fun t349 => (if t349 = true then ((table_Up.f (([(⟨0, 0⟩ : S26), (⟨0, 2⟩ : S26), (⟨0, 1⟩ : S26)] : List (S26)))).bind fun t353 => ((tattleref02_Same.f k t353 (([0, 2] : List Int))).bind fun t359 => (if t359 = true then (some (bt347.2 == 6)) else (some false)))) else (some false))) else (some false))) else (some false)) else (some false)) else (some false)) else (some false)))))
theorem tattlelaw06_awake.mono : ∀ k, LeO (tattlelaw06_awake.f k ) (tattlelaw06_awake.f (k + 1) ) := by
  intro  k
  unfold tattlelaw06_awake.f
  repeat' first
      | (with_reducible exact table_Apply.mono _ _ _ _ _)
      | (with_reducible exact tattleref02_Same.mono _ _ _)
      | (with_reducible exact tattleref06_Same.mono _ _ _)
      | (with_reducible exact LeO.refl _)
      | (with_reducible exact LeO.none _)
      | (with_reducible refine LeO.ite ?_ ?_)
      | (with_reducible refine LeO.bind ?_ (fun _ => ?_))
      | exact table_Apply.mono _ _ _ _ _
      | exact tattleref02_Same.mono _ _ _
      | exact tattleref06_Same.mono _ _ _
      | exact LeO.none _
      | refine LeO.ite ?_ ?_
      | refine LeO.bind ?_ (fun _ => ?_)
set_option maxHeartbeats 8000000 in
set_option maxRecDepth 100000 in
theorem tattlelaw06_awake.calls (k : Nat)  (r : Bool) (w : World) (hrt : Aside0 (r = true)) (h : tattlelaw06_awake.f k  = some r) :
    Calls Try.prog 28 #[] w fun e w' => e = .returned (.bool r) ∧ Below w.heap.size w w' := by
  have hu26 := Try.underlying26
  have HB := Aside0.mk (Below.refl w.heap.size w)
  have H : ((table_New.f 2).bind fun bt330 => ((table_Apply.f k bt330.1 1 0 2).bind fun bt334 => ((table_Apply.f k bt334.1 1 0 2).bind fun bt339 => ((table_Lowest.f (([(⟨0, 2⟩ : S26)] : List (S26)))).bind fun bt347 => (if (bt330.1.length : Int) = 2 then (if bt330.2 = 0 then (if bt334.2.1 = true then (if bt334.2.2 = 0 then (if bt339.2.1 = true then (some false) else (if bt339.2.2 = 0 then ((tattleref06_Same.f k bt334.1 bt339.1).bind fun t349 => (if t349 = true then ((table_Up.f (([(⟨0, 0⟩ : S26), (⟨0, 2⟩ : S26), (⟨0, 1⟩ : S26)] : List (S26)))).bind fun t353 => ((tattleref02_Same.f k t353 (([0, 2] : List Int))).bind fun t359 => (if t359 = true then (some (bt347.2 == 6)) else (some false)))) else (some false))) else (some false))) else (some false)) else (some false)) else (some false)) else (some false)))))) = some r := h
  clear h
  replace H := Option.bind_eq_some_iff.mp H
  obtain ⟨⟨t330, t331⟩, A10, H⟩ := H
  replace H : ((table_Apply.f k t330 1 0 2).bind fun bt334 => ((table_Apply.f k bt334.1 1 0 2).bind fun bt339 => ((table_Lowest.f (([(⟨0, 2⟩ : S26)] : List (S26)))).bind fun bt347 => (if (t330.length : Int) = 2 then (if t331 = 0 then (if bt334.2.1 = true then (if bt334.2.2 = 0 then (if bt339.2.1 = true then (some false) else (if bt339.2.2 = 0 then ((tattleref06_Same.f k bt334.1 bt339.1).bind fun t349 => (if t349 = true then ((table_Up.f (([(⟨0, 0⟩ : S26), (⟨0, 2⟩ : S26), (⟨0, 1⟩ : S26)] : List (S26)))).bind fun t353 => ((tattleref02_Same.f k t353 (([0, 2] : List Int))).bind fun t359 => (if t359 = true then (some (bt347.2 == 6)) else (some false)))) else (some false))) else (some false))) else (some false)) else (some false)) else (some false)) else (some false))))) = some r := H
  have A1 := Aside0.mk A10
  clear A10
  replace H := Option.bind_eq_some_iff.mp H
  obtain ⟨⟨t334, t337, t338⟩, A20, H⟩ := H
  replace H : ((table_Apply.f k t334 1 0 2).bind fun bt339 => ((table_Lowest.f (([(⟨0, 2⟩ : S26)] : List (S26)))).bind fun bt347 => (if (t330.length : Int) = 2 then (if t331 = 0 then (if t337 = true then (if t338 = 0 then (if bt339.2.1 = true then (some false) else (if bt339.2.2 = 0 then ((tattleref06_Same.f k t334 bt339.1).bind fun t349 => (if t349 = true then ((table_Up.f (([(⟨0, 0⟩ : S26), (⟨0, 2⟩ : S26), (⟨0, 1⟩ : S26)] : List (S26)))).bind fun t353 => ((tattleref02_Same.f k t353 (([0, 2] : List Int))).bind fun t359 => (if t359 = true then (some (bt347.2 == 6)) else (some false)))) else (some false))) else (some false))) else (some false)) else (some false)) else (some false)) else (some false)))) = some r := H
  have A2 := Aside0.mk A20
  clear A20
  replace H := Option.bind_eq_some_iff.mp H
  obtain ⟨⟨t339, t342, t343⟩, A30, H⟩ := H
  replace H : ((table_Lowest.f (([(⟨0, 2⟩ : S26)] : List (S26)))).bind fun bt347 => (if (t330.length : Int) = 2 then (if t331 = 0 then (if t337 = true then (if t338 = 0 then (if t342 = true then (some false) else (if t343 = 0 then ((tattleref06_Same.f k t334 t339).bind fun t349 => (if t349 = true then ((table_Up.f (([(⟨0, 0⟩ : S26), (⟨0, 2⟩ : S26), (⟨0, 1⟩ : S26)] : List (S26)))).bind fun t353 => ((tattleref02_Same.f k t353 (([0, 2] : List Int))).bind fun t359 => (if t359 = true then (some (bt347.2 == 6)) else (some false)))) else (some false))) else (some false))) else (some false)) else (some false)) else (some false)) else (some false))) = some r := H
  have A3 := Aside0.mk A30
  clear A30
  obtain ⟨y344, hy344⟩ : ∃ y_ : List (S26), y_ = (([(⟨0, 2⟩ : S26)] : List (S26))) := ⟨_, rfl⟩
  replace H : ((table_Lowest.f y344).bind fun bt347 => (if (t330.length : Int) = 2 then (if t331 = 0 then (if t337 = true then (if t338 = 0 then (if t342 = true then (some false) else (if t343 = 0 then ((tattleref06_Same.f k t334 t339).bind fun t349 => (if t349 = true then ((table_Up.f (([(⟨0, 0⟩ : S26), (⟨0, 2⟩ : S26), (⟨0, 1⟩ : S26)] : List (S26)))).bind fun t353 => ((tattleref02_Same.f k t353 (([0, 2] : List Int))).bind fun t359 => (if t359 = true then (some (bt347.2 == 6)) else (some false)))) else (some false))) else (some false))) else (some false)) else (some false)) else (some false)) else (some false))) = some r := by first | (rw [hy344]; with_reducible exact H) | (have H2_ := (Option.bind_some _ _).symm.trans H; rw [hy344]; with_reducible exact H2_) | (have H2_ := (Option.bind_some _ _).symm.trans H; with_reducible exact H2_) | with_reducible exact H | (rw [hy344]; exact H) | exact H
  have Ny344 := Aside0.mk hy344
  clear hy344
  replace H := Option.bind_eq_some_iff.mp H
  obtain ⟨⟨t347, t348⟩, A40, H⟩ := H
  replace H : (if (t330.length : Int) = 2 then (if t331 = 0 then (if t337 = true then (if t338 = 0 then (if t342 = true then (some false) else (if t343 = 0 then ((tattleref06_Same.f k t334 t339).bind fun t349 => (if t349 = true then ((table_Up.f (([(⟨0, 0⟩ : S26), (⟨0, 2⟩ : S26), (⟨0, 1⟩ : S26)] : List (S26)))).bind fun t353 => ((tattleref02_Same.f k t353 (([0, 2] : List Int))).bind fun t359 => (if t359 = true then (some (t348 == 6)) else (some false)))) else (some false))) else (some false))) else (some false)) else (some false)) else (some false)) else (some false)) = some r := H
  have A4 := Aside0.mk A40
  clear A40
  by_cases c5 : (t330.length : Int) = 2
  · rw [if_pos c5] at H
    have c5b0 : ((t330.length : Int) == 2) = true := beq_iff_eq.mpr c5
    have c5b1 : ((t330.length : Int) != 2) = false := bne_eq_false_iff_eq.mpr c5
    clear c5
    by_cases c6 : t331 = 0
    · rw [if_pos c6] at H
      have c6b0 : (t331 == 0) = true := beq_iff_eq.mpr c6
      have c6b1 : (t331 != 0) = false := bne_eq_false_iff_eq.mpr c6
      clear c6
      by_cases c7 : t337 = true
      · subst c7
        have H1 : (if t338 = 0 then (if t342 = true then (some false) else (if t343 = 0 then ((tattleref06_Same.f k t334 t339).bind fun t349 => (if t349 = true then ((table_Up.f (([(⟨0, 0⟩ : S26), (⟨0, 2⟩ : S26), (⟨0, 1⟩ : S26)] : List (S26)))).bind fun t353 => ((tattleref02_Same.f k t353 (([0, 2] : List Int))).bind fun t359 => (if t359 = true then (some (t348 == 6)) else (some false)))) else (some false))) else (some false))) else (some false)) = some r := by rw [if_pos rfl] at H; exact H
        clear H
        have H := H1
        clear H1
        by_cases c8 : t338 = 0
        · rw [if_pos c8] at H
          have c8b0 : (t338 == 0) = true := beq_iff_eq.mpr c8
          have c8b1 : (t338 != 0) = false := bne_eq_false_iff_eq.mpr c8
          clear c8
          by_cases c9 : t342 = true
          · subst c9
            have H1 : (some false) = some r := by rw [if_pos rfl] at H; exact H
            clear H
            have H := H1
            clear H1
            exact absurd ((Option.some.inj H).trans hrt.out) (by decide)
          · replace c9 := Bool.eq_false_iff.mpr c9
            subst c9
            have H1 : (if t343 = 0 then ((tattleref06_Same.f k t334 t339).bind fun t349 => (if t349 = true then ((table_Up.f (([(⟨0, 0⟩ : S26), (⟨0, 2⟩ : S26), (⟨0, 1⟩ : S26)] : List (S26)))).bind fun t353 => ((tattleref02_Same.f k t353 (([0, 2] : List Int))).bind fun t359 => (if t359 = true then (some (t348 == 6)) else (some false)))) else (some false))) else (some false)) = some r := by rw [if_neg (show ¬ (false = true) by decide)] at H; exact H
            clear H
            have H := H1
            clear H1
            by_cases c10 : t343 = 0
            · rw [if_pos c10] at H
              have c10b0 : (t343 == 0) = true := beq_iff_eq.mpr c10
              have c10b1 : (t343 != 0) = false := bne_eq_false_iff_eq.mpr c10
              clear c10
              replace H := Option.bind_eq_some_iff.mp H
              obtain ⟨t349, A110, H⟩ := H
              replace H : (if t349 = true then ((table_Up.f (([(⟨0, 0⟩ : S26), (⟨0, 2⟩ : S26), (⟨0, 1⟩ : S26)] : List (S26)))).bind fun t353 => ((tattleref02_Same.f k t353 (([0, 2] : List Int))).bind fun t359 => (if t359 = true then (some (t348 == 6)) else (some false)))) else (some false)) = some r := H
              have A11 := Aside0.mk A110
              clear A110
              by_cases c12 : t349 = true
              · subst c12
                have H1 : ((table_Up.f (([(⟨0, 0⟩ : S26), (⟨0, 2⟩ : S26), (⟨0, 1⟩ : S26)] : List (S26)))).bind fun t353 => ((tattleref02_Same.f k t353 (([0, 2] : List Int))).bind fun t359 => (if t359 = true then (some (t348 == 6)) else (some false)))) = some r := by rw [if_pos rfl] at H; exact H
                clear H
                have H := H1
                clear H1
                obtain ⟨y350, hy350⟩ : ∃ y_ : List (S26), y_ = (([(⟨0, 0⟩ : S26), (⟨0, 2⟩ : S26), (⟨0, 1⟩ : S26)] : List (S26))) := ⟨_, rfl⟩
                replace H : ((table_Up.f y350).bind fun t353 => ((tattleref02_Same.f k t353 (([0, 2] : List Int))).bind fun t359 => (if t359 = true then (some (t348 == 6)) else (some false)))) = some r := by first | (rw [hy350]; with_reducible exact H) | (have H2_ := (Option.bind_some _ _).symm.trans H; rw [hy350]; with_reducible exact H2_) | (have H2_ := (Option.bind_some _ _).symm.trans H; with_reducible exact H2_) | with_reducible exact H | (rw [hy350]; exact H) | exact H
                have Ny350 := Aside0.mk hy350
                clear hy350
                replace H := Option.bind_eq_some_iff.mp H
                obtain ⟨t353, A130, H⟩ := H
                replace H : ((tattleref02_Same.f k t353 (([0, 2] : List Int))).bind fun t359 => (if t359 = true then (some (t348 == 6)) else (some false))) = some r := H
                have A13 := Aside0.mk A130
                clear A130
                obtain ⟨y356, hy356⟩ : ∃ y_ : List Int, y_ = (([0, 2] : List Int)) := ⟨_, rfl⟩
                replace H : ((tattleref02_Same.f k t353 y356).bind fun t359 => (if t359 = true then (some (t348 == 6)) else (some false))) = some r := by first | (rw [hy356]; with_reducible exact H) | (have H2_ := (Option.bind_some _ _).symm.trans H; rw [hy356]; with_reducible exact H2_) | (have H2_ := (Option.bind_some _ _).symm.trans H; with_reducible exact H2_) | with_reducible exact H | (rw [hy356]; exact H) | exact H
                have Ny356 := Aside0.mk hy356
                clear hy356
                replace H := Option.bind_eq_some_iff.mp H
                obtain ⟨t359, A140, H⟩ := H
                replace H : (if t359 = true then (some (t348 == 6)) else (some false)) = some r := H
                have A14 := Aside0.mk A140
                clear A140
                by_cases c15 : t359 = true
                · subst c15
                  have H1 : (some (t348 == 6)) = some r := by rw [if_pos rfl] at H; exact H
                  clear H
                  have H := H1
                  clear H1
                  obtain rfl := Option.some.inj H
                  go_enter Try.func28, Try.ntmps28
                  go_wp2_with (first | ((with_reducible refine gate_callee (f := 35) rfl ?_); refine goesL_ (some 12) rfl rfl Try.func35 (by kernel_rfl) rfl #[.int .i64 2] rfl (by (try simp only [List.map_toArray, List.map_cons, List.map_nil]); first | done | rfl | (simp only [List.length_drop, List.length_take]; rfl)) ?_; (with_reducible refine (table_New.calls 2 t330 t331 _ A1.out).mono ?_); rintro e w16 ⟨v332, rfl, ho0, hb⟩; refine ⟨_, rfl, ?_⟩; have n0_ := Aside0.mk (Kd.R_lower ho0 (below_size (by repeat (first | (with_reducible first | exact HB.out | apply below_alloc | apply pw_below_drewN | apply below_drew1) | exact HB.out)))); have n1_ := Aside0.mk (below_step (by repeat (first | (with_reducible first | exact HB.out | apply below_alloc | apply pw_below_drewN | apply below_drew1) | exact HB.out)) hb); clear HB; have HO333 := n0_; have HB := n1_; clear n0_ n1_; (try clear hb); (try clear hb2); (try clear hk); (try clear hi); (try clear ho0); obtain ⟨Ao17, co17, eo17⟩ := Kd.R_slice HO333.out; subst eo17) | ((with_reducible refine gate_callee (f := 29) rfl ?_); refine goesL_ (some 18) rfl rfl Try.func29 (by kernel_rfl) rfl #[.slice Ao17 t330.length co17, .int .i64 1, .agg #[.int .u64 0, .int .i64 2]] rfl (by (try simp only [List.map_toArray, List.map_cons, List.map_nil]); first | done | rfl | (simp only [List.length_drop, List.length_take]; rfl)) ?_; (with_reducible refine (table_Apply.calls k (fun k_ => some k_ = (.slice Ao17 t330.length co17 : Value).ownBlock) _ _ t330 1 0 2 t334 true t338 _ ?side1 A2.out).mono ?_); (case side1 => exact Kd.R_V (Kd.R_tight rfl (HO333.out))); rintro e w18 ⟨v335, rfl, ho0, hb⟩; refine ⟨_, rfl, ?_⟩; have n0_ := Aside0.mk (Kd.R_below (by (with_reducible repeat (first | apply Kd.R_alloc | apply Kd.R_drewN | apply Kd.R_drew)); exact HO333.out) hb); have n1_ := Aside0.mk (Kd.V_lower (Kd.V_mono (ok' := fun k_ => True) ho0 (fun k_ hk_ => trivial)) (below_size (by repeat (first | (with_reducible first | exact HB.out | apply below_alloc | apply pw_below_drewN | apply below_drew1) | exact HB.out)))); have n2_ := Aside0.mk (below_step (by repeat (first | (with_reducible first | exact HB.out | apply below_alloc | apply pw_below_drewN | apply below_drew1) | exact HB.out)) hb); clear HO333; clear HB; have HO333 := n0_; have HO336 := n1_; have HB := n2_; clear n0_ n1_ n2_; (try clear hb); (try clear hb2); (try clear hk); (try clear hi); (try clear ho0); obtain ⟨Ao19, co19, eo19⟩ := Kd.V_slice HO336.out; subst eo19) | ((with_reducible refine gate_callee (f := 29) rfl ?_); refine goesL_ (some 25) rfl rfl Try.func29 (by kernel_rfl) rfl #[.slice Ao19 t334.length co19, .int .i64 1, .agg #[.int .u64 0, .int .i64 2]] rfl (by (try simp only [List.map_toArray, List.map_cons, List.map_nil]); first | done | rfl | (simp only [List.length_drop, List.length_take]; rfl)) ?_; (with_reducible refine (table_Apply.calls k (fun k_ => True) _ _ t334 1 0 2 t339 false t343 _ ?side1 A3.out).mono ?_); (case side1 => exact HO336.out); rintro e w20 ⟨v340, rfl, ho0, hb⟩; refine ⟨_, rfl, ?_⟩; have n0_ := Aside0.mk (Kd.R_below (by (with_reducible repeat (first | apply Kd.R_alloc | apply Kd.R_drewN | apply Kd.R_drew)); exact HO333.out) hb); have n1_ := Aside0.mk (Kd.V_below (by (with_reducible repeat (first | apply Kd.V_alloc | apply Kd.V_drewN | apply Kd.V_drew)); exact HO336.out) hb); have n2_ := Aside0.mk (Kd.V_lower (Kd.V_mono (ok' := fun k_ => True) ho0 (fun k_ hk_ => trivial)) (below_size (by repeat (first | (with_reducible first | exact HB.out | apply below_alloc | apply pw_below_drewN | apply below_drew1) | exact HB.out)))); have n3_ := Aside0.mk (below_step (by repeat (first | (with_reducible first | exact HB.out | apply below_alloc | apply pw_below_drewN | apply below_drew1) | exact HB.out)) hb); clear HO333; clear HO336; clear HB; have HO333 := n0_; have HO336 := n1_; have HO341 := n2_; have HB := n3_; clear n0_ n1_ n2_ n3_; (try clear hb); (try clear hb2); (try clear hk); (try clear hi); (try clear ho0)) | ((with_reducible refine gate_dst (N := 31) rfl ?_); (try (refine gate_guard (by rfl) ?_; dsimp only)); refine Kd.R_lit k26 _ 26 ?hg (N := 31) ?hd (xs := ([(⟨0, 2⟩ : S26)] : List (S26))) (inner := [.int .u64 0, .int .i64 2]) (ok := fun _ => True) (okp := fun _ => True) ?hr ?hp (fun _ hk => hk) trivial (Below.refl _ _) (Nat.le_refl _) (by simp) ?_; (case hd => rfl); (case hg => rfl); (case hr => first | (go_simp; done) | (go_simp; rfl)); (case hp => exact (Reps.c2 (show Kd.M k26 _ _ _ (⟨0, 2⟩ : S26) [.int .u64 0, .int .i64 2] from (k26_mkM _ _ _ (⟨0, 2⟩ : S26) )) (Reps.none _ _))); intro v345 w21 ho22 hb hg_ hnew_; clear hg_ hnew_; (first | rw [← Ny344.out] at ho22 | (simp only [Int.reduceToNat] at ho22; rw [← Ny344.out] at ho22)); have n0_ := Aside0.mk (Kd.R_elder' (by (with_reducible repeat (first | apply Kd.R_alloc | apply Kd.R_drewN | apply Kd.R_drew)); exact HO333.out) (Kd.R_base ho22) hb); have n1_ := Aside0.mk (Kd.V_elder' (by (with_reducible repeat (first | apply Kd.V_alloc | apply Kd.V_drewN | apply Kd.V_drew)); exact HO336.out) (Kd.R_base ho22) hb); have n2_ := Aside0.mk (Kd.V_elder' (by (with_reducible repeat (first | apply Kd.V_alloc | apply Kd.V_drewN | apply Kd.V_drew)); exact HO341.out) (Kd.R_base ho22) hb); have n3_ := Aside0.mk (Kd.R_lower (Kd.R_new' ho22 (Kd.R_lt (by (with_reducible repeat (first | apply Kd.R_alloc | apply Kd.R_drewN | apply Kd.R_drew)); exact HO333.out))) (below_size (by repeat (first | (with_reducible first | exact HB.out | apply below_alloc | apply pw_below_drewN | apply below_drew1) | exact HB.out)))); have n4_ := Aside0.mk (below_step (by repeat (first | (with_reducible first | exact HB.out | apply below_alloc | apply pw_below_drewN | apply below_drew1) | exact HB.out)) hb); clear HO333; clear HO336; clear HO341; clear HB; have HO333 := n0_; have HO336 := n1_; have HO341 := n2_; have HO346 := n3_; have HB := n4_; clear n0_ n1_ n2_ n3_ n4_; clear hb ho22; obtain ⟨Ao23, co23, eo23⟩ := Kd.R_slice HO346.out; subst eo23) | ((with_reducible refine gate_callee (f := 32) rfl ?_); refine goesL_ (some 32) rfl rfl Try.func32 (by kernel_rfl) rfl #[.slice Ao23 y344.length co23] rfl (by (try simp only [List.map_toArray, List.map_cons, List.map_nil]); first | done | rfl | (simp only [List.length_drop, List.length_take]; rfl)) ?_; (with_reducible refine (table_Lowest.calls _ _ y344 t347 t348 _ ?side1 ?side2 A4.out).mono ?_); (case side1 => repeat (first | exact (Kd.R_reads' HO346.out).2.2 | (with_reducible refine Kd.C_alloc ?_ _) | (with_reducible refine Kd.C_drewN ?_ _) | (with_reducible refine Kd.C_drew ?_))); (case side2 => exact (Kd.R_reads' HO346.out).2.1); rintro e w24 ⟨rfl, hb⟩; refine ⟨_, rfl, ?_⟩; have n0_ := Aside0.mk (Kd.R_below (by (with_reducible repeat (first | apply Kd.R_alloc | apply Kd.R_drewN | apply Kd.R_drew)); exact HO333.out) hb); have n1_ := Aside0.mk (Kd.V_below (by (with_reducible repeat (first | apply Kd.V_alloc | apply Kd.V_drewN | apply Kd.V_drew)); exact HO336.out) hb); have n2_ := Aside0.mk (Kd.V_below (by (with_reducible repeat (first | apply Kd.V_alloc | apply Kd.V_drewN | apply Kd.V_drew)); exact HO341.out) hb); have n3_ := Aside0.mk (Kd.R_below (by (with_reducible repeat (first | apply Kd.R_alloc | apply Kd.R_drewN | apply Kd.R_drew)); exact HO346.out) hb); have n4_ := Aside0.mk (below_step (by repeat (first | (with_reducible first | exact HB.out | apply below_alloc | apply pw_below_drewN | apply below_drew1) | exact HB.out)) hb); clear HO333; clear HO336; clear HO341; clear HO346; clear HB; have HO333 := n0_; have HO336 := n1_; have HO341 := n2_; have HO346 := n3_; have HB := n4_; clear n0_ n1_ n2_ n3_ n4_; (try clear hb); (try clear hb2); (try clear hk); (try clear hi); obtain ⟨Ao25, co25, eo25⟩ := Kd.V_slice HO341.out; subst eo25) | (go_at_call 30; (with_reducible refine (tattleref06_Same.calls k _ _ t334 _ _ t339 true _ ?side1 ?side2 ?side3 ?side4 A11.out).mono ?_); (case side1 => repeat (first | exact (Kd.V_reads' HO336.out).2.2 | (with_reducible refine Kd.C_alloc ?_ _) | (with_reducible refine Kd.C_drewN ?_ _) | (with_reducible refine Kd.C_drew ?_))); (case side2 => exact (Kd.V_reads' HO336.out).2.1); (case side3 => repeat (first | exact (Kd.V_reads' HO341.out).2.2 | (with_reducible refine Kd.C_alloc ?_ _) | (with_reducible refine Kd.C_drewN ?_ _) | (with_reducible refine Kd.C_drew ?_))); (case side4 => exact (Kd.V_reads' HO341.out).2.1); rintro e w' ⟨rfl, ⟨nd, rfl⟩⟩) | ((with_reducible refine gate_dst (N := 66) rfl ?_); (try (refine gate_guard (by rfl) ?_; dsimp only)); refine Kd.R_lit k26 _ 26 ?hg (N := 66) ?hd (xs := ([(⟨0, 0⟩ : S26), (⟨0, 2⟩ : S26), (⟨0, 1⟩ : S26)] : List (S26))) (inner := [.int .u64 0, .int .i64 0, .int .u64 0, .int .i64 2, .int .u64 0, .int .i64 1]) (ok := fun _ => True) (okp := fun _ => True) ?hr ?hp (fun _ hk => hk) trivial (Below.refl _ _) (Nat.le_refl _) (by simp) ?_; (case hd => rfl); (case hg => rfl); (case hr => first | (go_simp; done) | (go_simp; rfl)); (case hp => exact (Reps.c2 (show Kd.M k26 _ _ _ (⟨0, 0⟩ : S26) [.int .u64 0, .int .i64 0] from (k26_mkM _ _ _ (⟨0, 0⟩ : S26) )) (Reps.c2 (show Kd.M k26 _ _ _ (⟨0, 2⟩ : S26) [.int .u64 0, .int .i64 2] from (k26_mkM _ _ _ (⟨0, 2⟩ : S26) )) (Reps.c2 (show Kd.M k26 _ _ _ (⟨0, 1⟩ : S26) [.int .u64 0, .int .i64 1] from (k26_mkM _ _ _ (⟨0, 1⟩ : S26) )) (Reps.none _ _))))); intro v351 w26 ho27 hb hg_ hnew_; clear hg_ hnew_; (first | rw [← Ny350.out] at ho27 | (simp only [Int.reduceToNat] at ho27; rw [← Ny350.out] at ho27)); have n0_ := Aside0.mk (Kd.R_elder' (by (with_reducible repeat (first | apply Kd.R_alloc | apply Kd.R_drewN | apply Kd.R_drew)); exact HO333.out) (Kd.R_base ho27) hb); have n1_ := Aside0.mk (Kd.R_elder' (by (with_reducible repeat (first | apply Kd.R_alloc | apply Kd.R_drewN | apply Kd.R_drew)); exact HO346.out) (Kd.R_base ho27) hb); have n2_ := Aside0.mk (Kd.R_lower (Kd.R_new' (Kd.R_new' ho27 (Kd.R_lt (by (with_reducible repeat (first | apply Kd.R_alloc | apply Kd.R_drewN | apply Kd.R_drew)); exact HO333.out))) (Kd.R_lt (by (with_reducible repeat (first | apply Kd.R_alloc | apply Kd.R_drewN | apply Kd.R_drew)); exact HO346.out))) (below_size (by repeat (first | (with_reducible first | exact HB.out | apply below_alloc | apply pw_below_drewN | apply below_drew1) | exact HB.out)))); have n3_ := Aside0.mk (below_step (by repeat (first | (with_reducible first | exact HB.out | apply below_alloc | apply pw_below_drewN | apply below_drew1) | exact HB.out)) hb); clear HO333; clear HO346; clear HB; have HO333 := n0_; have HO346 := n1_; have HO352 := n2_; have HB := n3_; clear n0_ n1_ n2_ n3_; clear hb ho27; obtain ⟨Ao28, co28, eo28⟩ := Kd.R_slice HO352.out; subst eo28) | (go_at_call 31; (with_reducible refine (table_Up.calls _ _ y350 t353 _ ?side1 ?side2 A13.out).mono ?_); (case side1 => repeat (first | exact (Kd.R_reads' HO352.out).2.2 | (with_reducible refine Kd.C_alloc ?_ _) | (with_reducible refine Kd.C_drewN ?_ _) | (with_reducible refine Kd.C_drew ?_))); (case side2 => exact (Kd.R_reads' HO352.out).2.1); rintro e w29 ⟨v354, rfl, ho0, hb⟩; have n0_ := Aside0.mk (Kd.R_below (by (with_reducible repeat (first | apply Kd.R_alloc | apply Kd.R_drewN | apply Kd.R_drew)); exact HO333.out) hb); have n1_ := Aside0.mk (Kd.R_below (by (with_reducible repeat (first | apply Kd.R_alloc | apply Kd.R_drewN | apply Kd.R_drew)); exact HO346.out) hb); have n2_ := Aside0.mk (Kd.R_below (by (with_reducible repeat (first | apply Kd.R_alloc | apply Kd.R_drewN | apply Kd.R_drew)); exact HO352.out) hb); have n3_ := Aside0.mk (Kd.R_lower ho0 (below_size (by repeat (first | (with_reducible first | exact HB.out | apply below_alloc | apply pw_below_drewN | apply below_drew1) | exact HB.out)))); have n4_ := Aside0.mk (below_step (by repeat (first | (with_reducible first | exact HB.out | apply below_alloc | apply pw_below_drewN | apply below_drew1) | exact HB.out)) hb); clear HO333; clear HO346; clear HO352; clear HB; have HO333 := n0_; have HO346 := n1_; have HO352 := n2_; have HO355 := n3_; have HB := n4_; clear n0_ n1_ n2_ n3_ n4_; (try clear hb); (try clear hb2); (try clear hk); (try clear hi); (try clear ho0)) | ((with_reducible refine gate_dst (N := 68) rfl ?_); (try (refine gate_guard (by rfl) ?_; dsimp only)); refine Kd.R_lit (Kd.int .i64) _ 3 ?hg (N := 68) ?hd (xs := ([0, 2] : List Int)) (inner := [.int .i64 0, .int .i64 2]) (ok := fun _ => True) (okp := fun _ => True) ?hr ?hp (fun _ hk => hk) trivial (Below.refl _ _) (Nat.le_refl _) (by simp) ?_; (case hd => rfl); (case hg => rfl); (case hr => first | (go_simp; done) | (go_simp; rfl)); (case hp => exact (Reps.one (show Kd.M (Kd.int .i64) _ _ _ 0 [.int .i64 0] from rfl) (Reps.one (show Kd.M (Kd.int .i64) _ _ _ 2 [.int .i64 2] from rfl) (Reps.none _ _)))); intro v357 w30 ho31 hb hg_ hnew_; clear hg_ hnew_; (first | rw [← Ny356.out] at ho31 | (simp only [Int.reduceToNat] at ho31; rw [← Ny356.out] at ho31)); have n0_ := Aside0.mk (Kd.R_below (by (with_reducible repeat (first | apply Kd.R_alloc | apply Kd.R_drewN | apply Kd.R_drew)); exact HO333.out) hb); have n1_ := Aside0.mk (Kd.R_below (by (with_reducible repeat (first | apply Kd.R_alloc | apply Kd.R_drewN | apply Kd.R_drew)); exact HO346.out) hb); have n2_ := Aside0.mk (Kd.R_below (by (with_reducible repeat (first | apply Kd.R_alloc | apply Kd.R_drewN | apply Kd.R_drew)); exact HO352.out) hb); have n3_ := Aside0.mk (Kd.R_elder' (by (with_reducible repeat (first | apply Kd.R_alloc | apply Kd.R_drewN | apply Kd.R_drew)); exact HO355.out) (Kd.R_base ho31) hb); have n4_ := Aside0.mk (Kd.R_lower (Kd.R_new' ho31 (Kd.R_lt (by (with_reducible repeat (first | apply Kd.R_alloc | apply Kd.R_drewN | apply Kd.R_drew)); exact HO355.out))) (below_size (by repeat (first | (with_reducible first | exact HB.out | apply below_alloc | apply pw_below_drewN | apply below_drew1) | exact HB.out)))); have n5_ := Aside0.mk (below_step (by repeat (first | (with_reducible first | exact HB.out | apply below_alloc | apply pw_below_drewN | apply below_drew1) | exact HB.out)) hb); clear HO333; clear HO346; clear HO352; clear HO355; clear HB; have HO333 := n0_; have HO346 := n1_; have HO352 := n2_; have HO355 := n3_; have HO358 := n4_; have HB := n5_; clear n0_ n1_ n2_ n3_ n4_ n5_; clear hb ho31; obtain ⟨Ao32, co32, eo32⟩ := Kd.R_slice HO355.out; subst eo32; obtain ⟨Ao33, co33, eo33⟩ := Kd.R_slice HO358.out; subst eo33) | (go_at_call 42; (with_reducible refine (tattleref02_Same.calls k _ _ t353 _ _ y356 true _ ?side1 ?side2 ?side3 ?side4 A14.out).mono ?_); (case side1 => repeat (first | exact (Kd.R_reads' HO355.out).2.2 | (with_reducible refine Kd.C_alloc ?_ _) | (with_reducible refine Kd.C_drewN ?_ _) | (with_reducible refine Kd.C_drew ?_))); (case side2 => exact (Kd.R_reads' HO355.out).2.1); (case side3 => repeat (first | exact (Kd.R_reads' HO358.out).2.2 | (with_reducible refine Kd.C_alloc ?_ _) | (with_reducible refine Kd.C_drewN ?_ _) | (with_reducible refine Kd.C_drew ?_))); (case side4 => exact (Kd.R_reads' HO358.out).2.1); rintro e w' ⟨rfl, ⟨nd, rfl⟩⟩))
                  go_ret
                  exact ⟨by first | rfl | (simp [errW_none, errW_some] <;> rfl) | (simp [*, errW_none, errW_some] <;> rfl), by repeat (first | (with_reducible first | exact HB.out | apply below_alloc | apply pw_below_drewN | apply below_drew1) | exact HB.out)⟩
                · replace c15 := Bool.eq_false_iff.mpr c15
                  subst c15
                  have H1 : (some false) = some r := by rw [if_neg (show ¬ (false = true) by decide)] at H; exact H
                  clear H
                  have H := H1
                  clear H1
                  exact absurd ((Option.some.inj H).trans hrt.out) (by decide)
              · replace c12 := Bool.eq_false_iff.mpr c12
                subst c12
                have H1 : (some false) = some r := by rw [if_neg (show ¬ (false = true) by decide)] at H; exact H
                clear H
                have H := H1
                clear H1
                exact absurd ((Option.some.inj H).trans hrt.out) (by decide)
            · rw [if_neg c10] at H
              have c10b0 : (t343 == 0) = false := beq_eq_false_iff_ne.mpr c10
              have c10b1 : (t343 != 0) = true := bne_iff_ne.mpr c10
              exact absurd ((Option.some.inj H).trans hrt.out) (by decide)
        · rw [if_neg c8] at H
          have c8b0 : (t338 == 0) = false := beq_eq_false_iff_ne.mpr c8
          have c8b1 : (t338 != 0) = true := bne_iff_ne.mpr c8
          exact absurd ((Option.some.inj H).trans hrt.out) (by decide)
      · replace c7 := Bool.eq_false_iff.mpr c7
        subst c7
        have H1 : (some false) = some r := by rw [if_neg (show ¬ (false = true) by decide)] at H; exact H
        clear H
        have H := H1
        clear H1
        exact absurd ((Option.some.inj H).trans hrt.out) (by decide)
    · rw [if_neg c6] at H
      have c6b0 : (t331 == 0) = false := beq_eq_false_iff_ne.mpr c6
      have c6b1 : (t331 != 0) = true := bne_iff_ne.mpr c6
      exact absurd ((Option.some.inj H).trans hrt.out) (by decide)
  · rw [if_neg c5] at H
    have c5b0 : ((t330.length : Int) == 2) = false := beq_eq_false_iff_ne.mpr c5
    have c5b1 : ((t330.length : Int) != 2) = true := bne_iff_ne.mpr c5
    exact absurd ((Option.some.inj H).trans hrt.out) (by decide)

end Go.Proofs.Ytjamociekniepaa.Fn
