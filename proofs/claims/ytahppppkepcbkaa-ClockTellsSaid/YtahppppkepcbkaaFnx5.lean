-- Written by program (a turned copy of the kit's print) for this seat: functions, contracts. Lean checks it.
import Derived.Test.YtahppppkepcbkaaFnx0
import Derived.Test.YtahppppkepcbkaaFnx4
import Derived.Test.YtahppppkepcbkaaExGuard
namespace Go.Proofs.Ytahppppkepcbkaa.Fn
open Go.RowKit Go.Proofs.YtahppppkepcbkaaW.PrintWords Go.Proofs.YtahppppkepcbkaaW.PrintLast Go.Proofs.YtahppppkepcbkaaW.PrintMore
attribute [local go_sem] max2_int min2_int max_two min_two max_three min_three max_four min_four   -- for this text's walks alone
set_option linter.unusedVariables false
set_option linter.unusedSimpArgs false

/-! ### clock_Near: function 19 -/
def clock_Near.f (k : Nat) (a0 : Int) (l1 : List (S87)) (a2 : Int) (a3 : Int) : Option (Bool × Int) := (clock_Far.f k a0 l1 a2 a3).bind fun bt127 => (if bt127.2 = 0 then (some ((bt127.1 == (l1.length : Int)), bt127.2)) else (some (false, bt127.2)))
theorem clock_Near.mono : ∀ a0 a1 a2 a3 k, LeO (clock_Near.f k a0 a1 a2 a3) (clock_Near.f (k + 1) a0 a1 a2 a3) := by
  intro a0 a1 a2 a3 k
  unfold clock_Near.f
  repeat' first
      | (with_reducible exact clock_Far.mono _ _ _ _ _)
      | (with_reducible exact LeO.refl _)
      | (with_reducible exact LeO.none _)
      | (with_reducible refine LeO.ite ?_ ?_)
      | (with_reducible refine LeO.bind ?_ (fun _ => ?_))
      | exact clock_Far.mono _ _ _ _ _
      | exact LeO.none _
      | refine LeO.ite ?_ ?_
      | refine LeO.bind ?_ (fun _ => ?_)
set_option maxHeartbeats 8000000 in
set_option maxRecDepth 100000 in
theorem clock_Near.calls (k : Nat) (a0 : Int) (A1 : Option Addr) (c1 : Nat) (l1 : List (S87)) (a2 : Int) (a3 : Int) (r1 : Bool) (r2 : Int) (w : World) (hr1 : Kd.C k87 w A1 l1.length l1) (hc1 : l1.length ≤ c1) (h : clock_Near.f k a0 l1 a2 a3 = some (r1, r2)) :
    Calls Try.prog 19 #[.int .i64 a0, .slice A1 l1.length c1, .int .i64 a2, .int .i64 a3] w fun e w' => e = .returned (.tuple #[.bool r1, .int .i64 r2]) ∧ Below w.heap.size w w' := by
  have HR1 := Aside0.mk hr1
  have HC1 := Aside0.mk hc1
  clear hr1 hc1
  have HB := Aside0.mk (Below.refl w.heap.size w)
  have H : ((clock_Far.f k a0 l1 a2 a3).bind fun bt127 => (if bt127.2 = 0 then (some ((bt127.1 == (l1.length : Int)), bt127.2)) else (some (false, bt127.2)))) = some (r1, r2) := h
  clear h
  replace H := Option.bind_eq_some_iff.mp H
  obtain ⟨⟨t127, t128⟩, A50, H⟩ := H
  replace H : (if t128 = 0 then (some ((t127 == (l1.length : Int)), t128)) else (some (false, t128))) = some (r1, r2) := H
  have A5 := Aside0.mk A50
  clear A50
  by_cases c6 : t128 = 0
  · rw [if_pos c6] at H
    have c6b0 : (t128 == 0) = true := beq_iff_eq.mpr c6
    have c6b1 : (t128 != 0) = false := bne_eq_false_iff_eq.mpr c6
    clear c6
    simp only [Option.some.injEq, Prod.mk.injEq] at H
    obtain ⟨rfl, rfl⟩ := H
    go_enter Try.func19, Try.ntmps19
    go_wp2_with (first | ((with_reducible refine gate_callee (f := 22) rfl ?_); refine goesL_ (some 17) rfl rfl Try.func22 (by kernel_rfl) rfl #[.int .i64 a0, .slice A1 l1.length c1, .int .i64 a2, .int .i64 a3] rfl (by (try simp only [List.map_toArray, List.map_cons, List.map_nil]); first | done | rfl | (simp only [List.length_drop, List.length_take]; rfl)) ?_; (with_reducible refine (clock_Far.calls k a0 _ _ l1 a2 a3 t127 t128 _ ?side1 ?side2 A5.out).mono ?_); (case side1 => repeat (first | exact HR1.out | (with_reducible refine Kd.C_alloc ?_ _) | (with_reducible refine Kd.C_drewN ?_ _) | (with_reducible refine Kd.C_drew ?_))); (case side2 => exact HC1.out); rintro e w7 ⟨rfl, hb⟩; refine ⟨_, rfl, ?_⟩; have n0_ := Aside0.mk (below_step (by repeat (first | (with_reducible first | exact HB.out | apply below_alloc | apply pw_below_drewN | apply below_drew1) | exact HB.out)) hb); clear HB; have HB := n0_; clear n0_; (try clear hb); (try clear hb2); (try clear hk); (try clear hi)))
    go_ret2
    exact ⟨by first | rfl | (simp [errW_none, errW_some] <;> rfl) | (simp [*, errW_none, errW_some] <;> rfl), by repeat (first | (with_reducible first | exact HB.out | apply below_alloc | apply pw_below_drewN | apply below_drew1) | exact HB.out)⟩
  · rw [if_neg c6] at H
    have c6b0 : (t128 == 0) = false := beq_eq_false_iff_ne.mpr c6
    have c6b1 : (t128 != 0) = true := bne_iff_ne.mpr c6
    simp only [Option.some.injEq, Prod.mk.injEq] at H
    obtain ⟨rfl, rfl⟩ := H
    go_enter Try.func19, Try.ntmps19
    go_wp2_with (first | ((with_reducible refine gate_callee (f := 22) rfl ?_); refine goesL_ (some 17) rfl rfl Try.func22 (by kernel_rfl) rfl #[.int .i64 a0, .slice A1 l1.length c1, .int .i64 a2, .int .i64 a3] rfl (by (try simp only [List.map_toArray, List.map_cons, List.map_nil]); first | done | rfl | (simp only [List.length_drop, List.length_take]; rfl)) ?_; (with_reducible refine (clock_Far.calls k a0 _ _ l1 a2 a3 t127 t128 _ ?side1 ?side2 A5.out).mono ?_); (case side1 => repeat (first | exact HR1.out | (with_reducible refine Kd.C_alloc ?_ _) | (with_reducible refine Kd.C_drewN ?_ _) | (with_reducible refine Kd.C_drew ?_))); (case side2 => exact HC1.out); rintro e w8 ⟨rfl, hb⟩; refine ⟨_, rfl, ?_⟩; have n0_ := Aside0.mk (below_step (by repeat (first | (with_reducible first | exact HB.out | apply below_alloc | apply pw_below_drewN | apply below_drew1) | exact HB.out)) hb); clear HB; have HB := n0_; clear n0_; (try clear hb); (try clear hb2); (try clear hk); (try clear hi)))
    go_ret2
    exact ⟨by first | rfl | (simp [errW_none, errW_some] <;> rfl) | (simp [*, errW_none, errW_some] <;> rfl), by repeat (first | (with_reducible first | exact HB.out | apply below_alloc | apply pw_below_drewN | apply below_drew1) | exact HB.out)⟩

/-! ### tattlelaw04_three: function 44 -/
def tattlelaw04_three.f  : Option ((List (S87))) := some (([(⟨0, 0⟩ : S87), (⟨0, 0⟩ : S87), (⟨0, 0⟩ : S87)] : List (S87)))
set_option maxHeartbeats 8000000 in
set_option maxRecDepth 100000 in
theorem tattlelaw04_three.calls  (r : List (S87)) (w : World) (h : tattlelaw04_three.f  = some r) :
    Calls Try.prog 44 #[] w fun e w' => ∃ v0_ : Value, e = .returned (v0_) ∧ Kd.R k87 87 w' w.heap.size (fun _ => True) v0_ r ∧ Below w.heap.size w w' := by
  have hu87 := Try.underlying87
  have HB := Aside0.mk (Below.refl w.heap.size w)
  have H : (some (([(⟨0, 0⟩ : S87), (⟨0, 0⟩ : S87), (⟨0, 0⟩ : S87)] : List (S87)))) = some r := h
  clear h
  obtain ⟨y129, hy129⟩ : ∃ y_ : List (S87), y_ = (([(⟨0, 0⟩ : S87), (⟨0, 0⟩ : S87), (⟨0, 0⟩ : S87)] : List (S87))) := ⟨_, rfl⟩
  replace H : (some y129) = some r := by first | (rw [hy129]; with_reducible exact H) | (have H2_ := (Option.bind_some _ _).symm.trans H; rw [hy129]; with_reducible exact H2_) | (have H2_ := (Option.bind_some _ _).symm.trans H; with_reducible exact H2_) | with_reducible exact H | (rw [hy129]; exact H) | exact H
  have Ny129 := Aside0.mk hy129
  clear hy129
  obtain rfl := Option.some.inj H
  go_enter Try.func44, Try.ntmps44
  go_wp2_with (first | ((with_reducible refine gate_dst (N := 4) rfl ?_); refine Kd.R_lit k87 _ 87 ?hg (N := 4) ?hd (xs := ([(⟨0, 0⟩ : S87), (⟨0, 0⟩ : S87), (⟨0, 0⟩ : S87)] : List (S87))) (inner := [.int .i64 0, .int .i64 0, .int .i64 0, .int .i64 0, .int .i64 0, .int .i64 0]) (ok := fun _ => True) (okp := fun _ => True) ?hr ?hp (fun _ hk => hk) trivial (Below.refl _ _) (Nat.le_refl _) (by simp) ?_; (case hd => rfl); (case hg => rfl); (case hr => first | (go_simp; done) | (go_simp; rfl)); (case hp => exact (Reps.c2 (show Kd.M k87 _ _ _ (⟨0, 0⟩ : S87) [.int .i64 0, .int .i64 0] from (k87_mkM _ _ _ (⟨0, 0⟩ : S87) )) (Reps.c2 (show Kd.M k87 _ _ _ (⟨0, 0⟩ : S87) [.int .i64 0, .int .i64 0] from (k87_mkM _ _ _ (⟨0, 0⟩ : S87) )) (Reps.c2 (show Kd.M k87 _ _ _ (⟨0, 0⟩ : S87) [.int .i64 0, .int .i64 0] from (k87_mkM _ _ _ (⟨0, 0⟩ : S87) )) (Reps.none _ _))))); intro v130 w1 ho2 hb hg_ hnew_; clear hg_ hnew_; (first | rw [← Ny129.out] at ho2 | (simp only [Int.reduceToNat] at ho2; rw [← Ny129.out] at ho2)); have n0_ := Aside0.mk (Kd.R_lower ho2 (below_size (by repeat (first | (with_reducible first | exact HB.out | apply below_alloc | apply pw_below_drewN | apply below_drew1) | exact HB.out)))); have n1_ := Aside0.mk (below_step (by repeat (first | (with_reducible first | exact HB.out | apply below_alloc | apply pw_below_drewN | apply below_drew1) | exact HB.out)) hb); clear HB; have HO131 := n0_; have HB := n1_; clear n0_ n1_; clear hb ho2))
  go_ret
  exact ⟨_, by first | rfl | (simp [errW_none, errW_some] <;> rfl) | (simp [*, errW_none, errW_some] <;> rfl), by (with_reducible repeat (first | apply Kd.R_alloc | apply Kd.R_drewN | apply Kd.R_drew)); exact HO131.out, by repeat (first | (with_reducible first | exact HB.out | apply below_alloc | apply pw_below_drewN | apply below_drew1) | exact HB.out)⟩

/-! ### tattlelaw04_awake: function 16 -/
def tattlelaw04_awake.f (k : Nat)  : Option (Bool) := (tattlelaw04_three.f).bind fun t132 => ((clock_Near.f k 2 t132 2 10).bind fun bt135 => ((tattlelaw04_three.f).bind fun t137 => ((clock_Near.f k 2 t137 3 10).bind fun bt140 => ((clock_Guard.f 10 2 4).bind fun bt142 => ((clock_Guard.f 2 2 4).bind fun bt144 => (if bt135.1 = true then (some false) else (if bt135.2 = 0 then (if bt140.1 = true then (if bt140.2 = 0 then (if bt142.1 = 7 then (if bt142.2 = 0 then (if bt144.1 = 0 then (if bt144.2 = 0 then (some true) else (some false)) else (some false)) else (some false)) else (some false)) else (some false)) else (some false)) else (some false))))))))
theorem tattlelaw04_awake.mono : ∀ k, LeO (tattlelaw04_awake.f k ) (tattlelaw04_awake.f (k + 1) ) := by
  intro  k
  unfold tattlelaw04_awake.f
  repeat' first
      | (with_reducible exact clock_Near.mono _ _ _ _ _)
      | (with_reducible exact LeO.refl _)
      | (with_reducible exact LeO.none _)
      | (with_reducible refine LeO.ite ?_ ?_)
      | (with_reducible refine LeO.bind ?_ (fun _ => ?_))
      | exact clock_Near.mono _ _ _ _ _
      | exact LeO.none _
      | refine LeO.ite ?_ ?_
      | refine LeO.bind ?_ (fun _ => ?_)
set_option maxHeartbeats 8000000 in
set_option maxRecDepth 100000 in
theorem tattlelaw04_awake.calls (k : Nat)  (r : Bool) (w : World) (hrt : Aside0 (r = true)) (h : tattlelaw04_awake.f k  = some r) :
    Calls Try.prog 16 #[] w fun e w' => e = .returned (.bool r) ∧ Below w.heap.size w w' := by
  have HB := Aside0.mk (Below.refl w.heap.size w)
  have H : ((tattlelaw04_three.f).bind fun t132 => ((clock_Near.f k 2 t132 2 10).bind fun bt135 => ((tattlelaw04_three.f).bind fun t137 => ((clock_Near.f k 2 t137 3 10).bind fun bt140 => ((clock_Guard.f 10 2 4).bind fun bt142 => ((clock_Guard.f 2 2 4).bind fun bt144 => (if bt135.1 = true then (some false) else (if bt135.2 = 0 then (if bt140.1 = true then (if bt140.2 = 0 then (if bt142.1 = 7 then (if bt142.2 = 0 then (if bt144.1 = 0 then (if bt144.2 = 0 then (some true) else (some false)) else (some false)) else (some false)) else (some false)) else (some false)) else (some false)) else (some false))))))))) = some r := h
  clear h
  replace H := Option.bind_eq_some_iff.mp H
  obtain ⟨t132, A10, H⟩ := H
  replace H : ((clock_Near.f k 2 t132 2 10).bind fun bt135 => ((tattlelaw04_three.f).bind fun t137 => ((clock_Near.f k 2 t137 3 10).bind fun bt140 => ((clock_Guard.f 10 2 4).bind fun bt142 => ((clock_Guard.f 2 2 4).bind fun bt144 => (if bt135.1 = true then (some false) else (if bt135.2 = 0 then (if bt140.1 = true then (if bt140.2 = 0 then (if bt142.1 = 7 then (if bt142.2 = 0 then (if bt144.1 = 0 then (if bt144.2 = 0 then (some true) else (some false)) else (some false)) else (some false)) else (some false)) else (some false)) else (some false)) else (some false)))))))) = some r := H
  have A1 := Aside0.mk A10
  clear A10
  replace H := Option.bind_eq_some_iff.mp H
  obtain ⟨⟨t135, t136⟩, A20, H⟩ := H
  replace H : ((tattlelaw04_three.f).bind fun t137 => ((clock_Near.f k 2 t137 3 10).bind fun bt140 => ((clock_Guard.f 10 2 4).bind fun bt142 => ((clock_Guard.f 2 2 4).bind fun bt144 => (if t135 = true then (some false) else (if t136 = 0 then (if bt140.1 = true then (if bt140.2 = 0 then (if bt142.1 = 7 then (if bt142.2 = 0 then (if bt144.1 = 0 then (if bt144.2 = 0 then (some true) else (some false)) else (some false)) else (some false)) else (some false)) else (some false)) else (some false)) else (some false))))))) = some r := H
  have A2 := Aside0.mk A20
  clear A20
  replace H := Option.bind_eq_some_iff.mp H
  obtain ⟨t137, A30, H⟩ := H
  replace H : ((clock_Near.f k 2 t137 3 10).bind fun bt140 => ((clock_Guard.f 10 2 4).bind fun bt142 => ((clock_Guard.f 2 2 4).bind fun bt144 => (if t135 = true then (some false) else (if t136 = 0 then (if bt140.1 = true then (if bt140.2 = 0 then (if bt142.1 = 7 then (if bt142.2 = 0 then (if bt144.1 = 0 then (if bt144.2 = 0 then (some true) else (some false)) else (some false)) else (some false)) else (some false)) else (some false)) else (some false)) else (some false)))))) = some r := H
  have A3 := Aside0.mk A30
  clear A30
  replace H := Option.bind_eq_some_iff.mp H
  obtain ⟨⟨t140, t141⟩, A40, H⟩ := H
  replace H : ((clock_Guard.f 10 2 4).bind fun bt142 => ((clock_Guard.f 2 2 4).bind fun bt144 => (if t135 = true then (some false) else (if t136 = 0 then (if t140 = true then (if t141 = 0 then (if bt142.1 = 7 then (if bt142.2 = 0 then (if bt144.1 = 0 then (if bt144.2 = 0 then (some true) else (some false)) else (some false)) else (some false)) else (some false)) else (some false)) else (some false)) else (some false))))) = some r := H
  have A4 := Aside0.mk A40
  clear A40
  replace H := Option.bind_eq_some_iff.mp H
  obtain ⟨⟨t142, t143⟩, A50, H⟩ := H
  replace H : ((clock_Guard.f 2 2 4).bind fun bt144 => (if t135 = true then (some false) else (if t136 = 0 then (if t140 = true then (if t141 = 0 then (if t142 = 7 then (if t143 = 0 then (if bt144.1 = 0 then (if bt144.2 = 0 then (some true) else (some false)) else (some false)) else (some false)) else (some false)) else (some false)) else (some false)) else (some false)))) = some r := H
  have A5 := Aside0.mk A50
  clear A50
  replace H := Option.bind_eq_some_iff.mp H
  obtain ⟨⟨t144, t145⟩, A60, H⟩ := H
  replace H : (if t135 = true then (some false) else (if t136 = 0 then (if t140 = true then (if t141 = 0 then (if t142 = 7 then (if t143 = 0 then (if t144 = 0 then (if t145 = 0 then (some true) else (some false)) else (some false)) else (some false)) else (some false)) else (some false)) else (some false)) else (some false))) = some r := H
  have A6 := Aside0.mk A60
  clear A60
  by_cases c7 : t135 = true
  · subst c7
    have H1 : (some false) = some r := by rw [if_pos rfl] at H; exact H
    clear H
    have H := H1
    clear H1
    exact absurd ((Option.some.inj H).trans hrt.out) (by decide)
  · replace c7 := Bool.eq_false_iff.mpr c7
    subst c7
    have H1 : (if t136 = 0 then (if t140 = true then (if t141 = 0 then (if t142 = 7 then (if t143 = 0 then (if t144 = 0 then (if t145 = 0 then (some true) else (some false)) else (some false)) else (some false)) else (some false)) else (some false)) else (some false)) else (some false)) = some r := by rw [if_neg (show ¬ (false = true) by decide)] at H; exact H
    clear H
    have H := H1
    clear H1
    by_cases c8 : t136 = 0
    · rw [if_pos c8] at H
      have c8b0 : (t136 == 0) = true := beq_iff_eq.mpr c8
      have c8b1 : (t136 != 0) = false := bne_eq_false_iff_eq.mpr c8
      clear c8
      by_cases c9 : t140 = true
      · subst c9
        have H1 : (if t141 = 0 then (if t142 = 7 then (if t143 = 0 then (if t144 = 0 then (if t145 = 0 then (some true) else (some false)) else (some false)) else (some false)) else (some false)) else (some false)) = some r := by rw [if_pos rfl] at H; exact H
        clear H
        have H := H1
        clear H1
        by_cases c10 : t141 = 0
        · rw [if_pos c10] at H
          have c10b0 : (t141 == 0) = true := beq_iff_eq.mpr c10
          have c10b1 : (t141 != 0) = false := bne_eq_false_iff_eq.mpr c10
          clear c10
          by_cases c11 : t142 = 7
          · rw [if_pos c11] at H
            have c11b0 : (t142 == 7) = true := beq_iff_eq.mpr c11
            have c11b1 : (t142 != 7) = false := bne_eq_false_iff_eq.mpr c11
            clear c11
            by_cases c12 : t143 = 0
            · rw [if_pos c12] at H
              have c12b0 : (t143 == 0) = true := beq_iff_eq.mpr c12
              have c12b1 : (t143 != 0) = false := bne_eq_false_iff_eq.mpr c12
              clear c12
              by_cases c13 : t144 = 0
              · rw [if_pos c13] at H
                have c13b0 : (t144 == 0) = true := beq_iff_eq.mpr c13
                have c13b1 : (t144 != 0) = false := bne_eq_false_iff_eq.mpr c13
                clear c13
                by_cases c14 : t145 = 0
                · rw [if_pos c14] at H
                  have c14b0 : (t145 == 0) = true := beq_iff_eq.mpr c14
                  have c14b1 : (t145 != 0) = false := bne_eq_false_iff_eq.mpr c14
                  clear c14
                  obtain rfl := Option.some.inj H
                  go_enter Try.func16, Try.ntmps16
                  go_wp2_with (first | ((with_reducible refine gate_callee (f := 44) rfl ?_); refine goesL_ (some 10) rfl rfl Try.func44 (by kernel_rfl) rfl #[] rfl (by (try simp only [List.map_toArray, List.map_cons, List.map_nil]); first | done | rfl | (simp only [List.length_drop, List.length_take]; rfl)) ?_; (with_reducible refine (tattlelaw04_three.calls  t132 _ A1.out).mono ?_); rintro e w15 ⟨v133, rfl, ho0, hb⟩; refine ⟨_, rfl, ?_⟩; have n0_ := Aside0.mk (Kd.R_lower ho0 (below_size (by repeat (first | (with_reducible first | exact HB.out | apply below_alloc | apply pw_below_drewN | apply below_drew1) | exact HB.out)))); have n1_ := Aside0.mk (below_step (by repeat (first | (with_reducible first | exact HB.out | apply below_alloc | apply pw_below_drewN | apply below_drew1) | exact HB.out)) hb); clear HB; have HO134 := n0_; have HB := n1_; clear n0_ n1_; (try clear hb); (try clear hb2); (try clear hk); (try clear hi); (try clear ho0); obtain ⟨Ao16, co16, eo16⟩ := Kd.R_slice HO134.out; subst eo16) | ((with_reducible refine gate_callee (f := 19) rfl ?_); refine goesL_ (some 11) rfl rfl Try.func19 (by kernel_rfl) rfl #[.int .i64 2, .slice Ao16 t132.length co16, .int .i64 2, .int .i64 10] rfl (by (try simp only [List.map_toArray, List.map_cons, List.map_nil]); first | done | rfl | (simp only [List.length_drop, List.length_take]; rfl)) ?_; (with_reducible refine (clock_Near.calls k 2 _ _ t132 2 10 false t136 _ ?side1 ?side2 A2.out).mono ?_); (case side1 => repeat (first | exact (Kd.R_reads' HO134.out).2.2 | (with_reducible refine Kd.C_alloc ?_ _) | (with_reducible refine Kd.C_drewN ?_ _) | (with_reducible refine Kd.C_drew ?_))); (case side2 => exact (Kd.R_reads' HO134.out).2.1); rintro e w17 ⟨rfl, hb⟩; refine ⟨_, rfl, ?_⟩; have n0_ := Aside0.mk (Kd.R_below (by (with_reducible repeat (first | apply Kd.R_alloc | apply Kd.R_drewN | apply Kd.R_drew)); exact HO134.out) hb); have n1_ := Aside0.mk (below_step (by repeat (first | (with_reducible first | exact HB.out | apply below_alloc | apply pw_below_drewN | apply below_drew1) | exact HB.out)) hb); clear HO134; clear HB; have HO134 := n0_; have HB := n1_; clear n0_ n1_; (try clear hb); (try clear hb2); (try clear hk); (try clear hi)) | ((with_reducible refine gate_callee (f := 44) rfl ?_); refine goesL_ (some 15) rfl rfl Try.func44 (by kernel_rfl) rfl #[] rfl (by (try simp only [List.map_toArray, List.map_cons, List.map_nil]); first | done | rfl | (simp only [List.length_drop, List.length_take]; rfl)) ?_; (with_reducible refine (tattlelaw04_three.calls  t137 _ A3.out).mono ?_); rintro e w18 ⟨v138, rfl, ho0, hb⟩; refine ⟨_, rfl, ?_⟩; have n0_ := Aside0.mk (Kd.R_lower ho0 (below_size (by repeat (first | (with_reducible first | exact HB.out | apply below_alloc | apply pw_below_drewN | apply below_drew1) | exact HB.out)))); have n1_ := Aside0.mk (below_step (by repeat (first | (with_reducible first | exact HB.out | apply below_alloc | apply pw_below_drewN | apply below_drew1) | exact HB.out)) hb); clear HB; have HO139 := n0_; have HB := n1_; clear n0_ n1_; (try clear hb); (try clear hb2); (try clear hk); (try clear hi); (try clear ho0); obtain ⟨Ao19, co19, eo19⟩ := Kd.R_slice HO139.out; subst eo19) | ((with_reducible refine gate_callee (f := 19) rfl ?_); refine goesL_ (some 16) rfl rfl Try.func19 (by kernel_rfl) rfl #[.int .i64 2, .slice Ao19 t137.length co19, .int .i64 3, .int .i64 10] rfl (by (try simp only [List.map_toArray, List.map_cons, List.map_nil]); first | done | rfl | (simp only [List.length_drop, List.length_take]; rfl)) ?_; (with_reducible refine (clock_Near.calls k 2 _ _ t137 3 10 true t141 _ ?side1 ?side2 A4.out).mono ?_); (case side1 => repeat (first | exact (Kd.R_reads' HO139.out).2.2 | (with_reducible refine Kd.C_alloc ?_ _) | (with_reducible refine Kd.C_drewN ?_ _) | (with_reducible refine Kd.C_drew ?_))); (case side2 => exact (Kd.R_reads' HO139.out).2.1); rintro e w20 ⟨rfl, hb⟩; refine ⟨_, rfl, ?_⟩; have n0_ := Aside0.mk (Kd.R_below (by (with_reducible repeat (first | apply Kd.R_alloc | apply Kd.R_drewN | apply Kd.R_drew)); exact HO139.out) hb); have n1_ := Aside0.mk (below_step (by repeat (first | (with_reducible first | exact HB.out | apply below_alloc | apply pw_below_drewN | apply below_drew1) | exact HB.out)) hb); clear HO139; clear HB; have HO139 := n0_; have HB := n1_; clear n0_ n1_; (try clear hb); (try clear hb2); (try clear hk); (try clear hi)) | ((with_reducible refine gate_callee (f := 14) rfl ?_); refine goesL_ (some 20) rfl rfl Try.func14 (by kernel_rfl) rfl #[.int .i64 10, .int .i64 2, .int .i64 4] rfl (by (try simp only [List.map_toArray, List.map_cons, List.map_nil]); first | done | rfl | (simp only [List.length_drop, List.length_take]; rfl)) ?_; (with_reducible refine (clock_Guard.calls 10 2 4 t142 t143 _ A5.out).mono ?_); rintro e w21 ⟨rfl, hb⟩; refine ⟨_, rfl, ?_⟩; have n0_ := Aside0.mk (below_step (by repeat (first | (with_reducible first | exact HB.out | apply below_alloc | apply pw_below_drewN | apply below_drew1) | exact HB.out)) hb); clear HB; have HB := n0_; clear n0_; (try clear hb); (try clear hb2); (try clear hk); (try clear hi)) | ((with_reducible refine gate_callee (f := 14) rfl ?_); refine goesL_ (some 24) rfl rfl Try.func14 (by kernel_rfl) rfl #[.int .i64 2, .int .i64 2, .int .i64 4] rfl (by (try simp only [List.map_toArray, List.map_cons, List.map_nil]); first | done | rfl | (simp only [List.length_drop, List.length_take]; rfl)) ?_; (with_reducible refine (clock_Guard.calls 2 2 4 t144 t145 _ A6.out).mono ?_); rintro e w22 ⟨rfl, hb⟩; refine ⟨_, rfl, ?_⟩; have n0_ := Aside0.mk (below_step (by repeat (first | (with_reducible first | exact HB.out | apply below_alloc | apply pw_below_drewN | apply below_drew1) | exact HB.out)) hb); clear HB; have HB := n0_; clear n0_; (try clear hb); (try clear hb2); (try clear hk); (try clear hi)))
                  go_ret
                  exact ⟨by first | rfl | (simp [errW_none, errW_some] <;> rfl) | (simp [*, errW_none, errW_some] <;> rfl), by repeat (first | (with_reducible first | exact HB.out | apply below_alloc | apply pw_below_drewN | apply below_drew1) | exact HB.out)⟩
                · rw [if_neg c14] at H
                  have c14b0 : (t145 == 0) = false := beq_eq_false_iff_ne.mpr c14
                  have c14b1 : (t145 != 0) = true := bne_iff_ne.mpr c14
                  exact absurd ((Option.some.inj H).trans hrt.out) (by decide)
              · rw [if_neg c13] at H
                have c13b0 : (t144 == 0) = false := beq_eq_false_iff_ne.mpr c13
                have c13b1 : (t144 != 0) = true := bne_iff_ne.mpr c13
                exact absurd ((Option.some.inj H).trans hrt.out) (by decide)
            · rw [if_neg c12] at H
              have c12b0 : (t143 == 0) = false := beq_eq_false_iff_ne.mpr c12
              have c12b1 : (t143 != 0) = true := bne_iff_ne.mpr c12
              exact absurd ((Option.some.inj H).trans hrt.out) (by decide)
          · rw [if_neg c11] at H
            have c11b0 : (t142 == 7) = false := beq_eq_false_iff_ne.mpr c11
            have c11b1 : (t142 != 7) = true := bne_iff_ne.mpr c11
            exact absurd ((Option.some.inj H).trans hrt.out) (by decide)
        · rw [if_neg c10] at H
          have c10b0 : (t141 == 0) = false := beq_eq_false_iff_ne.mpr c10
          have c10b1 : (t141 != 0) = true := bne_iff_ne.mpr c10
          exact absurd ((Option.some.inj H).trans hrt.out) (by decide)
      · replace c9 := Bool.eq_false_iff.mpr c9
        subst c9
        have H1 : (some false) = some r := by rw [if_neg (show ¬ (false = true) by decide)] at H; exact H
        clear H
        have H := H1
        clear H1
        exact absurd ((Option.some.inj H).trans hrt.out) (by decide)
    · rw [if_neg c8] at H
      have c8b0 : (t136 == 0) = false := beq_eq_false_iff_ne.mpr c8
      have c8b1 : (t136 != 0) = true := bne_iff_ne.mpr c8
      exact absurd ((Option.some.inj H).trans hrt.out) (by decide)

/-! ### tattleref04_Fits: function 17 -/
def tattleref04_Fits.f (a0 : Int) (a1 : Int) (a2 : Int) (a3 : Int) : Option (Bool) := if a0 = 0 then (some true) else (if a3 = 0 then (none) else (some (decide ((wrap64 ((wrap64 ((wrap64 (a0 - 1)) + a2)) + (wrap64 (Int.tdiv (wrap64 (a0 - 1)) a3)))) < a1))))
set_option maxHeartbeats 8000000 in
set_option maxRecDepth 100000 in
theorem tattleref04_Fits.calls (a0 : Int) (a1 : Int) (a2 : Int) (a3 : Int) (r : Bool) (w : World) (h : tattleref04_Fits.f a0 a1 a2 a3 = some r) :
    Calls Try.prog 17 #[.int .i64 a0, .int .i64 a1, .int .i64 a2, .int .i64 a3] w fun e w' => e = .returned (.bool r) ∧ Drawn0 w w' := by
  have H : (if a0 = 0 then (some true) else (if a3 = 0 then (none) else (some (decide ((wrap64 ((wrap64 ((wrap64 (a0 - 1)) + a2)) + (wrap64 (Int.tdiv (wrap64 (a0 - 1)) a3)))) < a1))))) = some r := h
  clear h
  by_cases c5 : a0 = 0
  · rw [if_pos c5] at H
    have c5b0 : (a0 == 0) = true := beq_iff_eq.mpr c5
    have c5b1 : (a0 != 0) = false := bne_eq_false_iff_eq.mpr c5
    clear c5
    obtain rfl := Option.some.inj H
    go_enter Try.func17, Try.ntmps17
    go_wp2
    go_ret
    exact ⟨by first | rfl | (simp; done) | (simp [*]; done), by repeat (first | exact Drawn0.refl _ | apply Drawn0.step)⟩
  · rw [if_neg c5] at H
    have c5b0 : (a0 == 0) = false := beq_eq_false_iff_ne.mpr c5
    have c5b1 : (a0 != 0) = true := bne_iff_ne.mpr c5
    by_cases c6 : a3 = 0
    · rw [if_pos c6] at H
      exact absurd H (by simp)
    · rw [if_neg c6] at H
      have c6b0 : (a3 == 0) = false := beq_eq_false_iff_ne.mpr c6
      have c6b1 : (a3 != 0) = true := bne_iff_ne.mpr c6
      obtain rfl := Option.some.inj H
      go_enter Try.func17, Try.ntmps17
      go_wp2
      go_ret
      exact ⟨by first | rfl | (simp; done) | (simp [*]; done), by repeat (first | exact Drawn0.refl _ | apply Drawn0.step)⟩

end Go.Proofs.Ytahppppkepcbkaa.Fn
