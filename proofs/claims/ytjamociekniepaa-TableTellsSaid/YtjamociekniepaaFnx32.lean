-- Written by program (a turned copy of the kit's print) for this seat: functions, contracts. Lean checks it.
import Derived.Test.YtjamociekniepaaFnx0
import Derived.Test.YtjamociekniepaaFnx6
namespace Go.Proofs.Ytjamociekniepaa.Fn
open Go.RowKit Go.Proofs.YtjamociekniepaaW.PrintWords Go.Proofs.YtjamociekniepaaW.PrintLast Go.Proofs.YtjamociekniepaaW.PrintMore
attribute [local go_sem] max2_int min2_int max_two min_two max_three min_three max_four min_four   -- for this text's walks alone
set_option linter.unusedVariables false
set_option linter.unusedSimpArgs false

/-! ### tattleref06_Apply: function 44 -/
def tattleref06_Apply.f (l0 : List (S26)) (a1 : Int) (a2_0 : Int) (a2_1 : Int) : Option ((List (S26))) := (some (([] : List (S26)) : List (S26))).bind fun y585 => (if y585.length + l0.length < 8796093022208 then ((some (y585 ++ l0 : List (S26))).bind fun y588 => (if 0 ≤ a1 then (if a1 < (l0.length : Int) then ((tattleref05_Join.f a2_0 a2_1 ((rd_T26 l0 a1).f0) ((rd_T26 l0 a1).f1)).bind fun bt592 => (if a1 < (y588.length : Int) then (some (y588.set (a1 : Int).toNat (⟨bt592.1, bt592.2⟩ : S26))) else (none))) else (none)) else (none))) else (none))
def tattleref06_Apply.T2 : Bool × List (List Nat × List Nat) := (true, [([], []), ([], []), ([], []), ([], []), ([], []), ([3, 4], [3, 4]), ([5], [5]), ([2, 6], [2, 6]), ([0, 1, 0, 1, 2, 3, 4, 5, 6, 7], [0, 1]), ([8, 7, 7, 0, 1, 2, 3, 4, 5, 6, 7], [7, 8])])
def tattleref06_Apply.B2 : List Nat := [0, 0, 0, 0, 0, 24, 56, 124, 255, 511]
theorem tattleref06_Apply.tab2 : rtab .any (opsOf Try.f44 2) = tattleref06_Apply.T2 := by kernel_rfl
theorem tattleref06_Apply.bits2 : waitsOk tattleref06_Apply.T2.2 tattleref06_Apply.B2 = true := by kernel_rfl
set_option maxHeartbeats 8000000 in
set_option maxRecDepth 100000 in
theorem tattleref06_Apply.calls (A0 : Option Addr) (c0 : Nat) (l0 : List (S26)) (a1 : Int) (a2_0 : Int) (a2_1 : Int) (r : List (S26)) (w : World) (hr0 : Kd.C k26 w A0 l0.length l0) (hc0 : l0.length ≤ c0) (h : tattleref06_Apply.f l0 a1 a2_0 a2_1 = some r) :
    Calls Try.prog 44 #[.slice A0 l0.length c0, .int .i64 a1, .agg #[.int .u64 a2_0, .int .i64 a2_1]] w fun e w' => ∃ v0_ : Value, e = .returned (v0_) ∧ Kd.R k26 26 w' w.heap.size (fun _ => True) v0_ r ∧ Below w.heap.size w w' := by
  have hu26 := Try.underlying26
  have HR0 := Aside0.mk hr0
  have HC0 := Aside0.mk hc0
  clear hr0 hc0
  have HB := Aside0.mk (Below.refl w.heap.size w)
  have H : ((some (([] : List (S26)) : List (S26))).bind fun y585 => (if y585.length + l0.length < 8796093022208 then ((some (y585 ++ l0 : List (S26))).bind fun y588 => (if 0 ≤ a1 then (if a1 < (l0.length : Int) then ((tattleref05_Join.f a2_0 a2_1 ((rd_T26 l0 a1).f0) ((rd_T26 l0 a1).f1)).bind fun bt592 => (if a1 < (y588.length : Int) then (some (y588.set (a1 : Int).toNat (⟨bt592.1, bt592.2⟩ : S26))) else (none))) else (none)) else (none))) else (none))) = some r := h
  clear h
  obtain ⟨y585, hy585⟩ : ∃ y_ : List (S26), y_ = (([] : List (S26))) := ⟨_, rfl⟩
  replace H : (if y585.length + l0.length < 8796093022208 then ((some (y585 ++ l0 : List (S26))).bind fun y588 => (if 0 ≤ a1 then (if a1 < (l0.length : Int) then ((tattleref05_Join.f a2_0 a2_1 ((rd_T26 l0 a1).f0) ((rd_T26 l0 a1).f1)).bind fun bt592 => (if a1 < (y588.length : Int) then (some (y588.set (a1 : Int).toNat (⟨bt592.1, bt592.2⟩ : S26))) else (none))) else (none)) else (none))) else (none)) = some r := by first | (rw [hy585]; with_reducible exact H) | (have H2_ := (Option.bind_some _ _).symm.trans H; rw [hy585]; with_reducible exact H2_) | (have H2_ := (Option.bind_some _ _).symm.trans H; with_reducible exact H2_) | with_reducible exact H | (rw [hy585]; exact H) | exact H
  have Ny585 := Aside0.mk hy585
  clear hy585
  by_cases c4 : y585.length + l0.length < 8796093022208
  · rw [if_pos c4] at H
    have LMc4 := Aside0.mk c4
    clear c4
    obtain ⟨y588, hy588⟩ : ∃ y_ : List (S26), y_ = (y585 ++ l0) := ⟨_, rfl⟩
    replace H : (if 0 ≤ a1 then (if a1 < (l0.length : Int) then ((tattleref05_Join.f a2_0 a2_1 ((rd_T26 l0 a1).f0) ((rd_T26 l0 a1).f1)).bind fun bt592 => (if a1 < (y588.length : Int) then (some (y588.set (a1 : Int).toNat (⟨bt592.1, bt592.2⟩ : S26))) else (none))) else (none)) else (none)) = some r := by first | (rw [hy588]; with_reducible exact H) | (have H2_ := (Option.bind_some _ _).symm.trans H; rw [hy588]; with_reducible exact H2_) | (have H2_ := (Option.bind_some _ _).symm.trans H; with_reducible exact H2_) | with_reducible exact H | (rw [hy588]; exact H) | exact H
    have Ny588 := Aside0.mk hy588
    clear hy588
    by_cases c5 : 0 ≤ a1
    · rw [if_pos c5] at H
      have c5b0 : decide (0 ≤ a1) = true := decide_eq_true c5
      clear c5
      by_cases c6 : a1 < (l0.length : Int)
      · rw [if_pos c6] at H
        have c6b0 : decide (a1 < (l0.length : Int)) = true := decide_eq_true c6
        clear c6
        replace H := Option.bind_eq_some_iff.mp H
        obtain ⟨⟨t592, t593⟩, A70, H⟩ := H
        replace H : (if a1 < (y588.length : Int) then (some (y588.set (a1 : Int).toNat (⟨t592, t593⟩ : S26))) else (none)) = some r := H
        have A7 := Aside0.mk A70
        clear A70
        by_cases c8 : a1 < (y588.length : Int)
        · rw [if_pos c8] at H
          have c8b0 : decide (a1 < (y588.length : Int)) = true := decide_eq_true c8
          clear c8
          obtain ⟨y594, hy594⟩ : ∃ y_ : List (S26), y_ = (y588.set (a1 : Int).toNat (⟨t592, t593⟩ : S26)) := ⟨_, rfl⟩
          replace H : (some y594) = some r := by first | (rw [hy594]; with_reducible exact H) | (have H2_ := (Option.bind_some _ _).symm.trans H; rw [hy594]; with_reducible exact H2_) | (have H2_ := (Option.bind_some _ _).symm.trans H; with_reducible exact H2_) | with_reducible exact H | (rw [hy594]; exact H) | exact H
          have Ny594 := Aside0.mk hy594
          clear hy594
          obtain rfl := Option.some.inj H
          go_enter Try.func44, Try.ntmps44
          try go_wp2_with (first | ((with_reducible refine gate_dst (N := 5) rfl ?_); refine box_event ?hg (N := 5) ?hd (cs := #[.int .u64 a2_0, .int .i64 a2_1]) (t := 26) ?hr ?_; (case hd => rfl); (case hg => rfl); (case hr => first | (go_simp; done) | (go_simp; rfl)); intro gb584 hg w10 hbox hb; have n0_ := Aside0.mk (below_step (by repeat (first | (with_reducible first | exact HB.out | apply below_alloc | apply pw_below_drewN | apply below_drew1) | exact HB.out)) hb); have n1_ := Aside0.mk (hbox); have n2_ := Aside0.mk ((by rw [hg]; exact (below_size (by repeat (first | (with_reducible first | exact HB.out | apply below_alloc | apply pw_below_drewN | apply below_drew1) | exact HB.out))) : w.heap.size ≤ gb584)); have n3_ := Aside0.mk ((by rw [hg]; exact (below_size (by repeat (first | (with_reducible first | exact HB.out | apply below_alloc | apply pw_below_drewN | apply below_drew1) | exact HB.out))) : w.heap.size ≤ gb584)); clear HB; have HB := n0_; have BK584 := n1_; have GW584 := n2_; have GE584 := n3_; clear n0_ n1_ n2_ n3_; clear hb hbox hg) | ((with_reducible refine gate_dst (N := 8) rfl ?_); refine Kd.R_lit k26 _ 26 ?hg (N := 8) ?hd (xs := ([] : List (S26))) (inner := []) (ok := fun _ => True) (okp := fun _ => True) ?hr ?hp (fun _ hk => hk) trivial (Below.refl _ _) (Nat.le_refl _) (by simp) ?_; (case hd => rfl); (case hg => rfl); (case hr => first | (go_simp; done) | (go_simp; rfl)); (case hp => exact (Reps.none _ _)); intro v586 w11 ho12 hb hg_ hnew_; clear hg_ hnew_; (first | rw [← Ny585.out] at ho12 | (simp only [Int.reduceToNat] at ho12; rw [← Ny585.out] at ho12)); have n0_ := Aside0.mk (Kd.R_lower (Kd.R_newB ho12 (g := gb584) (o := .cells #[.int .u64 a2_0, .int .i64 a2_1] 26 (0, 0)) (by (with_reducible repeat (first | refine blk_drewN ?_ _ | refine blk_drew ?_ | refine blk_alloc ?_ _)); exact BK584.out)) (below_size (by repeat (first | (with_reducible first | exact HB.out | apply below_alloc | apply pw_below_drewN | apply below_drew1 | refine below_set ?_ GE584.out) | exact HB.out)))); have n1_ := Aside0.mk (blk_below (g := gb584) (o := .cells #[.int .u64 a2_0, .int .i64 a2_1] 26 (0, 0)) (by (with_reducible repeat (first | refine blk_drewN ?_ _ | refine blk_drew ?_ | refine blk_alloc ?_ _)); exact BK584.out) hb); have n2_ := Aside0.mk (below_step (by repeat (first | (with_reducible first | exact HB.out | apply below_alloc | apply pw_below_drewN | apply below_drew1 | refine below_set ?_ GE584.out) | exact HB.out)) hb); clear BK584; clear HB; have HO587 := n0_; have BK584 := n1_; have HB := n2_; clear n0_ n1_ n2_; clear hb ho12) | ((with_reducible refine gate_builtin (b := .append) (xs := #[.tmp 8, .tmp 9]) rfl ?_); at_builtin; refine Kd.R_append_rows k26 (w0 := w) w.heap.size rfl (.tmp 8) (.tmp 9) 22 26 (.agg #[(.int .u64 0), (.int .i64 0)]) 16 rfl Try.underlying22 info26 rfl (by decide) (by omega) v586 y585 l0 _ _ _ (fun k_ => k_ ≠ gb584) (fun _ => False) rfl rfl ?aO ?aR (fun _ _ h => h) (fun _ h => h.elim) ?aF ?aB ?aS ?aL ?_; (case aR => repeat (first | exact (Kd.C_below HR0.out HB.out) | (with_reducible refine Kd.C_alloc ?_ _) | (with_reducible refine Kd.C_drewN ?_ _) | (with_reducible refine Kd.C_drew ?_))); (case aB => exact (by repeat (first | (with_reducible first | exact HB.out | apply below_alloc | apply pw_below_drewN | apply below_drew1 | refine below_set ?_ GE584.out) | exact HB.out))); (case aF => exact (fun k_ hk => Kd.freshB (g := gb584) (o := .cells #[.int .u64 a2_0, .int .i64 a2_1] 26 (0, 0)) (by (with_reducible repeat (first | refine blk_drewN ?_ _ | refine blk_drew ?_ | refine blk_alloc ?_ _)); exact BK584.out) k_ hk)); (case aO => exact (by (with_reducible repeat (first | apply Kd.R_alloc | apply Kd.R_drewN | apply Kd.R_drew)); exact Kd.R_mono HO587.out (fun _ hk => hk.2))); (case aS => exact (below_size (by repeat (first | (with_reducible first | exact HB.out | apply below_alloc | apply pw_below_drewN | apply below_drew1 | refine below_set ?_ GE584.out) | exact HB.out)))); (case aL => have := LMc4.out; omega); intro v589 w13 ho hb hg hat; rw [← Ny588.out] at ho; have n0_ := Aside0.mk (blk_grown (g := gb584) (o := .cells #[.int .u64 a2_0, .int .i64 a2_1] 26 (0, 0)) (by (with_reducible repeat (first | refine blk_drewN ?_ _ | refine blk_drew ?_ | refine blk_alloc ?_ _)); exact BK584.out) hg (Kd.R_away HO587.out (fun _ hk => hk.2))); have n1_ := Aside0.mk (hb); have n2_ := Aside0.mk (ho); clear BK584; clear HB; clear HO587; have BK584 := n0_; have HB := n1_; have HO590 := n2_; clear n0_ n1_ n2_; clear ho hb hg hat))
          have n0_ := Aside0.mk (Kd.R_drew HO590.out)
          have n1_ := Aside0.mk (blk_drew BK584.out)
          have n2_ := Aside0.mk (below_drew1 HB.out)
          clear HO590
          clear BK584
          clear HB
          have HO590 := n0_
          have BK584 := n1_
          have HB := n2_
          clear n0_ n1_ n2_
          have p591 : 0 ≤ (a1 : Int) := of_decide_eq_true (by first | (with_reducible assumption) | assumption)
          have q591 : a1 < (l0.length : Int) := of_decide_eq_true (by first | (with_reducible assumption) | assumption)
          obtain ⟨ad591, e591, hx591_0, hx591_1⟩ := at_T26 HR0.out a1 p591 q591
          have hw591_1 := hx591_1
          have hw591_0 := hx591_0
          cases e591
          replace hx591_0 := (HB.out.cell (World.block_lt_of_cell? w _ hx591_0)).trans hx591_0
          replace hx591_1 := (HB.out.cell (World.block_lt_of_cell? w _ hx591_1)).trans hx591_1
          replace p591 := eq_true p591
          replace q591 := eq_true q591
          refine start_ (n := 10) (S := fun w' => w'.cell? ⟨gb584, 0, none⟩ = some (.int .u64 a2_0) ∧ w'.cell? ⟨gb584, 1, none⟩ = some (.int .i64 a2_1) ∧ w'.cell? (ad591.add ((a1).toNat * 2)) = some (.int .u64 ((rd_T26 l0 a1).f0)) ∧ w'.cell? ⟨(ad591.add ((a1).toNat * 2)).block, (ad591.add ((a1).toNat * 2)).off + 1, none⟩ = some (.int .i64 ((rd_T26 l0 a1).f1))) (ds := [9]) #[false, false, false, false, false, false, false, false, false, false] (by kernel_rfl) rfl rfl ⟨(blk_cell BK584.out 0).trans rfl, (blk_cell BK584.out 1).trans rfl, ((HB.out.cell (World.block_lt_of_cell? w _ hw591_0)).trans hw591_0), ((HB.out.cell (World.block_lt_of_cell? w _ hw591_1)).trans hw591_1)⟩ (fun hHeld => ?_); refine with_tabW tattleref06_Apply.tab2 tattleref06_Apply.bits2 (fun HT_ HW_ => ?_)
          generalize w13.drew = w14 at HO590 BK584 HB hx591_0 hx591_1 hHeld ⊢
          refine pure_ (i := 0) (N := some 11) (v := ?_) (a' := ?_) #[true, false, false, false, false, false, false, false, false, false] rfl rfl (any_of HT_.out (by kernel_rfl)) (fun _ _ _ h => h) (Or.inl ⟨by rfl, ?_⟩) ?_ ?_
          rotate_left
          · intro w'
            go_simp
            with_reducible rfl
          rotate_left
          · simp only [Act.put, List.setIfInBounds_toArray, List.set_cons_zero, List.set_cons_succ, i64_w, i32_w]
            rfl
          refine pure_ (i := 1) (N := some 12) (v := ?_) (a' := ?_) #[true, true, false, false, false, false, false, false, false, false] rfl rfl (any_of HT_.out (by kernel_rfl)) (fun _ _ _ h => h) (Or.inl ⟨by rfl, ?_⟩) ?_ ?_
          rotate_left
          · intro w'
            go_simp
            with_reducible rfl
          rotate_left
          · simp only [Act.put, List.setIfInBounds_toArray, List.set_cons_zero, List.set_cons_succ, i64_w, i32_w]
            rfl
          refine pure_ (i := 3) (N := some 14) (v := ?_) (a' := ?_) #[true, true, false, true, false, false, false, false, false, false] rfl rfl (any_of HT_.out (by kernel_rfl)) (fun _ _ _ h => h) (Or.inl ⟨by rfl, ?_⟩) ?_ ?_
          rotate_left
          · intro w'
            go_simp
            with_reducible rfl
          rotate_left
          · simp only [Act.put, List.setIfInBounds_toArray, List.set_cons_zero, List.set_cons_succ, i64_w, i32_w]
            rfl
          refine pure_ (i := 4) (N := some 15) (v := ?_) (a' := ?_) #[true, true, false, true, true, false, false, false, false, false] rfl rfl (any_of HT_.out (by kernel_rfl)) (fun _ _ _ h => h) (Or.inl ⟨by rfl, ?_⟩) ?_ ?_
          rotate_left
          · intro w'
            go_simp
            with_reducible rfl
          rotate_left
          · simp only [Act.put, List.setIfInBounds_toArray, List.set_cons_zero, List.set_cons_succ, i64_w, i32_w]
            rfl
          refine pure_ (i := 5) (N := some 16) (v := ?_) (a' := ?_) #[true, true, false, true, true, true, false, false, false, false] rfl rfl (any_of HT_.out (by kernel_rfl)) (fun _ _ _ h => h) (Or.inl ⟨by rfl, ?_⟩) ?_ ?_
          rotate_left
          · intro w'
            go_simp
            with_reducible rfl
          rotate_left
          · simp only [Act.put, List.setIfInBounds_toArray, List.set_cons_zero, List.set_cons_succ, i64_w, i32_w]
            rfl
          refine take_ (i := 2) (N := some 13) (v := ?_) (a' := ?_) #[true, true, true, true, true, true, false, false, false, false] rfl rfl (take_ofW HT_.out HW_.out (by kernel_rfl)) (fun _ _ _ h => h) (Or.inl ⟨by rfl, ?_⟩) hHeld ?_ ?_
          rotate_left
          · rintro w' ⟨s0, s1, s2, s3⟩
            go_simp
            with_reducible rfl
          rotate_left
          · simp only [Act.put, List.setIfInBounds_toArray, List.set_cons_zero, List.set_cons_succ, i64_w, i32_w]
            rfl
          refine take_ (i := 6) (N := some 17) (v := ?_) (a' := ?_) #[true, true, true, true, true, true, true, false, false, false] rfl rfl (take_ofW HT_.out HW_.out (by kernel_rfl)) (fun _ _ _ h => h) (Or.inl ⟨by rfl, ?_⟩) hHeld ?_ ?_
          rotate_left
          · rintro w' ⟨s0, s1, s2, s3⟩
            go_simp
            with_reducible rfl
          rotate_left
          · simp only [Act.put, List.setIfInBounds_toArray, List.set_cons_zero, List.set_cons_succ, i64_w, i32_w]
            rfl
          refine one_ (i := 7) (N := some 18) #[true, true, true, true, true, true, true, true, false, false] rfl rfl (one_of HT_.out (by kernel_rfl)) (by decide) (fun K hK => ?_)
          refine goes_ Try.func19 (by kernel_rfl) rfl #[.agg #[.int .u64 a2_0, .int .i64 a2_1], .agg #[.int .u64 ((rd_T26 l0 a1).f0), .int .i64 ((rd_T26 l0 a1).f1)]] (by rfl) rfl rfl (by (try simp only [List.map_toArray, List.map_cons, List.map_nil]); first | done | rfl | (simp only [List.length_drop, List.length_take]; rfl)) ?_
          with_reducible refine (tattleref05_Join.calls a2_0 a2_1 ((rd_T26 l0 a1).f0) ((rd_T26 l0 a1).f1) t592 t593 _ A7.out).mono ?_
          rintro e w15 ⟨rfl, hb⟩
          refine ⟨_, rfl, ?_⟩
          have n0_ := Aside0.mk (Kd.R_below (by (with_reducible repeat (first | apply Kd.R_alloc | apply Kd.R_drewN | apply Kd.R_drew)); exact HO590.out) hb)
          have n1_ := Aside0.mk (blk_below (g := gb584) (o := .cells #[.int .u64 a2_0, .int .i64 a2_1] 26 (0, 0)) (by (with_reducible repeat (first | refine blk_drewN ?_ _ | refine blk_drew ?_ | refine blk_alloc ?_ _)); exact BK584.out) hb)
          have n2_ := Aside0.mk (below_step (by repeat (first | (with_reducible first | exact HB.out | apply below_alloc | apply pw_below_drewN | apply below_drew1 | refine below_set ?_ GE584.out) | exact HB.out)) hb)
          clear HO590
          clear BK584
          clear HB
          have HO590 := n0_
          have BK584 := n1_
          have HB := n2_
          clear n0_ n1_ n2_
          (try clear hb)
          (try clear hb2)
          (try clear hk)
          (try clear hi)
          have p9 : 0 ≤ (a1 : Int) := of_decide_eq_true (by first | (with_reducible assumption) | assumption)
          have q9 : (a1 : Int) < ((y588.length : Int) : Int) := of_decide_eq_true (by first | (with_reducible assumption) | assumption)
          obtain ⟨go9, co9, eo9, gb9, gl9, cl9, HG9⟩ := Kd.R_form HO590.out (by omega)
          (first | cases eo9 | (injection eo9 with ea_ en_ ec_; (first | subst ea_ | (injection ea_ with ea_; subst ea_)); subst ec_; clear en_))
          have GB9 := Aside0.mk gb9
          have GG9 := Aside0.mk HG9
          clear gb9 gl9 HG9
          obtain ⟨ce9, hcl9, hM9, hcc9, hfr9⟩ := Kd.R_elem HO590.out z26 (a1 : Int) p9 q9
          obtain rfl := k26_openM hM9
          have hx9_0 : World.cell? _ ⟨go9, (a1 : Int).toNat * 2, none⟩ = some (.int .u64 ((rd_T26 y588 a1).f0)) := hcc9 0 _ rfl
          have hx9_1 : World.cell? _ ⟨go9, (a1 : Int).toNat * 2 + 1, none⟩ = some (.int .i64 ((rd_T26 y588 a1).f1)) := hcc9 1 _ rfl
          have hf9_0 : World.frozen? _ ⟨go9, (a1 : Int).toNat * 2, none⟩ = false := hfr9 0
          have hf9_1 : World.frozen? _ ⟨go9, (a1 : Int).toNat * 2 + 1, none⟩ = false := hfr9 1
          clear hcl9 hcc9 hfr9 hM9
          replace p9 := eq_true p9
          replace q9 := eq_true q9
          obtain ⟨ce16, hcl16, hM16, hcc16, hfr16⟩ := Kd.R_elem HO590.out z26 (a1 : Int) (of_decide_eq_true (by first | (with_reducible assumption) | assumption)) (by have h_ : (a1 : Int) < ((y588.length : Int) : Int) := of_decide_eq_true (by first | (with_reducible assumption) | assumption); first | exact h_ | (have e_ := (Kd.R_reads' HO590.out).1; omega) | simpa using h_)
          obtain rfl := k26_openM hM16
          have HP16 := (Kd.R_seg HO590.out (a1 : Int) (of_decide_eq_true (by first | (with_reducible assumption) | assumption)) (by have h_ : (a1 : Int) < ((y588.length : Int) : Int) := of_decide_eq_true (by first | (with_reducible assumption) | assumption); first | exact h_ | (have e_ := (Kd.R_reads' HO590.out).1; omega) | simpa using h_) (seg := [.int .u64 t592, .int .i64 t593]) (j := 0) hcl16 hcc16 (show 2 ≤ 2 from by decide) (x' := (⟨t592, t593⟩ : S26)) (k26_mkM _ _ _ (⟨t592, t593⟩ : S26) ) (fun _ hk => hk)).1
          rw [← Ny594.out] at HP16
          have HQ16 := Aside0.mk HP16
          clear hcl16 hcc16 hfr16 hM16 HP16
          refine hK.out _ _ ⟨(blk_cell BK584.out 0).trans rfl, (blk_cell BK584.out 1).trans rfl, ((HB.out.cell (World.block_lt_of_cell? w _ hw591_0)).trans hw591_0), ((HB.out.cell (World.block_lt_of_cell? w _ hw591_1)).trans hw591_1)⟩ (fun hHeld => ?_)
          clear hK K
          refine norm_ (a' := ?_) ?_ ?_
          rotate_left
          · show Act.put _ (some 18) _ = _
            simp only [Act.put, List.setIfInBounds_toArray, List.set_cons_zero, List.set_cons_succ, i64_w, i32_w]
            rfl
          refine pure_ (i := 8) (N := some 19) (v := ?_) (a' := ?_) #[true, true, true, true, true, true, true, true, true, false] rfl rfl (any_of HT_.out (by kernel_rfl)) (fun _ _ _ h => h) (Or.inl ⟨by rfl, ?_⟩) ?_ ?_
          rotate_left
          · intro w'
            go_simp
            with_reducible rfl
          rotate_left
          · simp only [Act.put, List.setIfInBounds_toArray, List.set_cons_zero, List.set_cons_succ, i64_w, i32_w]
            rfl
          refine last_ (i := 9) (N := none) #[true, true, true, true, true, true, true, true, true, true] rfl rfl (one_of HT_.out (by kernel_rfl)) (by decide) (fun K hK => ?_)
          refine skip_ (w1 := ?_) (by rfl) rfl ?_ ?_
          rotate_left
          · go_simp
            rfl
          refine hK.out _ _ ?_
          clear hK K
          refine done_ (done_of HT_.out (by kernel_rfl)) ?_
          try go_wp2
          go_ret
          exact ⟨_, by first | rfl | (simp [errW_none, errW_some] <;> rfl) | (simp [*, errW_none, errW_some] <;> rfl), by (with_reducible repeat (first | apply Kd.R_alloc | apply Kd.R_drewN | apply Kd.R_drew)); exact Kd.R_mono HQ16.out (fun _ hk => trivial), by repeat (first | (with_reducible first | exact HB.out | apply below_alloc | apply pw_below_drewN | apply below_drew1 | refine below_set ?_ GB9.out | refine below_set ?_ GB9.out | refine below_set ?_ GE584.out) | exact HB.out)⟩
        · rw [if_neg c8] at H
          exact absurd H (by simp)
      · rw [if_neg c6] at H
        exact absurd H (by simp)
    · rw [if_neg c5] at H
      exact absurd H (by simp)
  · rw [if_neg c4] at H
    exact absurd H (by simp)

end Go.Proofs.Ytjamociekniepaa.Fn
